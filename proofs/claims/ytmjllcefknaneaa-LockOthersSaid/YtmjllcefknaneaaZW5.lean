/-
  law07_LockOthers: what the machine makes of it. (Printed by my own program.)
  Conditions: none.
-/
import Derived.Test.YtmjllcefknaneaaZPre
import Derived.Test.YtmjllcefknaneaaZPure
import Derived.Test.YtmjllcefknaneaaZW10
import Derived.Test.YtmjllcefknaneaaZW11
import Derived.Test.YtmjllcefknaneaaZW12
import Derived.Test.YtmjllcefknaneaaZW15
import Derived.Test.YtmjllcefknaneaaZW16
import Derived.Test.YtmjllcefknaneaaZW17
import Derived.Test.YtmjllcefknaneaaZW18
import Derived.Test.YtmjllcefknaneaaZW19
import Derived.Test.YtmjllcefknaneaaZW20
set_option linter.unusedVariables false
set_option linter.unusedSimpArgs false
namespace Go.Ws
open Go.Proofs
set_option linter.unusedSimpArgs false
set_option linter.unusedVariables false
set_option maxRecDepth 1000000
set_option maxHeartbeats 4000000
noncomputable def X5 : Ctx := ⟨Try.f5, [], true⟩
noncomputable def L5_0 : Code := at_ Try.f5 [1, 1, 1, 1, 1, 1, 1, 0, 1, 4, 5]
def S5_0 (x1 : List (Int × Int × Bool)) (x2 : Int) (x3 : Int) (x4 : Int) (x5 : Bool) (v5001_1 : Int) (v5001_2 : List (Int × Int × Bool)) : St := ⟨mkT 114 [(3, (.hp 0 0)), (7, (.sl 3 (List.map e_u8_i64_b v5001_2))), (76, (.sl 3 (List.map e_u8_i64_b x1))), (77, (.int .i64 (nI x1.length))), (78, (.int .i64 v5001_1))], [(.row [(.int .u8 x2), (.int .i64 x3), (.int .u8 x4), (.bool x5)])]⟩
def E5_0_0 (x2 : Int) (x3 : Int) (x4 : Int) (x5 : Bool) (v5002_1 : List (Int × Int × Bool)) : St := ⟨mkT 114 [(3, (.hp 0 0)), (7, (.sl 3 (List.map e_u8_i64_b v5002_1)))], [(.row [(.int .u8 x2), (.int .i64 x3), (.int .u8 x4), (.bool x5)])]⟩
def O5_0 (x1 : List (Int × Int × Bool)) (x2 : Int) (x3 : Int) (x4 : Int) (x5 : Bool) (y : ((List (Int × Int × Bool)))) : GX := .st (.exit 0) (E5_0_0 x2 x3 x4 x5 y)
theorem ok_law07_LockOthers_l0 (x1 : List (Int × Int × Bool)) (x2 : Int) (x3 : Int) (x4 : Int) (x5 : Bool) (y : ((List (Int × Int × Bool)))) : ∀ (k : Nat) (v5001_1 : Int) (v5001_2 : List (Int × Int × Bool)), law07_LockOthers_l0 k x1 x2 x3 x4 x5 v5001_1 v5001_2 = some y → LT Try.prog X5 L5_0 (S5_0 x1 x2 x3 x4 x5 v5001_1 v5001_2) (O5_0 x1 x2 x3 x4 x5 y)
  | 0, v5001_1, v5001_2, h => by cases h
  | k + 1, v5001_1, v5001_2, h => by
    rw [law07_LockOthers_l0] at h
    by_cases cL0 : ltI v5001_1 (nI x1.length) = true
    · rw [if_pos cL0] at h
      by_cases cL1 : inI v5001_1 x1.length = true
      · rw [if_pos cL1] at h
        obtain ⟨v5000_1, eL2, h⟩ := Option.bind_eq_some_iff.1 h
        by_cases cL3 : eqI v5000_1.2.1 x3 = true
        · rw [if_pos cL3] at h
          exact LT.next mixed (hs := ⟨[(3, []), (7, []), (76, []), (77, []), (78, [])], [⟨.tmp 3, [], none⟩], false, [], []⟩) (es := none) [.d true, .n x1.length, .row [(.int .u8 v5000_1.1), (.int .i64 v5000_1.2.1), (.bool v5000_1.2.2)], .d false] [⟨(nF cL3)⟩, ⟨(cells_map (e := e_u8_i64_b) eL2 3 0 3 (by decide))⟩, ⟨cL1⟩, ⟨(len_map e_u8_i64_b x1)⟩, ⟨cL0⟩] (by kernel_rfl) (ok_law07_LockOthers_l0 x1 x2 x3 x4 x5 y k (iadd .i64 v5001_1 1) v5001_2 h)
        · rw [if_neg cL3] at h
          replace cL3 := eqf cL3
          obtain ⟨v5000_2, eL4, h⟩ := Option.bind_eq_some_iff.1 h
          exact LT.next mixed (hs := ⟨[(3, []), (7, []), (76, []), (77, []), (78, [])], [⟨.tmp 3, [], none⟩], false, [], []⟩) (es := none) [.d true, .n x1.length, .row [(.int .u8 v5000_1.1), (.int .i64 v5000_1.2.1), (.bool v5000_1.2.2)], .d true, .call ⟨true, []⟩ (.sl 3 (List.map e_u8_i64_b v5000_2)) []] [⟨(ok_lock_Free k v5001_2 v5000_1.2.1 _ eL4)⟩, ⟨(nT cL3)⟩, ⟨(cells_map (e := e_u8_i64_b) eL2 3 0 3 (by decide))⟩, ⟨cL1⟩, ⟨(len_map e_u8_i64_b x1)⟩, ⟨cL0⟩] (by kernel_rfl) (ok_law07_LockOthers_l0 x1 x2 x3 x4 x5 y k (iadd .i64 v5001_1 1) v5000_2 h)
      · rw [if_neg cL1] at h
        replace cL1 := eqf cL1
        cases h
    · rw [if_neg cL0] at h
      replace cL0 := eqf cL0
      obtain rfl := Option.some.inj h
      show LT _ _ _ _ (.st (.exit 0) (E5_0_0 x2 x3 x4 x5 v5001_2))
      exact LT.done mixed (hs := ⟨[], [], false, [], []⟩) (es := (some ⟨[(3, []), (7, [])], [⟨.tmp 3, [], none⟩], false, [], []⟩)) [.d false] [⟨cL0⟩] (by kernel_rfl) (fun s h => by cases h)
theorem ok_law07_LockOthers (k : Nat) (x1 : List (Int × Int × Bool)) (x2 : Int) (x3 : Int) (x4 : Int) (x5 : Bool) (r : Bool) (h : law07_LockOthers k x1 x2 x3 x4 x5 = some r) : Tri Try.prog 5 [(.sl 3 (List.map e_u8_i64_b x1)), (.agg [(.int .u8 x2), (.int .i64 x3), (.int .u8 x4), (.bool x5)])] [] (.bool r) [] := by
    unfold law07_LockOthers at h
    obtain ⟨x6, e0, h⟩ := Option.bind_eq_some_iff.1 h
    by_cases c1 : x6 = true
    · rw [if_pos c1] at h
      by_cases c2 : ltI 100 (nI x1.length) = true
      · rw [if_pos c2] at h
        obtain rfl := Option.some.inj h
        exact Tri.of (x := X5) mixed facts5 [.call ⟨true, []⟩ (.bool x6) [], .d false, .n x1.length, .d true, .d true, .d true, .d true, .d true] [⟨(rfl : true = true)⟩, ⟨c2⟩, ⟨c2⟩, ⟨c2⟩, ⟨c2⟩, ⟨(len_map e_u8_i64_b x1)⟩, ⟨(nF c1)⟩, ⟨(ok_law07_alive k _ e0)⟩] (by kernel_rfl)
      · rw [if_neg c2] at h
        replace c2 := eqf c2
        obtain ⟨x7, e3, h⟩ := Option.bind_eq_some_iff.1 h
        by_cases c4 : x7 = true
        · rw [if_pos c4] at h
          obtain ⟨x8, e5, h⟩ := Option.bind_eq_some_iff.1 h
          obtain ⟨x9, e6, h⟩ := Option.bind_eq_some_iff.1 h
          obtain ⟨x10, e7, h⟩ := Option.bind_eq_some_iff.1 h
          obtain ⟨x11, e8, h⟩ := Option.bind_eq_some_iff.1 h
          obtain ⟨x12, e9, h⟩ := Option.bind_eq_some_iff.1 h
          obtain ⟨x13, e10, h⟩ := Option.bind_eq_some_iff.1 h
          by_cases c11 : x13 = true
          · rw [if_pos c11] at h
            by_cases c12 : eqI x9.2 0 = true
            · rw [if_pos c12] at h
              by_cases c13 : eqI x9.2 9 = true
              · rw [if_pos c13] at h
                obtain ⟨x14, e14, h⟩ := Option.bind_eq_some_iff.1 h
                obtain ⟨x16, e15, h⟩ := Option.bind_eq_some_iff.1 h
                obtain ⟨x17, e17, h⟩ := Option.bind_eq_some_iff.1 h
                by_cases c18 : eqI x17.2 0 = true
                · rw [if_pos c18] at h
                  obtain ⟨x18, e19, h⟩ := Option.bind_eq_some_iff.1 h
                  obtain rfl := Option.some.inj h
                  exact Tri.of (x := X5) mixed facts5 [.call ⟨true, []⟩ (.bool x6) [], .d false, .n x1.length, .d false, .d false, .call ⟨true, []⟩ (.bool x7) [], .d false, .d false, .d false, .call ⟨true, []⟩ (.sl 3 (List.map e_u8_i64_b x8)) [], .call ⟨true, []⟩ (.tup [(.sl 3 (List.map e_u8_i64_b x9.1)), (.int .i64 x9.2)]) [], .call ⟨true, []⟩ (.sl 3 (List.map e_u8_i64_b x10)) [], .call ⟨true, []⟩ (.sl 3 (List.map e_u8_i64_b x11)) [], .call ⟨true, []⟩ (.sl 3 (List.map e_u8_i64_b x12)) [], .call ⟨true, []⟩ (.bool x13) [], .d false, .d false, .d false, .d false, .d false, .d false, .d false, .d false, .d false, .d false, .d false, .d false, .d false, .call ⟨true, []⟩ (.sl 3 (List.map e_u8_i64_b x14)) [], .n x1.length, .norm 2 ⟨[(3, []), (7, []), (76, []), (77, []), (78, [])], [⟨.tmp 3, [], none⟩], false, [], []⟩, .out (.st .normal (E5_0_0 x2 x3 x4 x5 x16)), .call ⟨true, []⟩ (.tup [(.sl 3 (List.map e_u8_i64_b x17.1)), (.int .i64 x17.2)]) [], .d true, .d true, .d true, .d true, .d true, .d true, .call ⟨true, []⟩ (.int .i64 x18) [], .d true, .d true] [⟨c18⟩, ⟨c18⟩, ⟨(ok_lock_Holds k x17.1 x3 x4 _ e19)⟩, ⟨c18⟩, ⟨c18⟩, ⟨c18⟩, ⟨c18⟩, ⟨c18⟩, ⟨c18⟩, ⟨(ok_lock_Take k x16 x3 x4 x5 _ e17)⟩, ⟨(LT.block (ok_law07_LockOthers_l0 x1 x2 x3 x4 x5 _ k 0 x14 e15))⟩, ⟨(len_map e_u8_i64_b x1)⟩, ⟨(ok_law07_theirs k x1 _ e14)⟩, ⟨(nF c13)⟩, ⟨(rfl : false = false)⟩, ⟨(nF c11)⟩, ⟨(nF c12)⟩, ⟨(nF c11)⟩, ⟨(nF c12)⟩, ⟨(nF c12)⟩, ⟨(nF c12)⟩, ⟨(nF c12)⟩, ⟨(nF c12)⟩, ⟨(nF c11)⟩, ⟨(nF c11)⟩, ⟨(nF c11)⟩, ⟨(ok_ref07_Same k x11 x12 _ e10)⟩, ⟨(ok_ref07_Free k x1 x3 _ e9)⟩, ⟨(ok_law07_ours k x10 _ e8)⟩, ⟨(ok_lock_Free k x9.1 x3 _ e7)⟩, ⟨(ok_lock_Take k x8 x3 x4 x5 _ e6)⟩, ⟨(ok_law07_theirs k x1 _ e5)⟩, ⟨(nF c4)⟩, ⟨c2⟩, ⟨c2⟩, ⟨(ok_ref07_Right k x1 _ e3)⟩, ⟨c2⟩, ⟨c2⟩, ⟨(len_map e_u8_i64_b x1)⟩, ⟨(nF c1)⟩, ⟨(ok_law07_alive k _ e0)⟩] (by kernel_rfl)
                · rw [if_neg c18] at h
                  replace c18 := eqf c18
                  obtain rfl := Option.some.inj h
                  exact Tri.of (x := X5) mixed facts5 [.call ⟨true, []⟩ (.bool x6) [], .d false, .n x1.length, .d false, .d false, .call ⟨true, []⟩ (.bool x7) [], .d false, .d false, .d false, .call ⟨true, []⟩ (.sl 3 (List.map e_u8_i64_b x8)) [], .call ⟨true, []⟩ (.tup [(.sl 3 (List.map e_u8_i64_b x9.1)), (.int .i64 x9.2)]) [], .call ⟨true, []⟩ (.sl 3 (List.map e_u8_i64_b x10)) [], .call ⟨true, []⟩ (.sl 3 (List.map e_u8_i64_b x11)) [], .call ⟨true, []⟩ (.sl 3 (List.map e_u8_i64_b x12)) [], .call ⟨true, []⟩ (.bool x13) [], .d false, .d false, .d false, .d false, .d false, .d false, .d false, .d false, .d false, .d false, .d false, .d false, .d false, .call ⟨true, []⟩ (.sl 3 (List.map e_u8_i64_b x14)) [], .n x1.length, .norm 2 ⟨[(3, []), (7, []), (76, []), (77, []), (78, [])], [⟨.tmp 3, [], none⟩], false, [], []⟩, .out (.st .normal (E5_0_0 x2 x3 x4 x5 x16)), .call ⟨true, []⟩ (.tup [(.sl 3 (List.map e_u8_i64_b x17.1)), (.int .i64 x17.2)]) [], .d false, .d false, .d false, .d false, .d false, .d false, .d false, .d false] [⟨c18⟩, ⟨c18⟩, ⟨c18⟩, ⟨c18⟩, ⟨c18⟩, ⟨c18⟩, ⟨c18⟩, ⟨c18⟩, ⟨(ok_lock_Take k x16 x3 x4 x5 _ e17)⟩, ⟨(LT.block (ok_law07_LockOthers_l0 x1 x2 x3 x4 x5 _ k 0 x14 e15))⟩, ⟨(len_map e_u8_i64_b x1)⟩, ⟨(ok_law07_theirs k x1 _ e14)⟩, ⟨(nF c13)⟩, ⟨(rfl : false = false)⟩, ⟨(nF c11)⟩, ⟨(nF c12)⟩, ⟨(nF c11)⟩, ⟨(nF c12)⟩, ⟨(nF c12)⟩, ⟨(nF c12)⟩, ⟨(nF c12)⟩, ⟨(nF c12)⟩, ⟨(nF c11)⟩, ⟨(nF c11)⟩, ⟨(nF c11)⟩, ⟨(ok_ref07_Same k x11 x12 _ e10)⟩, ⟨(ok_ref07_Free k x1 x3 _ e9)⟩, ⟨(ok_law07_ours k x10 _ e8)⟩, ⟨(ok_lock_Free k x9.1 x3 _ e7)⟩, ⟨(ok_lock_Take k x8 x3 x4 x5 _ e6)⟩, ⟨(ok_law07_theirs k x1 _ e5)⟩, ⟨(nF c4)⟩, ⟨c2⟩, ⟨c2⟩, ⟨(ok_ref07_Right k x1 _ e3)⟩, ⟨c2⟩, ⟨c2⟩, ⟨(len_map e_u8_i64_b x1)⟩, ⟨(nF c1)⟩, ⟨(ok_law07_alive k _ e0)⟩] (by kernel_rfl)
              · rw [if_neg c13] at h
                replace c13 := eqf c13
                by_cases c14 : ltI x3 0 = true
                · rw [if_pos c14] at h
                  obtain rfl := Option.some.inj h
                  exact Tri.of (x := X5) mixed facts5 [.call ⟨true, []⟩ (.bool x6) [], .d false, .n x1.length, .d false, .d false, .call ⟨true, []⟩ (.bool x7) [], .d false, .d false, .d false, .call ⟨true, []⟩ (.sl 3 (List.map e_u8_i64_b x8)) [], .call ⟨true, []⟩ (.tup [(.sl 3 (List.map e_u8_i64_b x9.1)), (.int .i64 x9.2)]) [], .call ⟨true, []⟩ (.sl 3 (List.map e_u8_i64_b x10)) [], .call ⟨true, []⟩ (.sl 3 (List.map e_u8_i64_b x11)) [], .call ⟨true, []⟩ (.sl 3 (List.map e_u8_i64_b x12)) [], .call ⟨true, []⟩ (.bool x13) [], .d false, .d false, .d false, .d false, .d false, .d false, .d false, .d false, .d false, .d false, .d false, .d false, .d true, .d false, .d false, .d false, .d false, .d false, .d false, .d false, .d false] [⟨(rfl : false = false)⟩, ⟨(rfl : false = false)⟩, ⟨(rfl : false = false)⟩, ⟨(rfl : false = false)⟩, ⟨(nF c14)⟩, ⟨(nF c14)⟩, ⟨(nF c14)⟩, ⟨(nF c14)⟩, ⟨(nT c13)⟩, ⟨(rfl : false = false)⟩, ⟨(nF c11)⟩, ⟨(nF c12)⟩, ⟨(nF c11)⟩, ⟨(nF c12)⟩, ⟨(nF c12)⟩, ⟨(nF c12)⟩, ⟨(nF c12)⟩, ⟨(nF c12)⟩, ⟨(nF c11)⟩, ⟨(nF c11)⟩, ⟨(nF c11)⟩, ⟨(ok_ref07_Same k x11 x12 _ e10)⟩, ⟨(ok_ref07_Free k x1 x3 _ e9)⟩, ⟨(ok_law07_ours k x10 _ e8)⟩, ⟨(ok_lock_Free k x9.1 x3 _ e7)⟩, ⟨(ok_lock_Take k x8 x3 x4 x5 _ e6)⟩, ⟨(ok_law07_theirs k x1 _ e5)⟩, ⟨(nF c4)⟩, ⟨c2⟩, ⟨c2⟩, ⟨(ok_ref07_Right k x1 _ e3)⟩, ⟨c2⟩, ⟨c2⟩, ⟨(len_map e_u8_i64_b x1)⟩, ⟨(nF c1)⟩, ⟨(ok_law07_alive k _ e0)⟩] (by kernel_rfl)
                · rw [if_neg c14] at h
                  replace c14 := eqf c14
                  by_cases c15 : ltI x3 1000 = true
                  · rw [if_pos c15] at h
                    obtain rfl := Option.some.inj h
                    exact Tri.of (x := X5) mixed facts5 [.call ⟨true, []⟩ (.bool x6) [], .d false, .n x1.length, .d false, .d false, .call ⟨true, []⟩ (.bool x7) [], .d false, .d false, .d false, .call ⟨true, []⟩ (.sl 3 (List.map e_u8_i64_b x8)) [], .call ⟨true, []⟩ (.tup [(.sl 3 (List.map e_u8_i64_b x9.1)), (.int .i64 x9.2)]) [], .call ⟨true, []⟩ (.sl 3 (List.map e_u8_i64_b x10)) [], .call ⟨true, []⟩ (.sl 3 (List.map e_u8_i64_b x11)) [], .call ⟨true, []⟩ (.sl 3 (List.map e_u8_i64_b x12)) [], .call ⟨true, []⟩ (.bool x13) [], .d false, .d false, .d false, .d false, .d false, .d false, .d false, .d false, .d false, .d false, .d false, .d false, .d true, .d true, .d true, .d true, .d true, .d true, .d true, .d true, .d true] [⟨c15⟩, ⟨c15⟩, ⟨c15⟩, ⟨c15⟩, ⟨(nT c14)⟩, ⟨(nT c14)⟩, ⟨(nT c14)⟩, ⟨(nT c14)⟩, ⟨(nT c13)⟩, ⟨(rfl : false = false)⟩, ⟨(nF c11)⟩, ⟨(nF c12)⟩, ⟨(nF c11)⟩, ⟨(nF c12)⟩, ⟨(nF c12)⟩, ⟨(nF c12)⟩, ⟨(nF c12)⟩, ⟨(nF c12)⟩, ⟨(nF c11)⟩, ⟨(nF c11)⟩, ⟨(nF c11)⟩, ⟨(ok_ref07_Same k x11 x12 _ e10)⟩, ⟨(ok_ref07_Free k x1 x3 _ e9)⟩, ⟨(ok_law07_ours k x10 _ e8)⟩, ⟨(ok_lock_Free k x9.1 x3 _ e7)⟩, ⟨(ok_lock_Take k x8 x3 x4 x5 _ e6)⟩, ⟨(ok_law07_theirs k x1 _ e5)⟩, ⟨(nF c4)⟩, ⟨c2⟩, ⟨c2⟩, ⟨(ok_ref07_Right k x1 _ e3)⟩, ⟨c2⟩, ⟨c2⟩, ⟨(len_map e_u8_i64_b x1)⟩, ⟨(nF c1)⟩, ⟨(ok_law07_alive k _ e0)⟩] (by kernel_rfl)
                  · rw [if_neg c15] at h
                    replace c15 := eqf c15
                    obtain rfl := Option.some.inj h
                    exact Tri.of (x := X5) mixed facts5 [.call ⟨true, []⟩ (.bool x6) [], .d false, .n x1.length, .d false, .d false, .call ⟨true, []⟩ (.bool x7) [], .d false, .d false, .d false, .call ⟨true, []⟩ (.sl 3 (List.map e_u8_i64_b x8)) [], .call ⟨true, []⟩ (.tup [(.sl 3 (List.map e_u8_i64_b x9.1)), (.int .i64 x9.2)]) [], .call ⟨true, []⟩ (.sl 3 (List.map e_u8_i64_b x10)) [], .call ⟨true, []⟩ (.sl 3 (List.map e_u8_i64_b x11)) [], .call ⟨true, []⟩ (.sl 3 (List.map e_u8_i64_b x12)) [], .call ⟨true, []⟩ (.bool x13) [], .d false, .d false, .d false, .d false, .d false, .d false, .d false, .d false, .d false, .d false, .d false, .d false, .d true, .d true, .d true, .d true, .d true, .d false, .d false, .d false, .d false] [⟨c15⟩, ⟨c15⟩, ⟨c15⟩, ⟨c15⟩, ⟨(nT c14)⟩, ⟨(nT c14)⟩, ⟨(nT c14)⟩, ⟨(nT c14)⟩, ⟨(nT c13)⟩, ⟨(rfl : false = false)⟩, ⟨(nF c11)⟩, ⟨(nF c12)⟩, ⟨(nF c11)⟩, ⟨(nF c12)⟩, ⟨(nF c12)⟩, ⟨(nF c12)⟩, ⟨(nF c12)⟩, ⟨(nF c12)⟩, ⟨(nF c11)⟩, ⟨(nF c11)⟩, ⟨(nF c11)⟩, ⟨(ok_ref07_Same k x11 x12 _ e10)⟩, ⟨(ok_ref07_Free k x1 x3 _ e9)⟩, ⟨(ok_law07_ours k x10 _ e8)⟩, ⟨(ok_lock_Free k x9.1 x3 _ e7)⟩, ⟨(ok_lock_Take k x8 x3 x4 x5 _ e6)⟩, ⟨(ok_law07_theirs k x1 _ e5)⟩, ⟨(nF c4)⟩, ⟨c2⟩, ⟨c2⟩, ⟨(ok_ref07_Right k x1 _ e3)⟩, ⟨c2⟩, ⟨c2⟩, ⟨(len_map e_u8_i64_b x1)⟩, ⟨(nF c1)⟩, ⟨(ok_law07_alive k _ e0)⟩] (by kernel_rfl)
            · rw [if_neg c12] at h
              replace c12 := eqf c12
              obtain ⟨x14, e13, h⟩ := Option.bind_eq_some_iff.1 h
              obtain ⟨x15, e14, h⟩ := Option.bind_eq_some_iff.1 h
              by_cases c15 : x15 = true
              · rw [if_pos c15] at h
                by_cases c16 : eqI x9.2 9 = true
                · rw [if_pos c16] at h
                  obtain ⟨x16, e17, h⟩ := Option.bind_eq_some_iff.1 h
                  obtain ⟨x18, e18, h⟩ := Option.bind_eq_some_iff.1 h
                  obtain ⟨x19, e20, h⟩ := Option.bind_eq_some_iff.1 h
                  by_cases c21 : eqI x19.2 0 = true
                  · rw [if_pos c21] at h
                    obtain ⟨x20, e22, h⟩ := Option.bind_eq_some_iff.1 h
                    obtain rfl := Option.some.inj h
                    exact Tri.of (x := X5) mixed facts5 [.call ⟨true, []⟩ (.bool x6) [], .d false, .n x1.length, .d false, .d false, .call ⟨true, []⟩ (.bool x7) [], .d false, .d false, .d false, .call ⟨true, []⟩ (.sl 3 (List.map e_u8_i64_b x8)) [], .call ⟨true, []⟩ (.tup [(.sl 3 (List.map e_u8_i64_b x9.1)), (.int .i64 x9.2)]) [], .call ⟨true, []⟩ (.sl 3 (List.map e_u8_i64_b x10)) [], .call ⟨true, []⟩ (.sl 3 (List.map e_u8_i64_b x11)) [], .call ⟨true, []⟩ (.sl 3 (List.map e_u8_i64_b x12)) [], .call ⟨true, []⟩ (.bool x13) [], .d false, .d false, .d false, .d true, .d true, .call ⟨true, []⟩ (.sl 3 (List.map e_u8_i64_b x14)) [], .d true, .d true, .call ⟨true, []⟩ (.bool x15) [], .d true, .d false, .d true, .d false, .d false, .d false, .call ⟨true, []⟩ (.sl 3 (List.map e_u8_i64_b x16)) [], .n x1.length, .norm 2 ⟨[(3, []), (7, []), (76, []), (77, []), (78, [])], [⟨.tmp 3, [], none⟩], false, [], []⟩, .out (.st .normal (E5_0_0 x2 x3 x4 x5 x18)), .call ⟨true, []⟩ (.tup [(.sl 3 (List.map e_u8_i64_b x19.1)), (.int .i64 x19.2)]) [], .d true, .d true, .d true, .d true, .d true, .d true, .call ⟨true, []⟩ (.int .i64 x20) [], .d true, .d true] [⟨c21⟩, ⟨c21⟩, ⟨(ok_lock_Holds k x19.1 x3 x4 _ e22)⟩, ⟨c21⟩, ⟨c21⟩, ⟨c21⟩, ⟨c21⟩, ⟨c21⟩, ⟨c21⟩, ⟨(ok_lock_Take k x18 x3 x4 x5 _ e20)⟩, ⟨(LT.block (ok_law07_LockOthers_l0 x1 x2 x3 x4 x5 _ k 0 x16 e18))⟩, ⟨(len_map e_u8_i64_b x1)⟩, ⟨(ok_law07_theirs k x1 _ e17)⟩, ⟨(nF c16)⟩, ⟨(nF c15)⟩, ⟨(nF c11)⟩, ⟨(nT c12)⟩, ⟨(nF c11)⟩, ⟨(nT c12)⟩, ⟨(ok_ref07_Same k x14 x1 _ e14)⟩, ⟨(nT c12)⟩, ⟨(nT c12)⟩, ⟨(ok_law07_ours k x9.1 _ e13)⟩, ⟨(nT c12)⟩, ⟨(nT c12)⟩, ⟨(nF c11)⟩, ⟨(nF c11)⟩, ⟨(nF c11)⟩, ⟨(ok_ref07_Same k x11 x12 _ e10)⟩, ⟨(ok_ref07_Free k x1 x3 _ e9)⟩, ⟨(ok_law07_ours k x10 _ e8)⟩, ⟨(ok_lock_Free k x9.1 x3 _ e7)⟩, ⟨(ok_lock_Take k x8 x3 x4 x5 _ e6)⟩, ⟨(ok_law07_theirs k x1 _ e5)⟩, ⟨(nF c4)⟩, ⟨c2⟩, ⟨c2⟩, ⟨(ok_ref07_Right k x1 _ e3)⟩, ⟨c2⟩, ⟨c2⟩, ⟨(len_map e_u8_i64_b x1)⟩, ⟨(nF c1)⟩, ⟨(ok_law07_alive k _ e0)⟩] (by kernel_rfl)
                  · rw [if_neg c21] at h
                    replace c21 := eqf c21
                    obtain rfl := Option.some.inj h
                    exact Tri.of (x := X5) mixed facts5 [.call ⟨true, []⟩ (.bool x6) [], .d false, .n x1.length, .d false, .d false, .call ⟨true, []⟩ (.bool x7) [], .d false, .d false, .d false, .call ⟨true, []⟩ (.sl 3 (List.map e_u8_i64_b x8)) [], .call ⟨true, []⟩ (.tup [(.sl 3 (List.map e_u8_i64_b x9.1)), (.int .i64 x9.2)]) [], .call ⟨true, []⟩ (.sl 3 (List.map e_u8_i64_b x10)) [], .call ⟨true, []⟩ (.sl 3 (List.map e_u8_i64_b x11)) [], .call ⟨true, []⟩ (.sl 3 (List.map e_u8_i64_b x12)) [], .call ⟨true, []⟩ (.bool x13) [], .d false, .d false, .d false, .d true, .d true, .call ⟨true, []⟩ (.sl 3 (List.map e_u8_i64_b x14)) [], .d true, .d true, .call ⟨true, []⟩ (.bool x15) [], .d true, .d false, .d true, .d false, .d false, .d false, .call ⟨true, []⟩ (.sl 3 (List.map e_u8_i64_b x16)) [], .n x1.length, .norm 2 ⟨[(3, []), (7, []), (76, []), (77, []), (78, [])], [⟨.tmp 3, [], none⟩], false, [], []⟩, .out (.st .normal (E5_0_0 x2 x3 x4 x5 x18)), .call ⟨true, []⟩ (.tup [(.sl 3 (List.map e_u8_i64_b x19.1)), (.int .i64 x19.2)]) [], .d false, .d false, .d false, .d false, .d false, .d false, .d false, .d false] [⟨c21⟩, ⟨c21⟩, ⟨c21⟩, ⟨c21⟩, ⟨c21⟩, ⟨c21⟩, ⟨c21⟩, ⟨c21⟩, ⟨(ok_lock_Take k x18 x3 x4 x5 _ e20)⟩, ⟨(LT.block (ok_law07_LockOthers_l0 x1 x2 x3 x4 x5 _ k 0 x16 e18))⟩, ⟨(len_map e_u8_i64_b x1)⟩, ⟨(ok_law07_theirs k x1 _ e17)⟩, ⟨(nF c16)⟩, ⟨(nF c15)⟩, ⟨(nF c11)⟩, ⟨(nT c12)⟩, ⟨(nF c11)⟩, ⟨(nT c12)⟩, ⟨(ok_ref07_Same k x14 x1 _ e14)⟩, ⟨(nT c12)⟩, ⟨(nT c12)⟩, ⟨(ok_law07_ours k x9.1 _ e13)⟩, ⟨(nT c12)⟩, ⟨(nT c12)⟩, ⟨(nF c11)⟩, ⟨(nF c11)⟩, ⟨(nF c11)⟩, ⟨(ok_ref07_Same k x11 x12 _ e10)⟩, ⟨(ok_ref07_Free k x1 x3 _ e9)⟩, ⟨(ok_law07_ours k x10 _ e8)⟩, ⟨(ok_lock_Free k x9.1 x3 _ e7)⟩, ⟨(ok_lock_Take k x8 x3 x4 x5 _ e6)⟩, ⟨(ok_law07_theirs k x1 _ e5)⟩, ⟨(nF c4)⟩, ⟨c2⟩, ⟨c2⟩, ⟨(ok_ref07_Right k x1 _ e3)⟩, ⟨c2⟩, ⟨c2⟩, ⟨(len_map e_u8_i64_b x1)⟩, ⟨(nF c1)⟩, ⟨(ok_law07_alive k _ e0)⟩] (by kernel_rfl)
                · rw [if_neg c16] at h
                  replace c16 := eqf c16
                  by_cases c17 : ltI x3 0 = true
                  · rw [if_pos c17] at h
                    obtain rfl := Option.some.inj h
                    exact Tri.of (x := X5) mixed facts5 [.call ⟨true, []⟩ (.bool x6) [], .d false, .n x1.length, .d false, .d false, .call ⟨true, []⟩ (.bool x7) [], .d false, .d false, .d false, .call ⟨true, []⟩ (.sl 3 (List.map e_u8_i64_b x8)) [], .call ⟨true, []⟩ (.tup [(.sl 3 (List.map e_u8_i64_b x9.1)), (.int .i64 x9.2)]) [], .call ⟨true, []⟩ (.sl 3 (List.map e_u8_i64_b x10)) [], .call ⟨true, []⟩ (.sl 3 (List.map e_u8_i64_b x11)) [], .call ⟨true, []⟩ (.sl 3 (List.map e_u8_i64_b x12)) [], .call ⟨true, []⟩ (.bool x13) [], .d false, .d false, .d false, .d true, .d true, .call ⟨true, []⟩ (.sl 3 (List.map e_u8_i64_b x14)) [], .d true, .d true, .call ⟨true, []⟩ (.bool x15) [], .d true, .d false, .d true, .d false, .d false, .d true, .d false, .d false, .d false, .d false, .d false, .d false, .d false, .d false] [⟨(rfl : false = false)⟩, ⟨(rfl : false = false)⟩, ⟨(rfl : false = false)⟩, ⟨(rfl : false = false)⟩, ⟨(nF c17)⟩, ⟨(nF c17)⟩, ⟨(nF c17)⟩, ⟨(nF c17)⟩, ⟨(nT c16)⟩, ⟨(nF c15)⟩, ⟨(nF c11)⟩, ⟨(nT c12)⟩, ⟨(nF c11)⟩, ⟨(nT c12)⟩, ⟨(ok_ref07_Same k x14 x1 _ e14)⟩, ⟨(nT c12)⟩, ⟨(nT c12)⟩, ⟨(ok_law07_ours k x9.1 _ e13)⟩, ⟨(nT c12)⟩, ⟨(nT c12)⟩, ⟨(nF c11)⟩, ⟨(nF c11)⟩, ⟨(nF c11)⟩, ⟨(ok_ref07_Same k x11 x12 _ e10)⟩, ⟨(ok_ref07_Free k x1 x3 _ e9)⟩, ⟨(ok_law07_ours k x10 _ e8)⟩, ⟨(ok_lock_Free k x9.1 x3 _ e7)⟩, ⟨(ok_lock_Take k x8 x3 x4 x5 _ e6)⟩, ⟨(ok_law07_theirs k x1 _ e5)⟩, ⟨(nF c4)⟩, ⟨c2⟩, ⟨c2⟩, ⟨(ok_ref07_Right k x1 _ e3)⟩, ⟨c2⟩, ⟨c2⟩, ⟨(len_map e_u8_i64_b x1)⟩, ⟨(nF c1)⟩, ⟨(ok_law07_alive k _ e0)⟩] (by kernel_rfl)
                  · rw [if_neg c17] at h
                    replace c17 := eqf c17
                    by_cases c18 : ltI x3 1000 = true
                    · rw [if_pos c18] at h
                      obtain rfl := Option.some.inj h
                      exact Tri.of (x := X5) mixed facts5 [.call ⟨true, []⟩ (.bool x6) [], .d false, .n x1.length, .d false, .d false, .call ⟨true, []⟩ (.bool x7) [], .d false, .d false, .d false, .call ⟨true, []⟩ (.sl 3 (List.map e_u8_i64_b x8)) [], .call ⟨true, []⟩ (.tup [(.sl 3 (List.map e_u8_i64_b x9.1)), (.int .i64 x9.2)]) [], .call ⟨true, []⟩ (.sl 3 (List.map e_u8_i64_b x10)) [], .call ⟨true, []⟩ (.sl 3 (List.map e_u8_i64_b x11)) [], .call ⟨true, []⟩ (.sl 3 (List.map e_u8_i64_b x12)) [], .call ⟨true, []⟩ (.bool x13) [], .d false, .d false, .d false, .d true, .d true, .call ⟨true, []⟩ (.sl 3 (List.map e_u8_i64_b x14)) [], .d true, .d true, .call ⟨true, []⟩ (.bool x15) [], .d true, .d false, .d true, .d false, .d false, .d true, .d true, .d true, .d true, .d true, .d true, .d true, .d true, .d true] [⟨c18⟩, ⟨c18⟩, ⟨c18⟩, ⟨c18⟩, ⟨(nT c17)⟩, ⟨(nT c17)⟩, ⟨(nT c17)⟩, ⟨(nT c17)⟩, ⟨(nT c16)⟩, ⟨(nF c15)⟩, ⟨(nF c11)⟩, ⟨(nT c12)⟩, ⟨(nF c11)⟩, ⟨(nT c12)⟩, ⟨(ok_ref07_Same k x14 x1 _ e14)⟩, ⟨(nT c12)⟩, ⟨(nT c12)⟩, ⟨(ok_law07_ours k x9.1 _ e13)⟩, ⟨(nT c12)⟩, ⟨(nT c12)⟩, ⟨(nF c11)⟩, ⟨(nF c11)⟩, ⟨(nF c11)⟩, ⟨(ok_ref07_Same k x11 x12 _ e10)⟩, ⟨(ok_ref07_Free k x1 x3 _ e9)⟩, ⟨(ok_law07_ours k x10 _ e8)⟩, ⟨(ok_lock_Free k x9.1 x3 _ e7)⟩, ⟨(ok_lock_Take k x8 x3 x4 x5 _ e6)⟩, ⟨(ok_law07_theirs k x1 _ e5)⟩, ⟨(nF c4)⟩, ⟨c2⟩, ⟨c2⟩, ⟨(ok_ref07_Right k x1 _ e3)⟩, ⟨c2⟩, ⟨c2⟩, ⟨(len_map e_u8_i64_b x1)⟩, ⟨(nF c1)⟩, ⟨(ok_law07_alive k _ e0)⟩] (by kernel_rfl)
                    · rw [if_neg c18] at h
                      replace c18 := eqf c18
                      obtain rfl := Option.some.inj h
                      exact Tri.of (x := X5) mixed facts5 [.call ⟨true, []⟩ (.bool x6) [], .d false, .n x1.length, .d false, .d false, .call ⟨true, []⟩ (.bool x7) [], .d false, .d false, .d false, .call ⟨true, []⟩ (.sl 3 (List.map e_u8_i64_b x8)) [], .call ⟨true, []⟩ (.tup [(.sl 3 (List.map e_u8_i64_b x9.1)), (.int .i64 x9.2)]) [], .call ⟨true, []⟩ (.sl 3 (List.map e_u8_i64_b x10)) [], .call ⟨true, []⟩ (.sl 3 (List.map e_u8_i64_b x11)) [], .call ⟨true, []⟩ (.sl 3 (List.map e_u8_i64_b x12)) [], .call ⟨true, []⟩ (.bool x13) [], .d false, .d false, .d false, .d true, .d true, .call ⟨true, []⟩ (.sl 3 (List.map e_u8_i64_b x14)) [], .d true, .d true, .call ⟨true, []⟩ (.bool x15) [], .d true, .d false, .d true, .d false, .d false, .d true, .d true, .d true, .d true, .d true, .d false, .d false, .d false, .d false] [⟨c18⟩, ⟨c18⟩, ⟨c18⟩, ⟨c18⟩, ⟨(nT c17)⟩, ⟨(nT c17)⟩, ⟨(nT c17)⟩, ⟨(nT c17)⟩, ⟨(nT c16)⟩, ⟨(nF c15)⟩, ⟨(nF c11)⟩, ⟨(nT c12)⟩, ⟨(nF c11)⟩, ⟨(nT c12)⟩, ⟨(ok_ref07_Same k x14 x1 _ e14)⟩, ⟨(nT c12)⟩, ⟨(nT c12)⟩, ⟨(ok_law07_ours k x9.1 _ e13)⟩, ⟨(nT c12)⟩, ⟨(nT c12)⟩, ⟨(nF c11)⟩, ⟨(nF c11)⟩, ⟨(nF c11)⟩, ⟨(ok_ref07_Same k x11 x12 _ e10)⟩, ⟨(ok_ref07_Free k x1 x3 _ e9)⟩, ⟨(ok_law07_ours k x10 _ e8)⟩, ⟨(ok_lock_Free k x9.1 x3 _ e7)⟩, ⟨(ok_lock_Take k x8 x3 x4 x5 _ e6)⟩, ⟨(ok_law07_theirs k x1 _ e5)⟩, ⟨(nF c4)⟩, ⟨c2⟩, ⟨c2⟩, ⟨(ok_ref07_Right k x1 _ e3)⟩, ⟨c2⟩, ⟨c2⟩, ⟨(len_map e_u8_i64_b x1)⟩, ⟨(nF c1)⟩, ⟨(ok_law07_alive k _ e0)⟩] (by kernel_rfl)
              · rw [if_neg c15] at h
                replace c15 := eqf c15
                obtain rfl := Option.some.inj h
                exact Tri.of (x := X5) mixed facts5 [.call ⟨true, []⟩ (.bool x6) [], .d false, .n x1.length, .d false, .d false, .call ⟨true, []⟩ (.bool x7) [], .d false, .d false, .d false, .call ⟨true, []⟩ (.sl 3 (List.map e_u8_i64_b x8)) [], .call ⟨true, []⟩ (.tup [(.sl 3 (List.map e_u8_i64_b x9.1)), (.int .i64 x9.2)]) [], .call ⟨true, []⟩ (.sl 3 (List.map e_u8_i64_b x10)) [], .call ⟨true, []⟩ (.sl 3 (List.map e_u8_i64_b x11)) [], .call ⟨true, []⟩ (.sl 3 (List.map e_u8_i64_b x12)) [], .call ⟨true, []⟩ (.bool x13) [], .d false, .d false, .d false, .d true, .d true, .call ⟨true, []⟩ (.sl 3 (List.map e_u8_i64_b x14)) [], .d true, .d true, .call ⟨true, []⟩ (.bool x15) [], .d true, .d false, .d true, .d false, .d true] [⟨(nT c15)⟩, ⟨(nF c11)⟩, ⟨(nT c12)⟩, ⟨(nF c11)⟩, ⟨(nT c12)⟩, ⟨(ok_ref07_Same k x14 x1 _ e14)⟩, ⟨(nT c12)⟩, ⟨(nT c12)⟩, ⟨(ok_law07_ours k x9.1 _ e13)⟩, ⟨(nT c12)⟩, ⟨(nT c12)⟩, ⟨(nF c11)⟩, ⟨(nF c11)⟩, ⟨(nF c11)⟩, ⟨(ok_ref07_Same k x11 x12 _ e10)⟩, ⟨(ok_ref07_Free k x1 x3 _ e9)⟩, ⟨(ok_law07_ours k x10 _ e8)⟩, ⟨(ok_lock_Free k x9.1 x3 _ e7)⟩, ⟨(ok_lock_Take k x8 x3 x4 x5 _ e6)⟩, ⟨(ok_law07_theirs k x1 _ e5)⟩, ⟨(nF c4)⟩, ⟨c2⟩, ⟨c2⟩, ⟨(ok_ref07_Right k x1 _ e3)⟩, ⟨c2⟩, ⟨c2⟩, ⟨(len_map e_u8_i64_b x1)⟩, ⟨(nF c1)⟩, ⟨(ok_law07_alive k _ e0)⟩] (by kernel_rfl)
          · rw [if_neg c11] at h
            replace c11 := eqf c11
            obtain rfl := Option.some.inj h
            exact Tri.of (x := X5) mixed facts5 [.call ⟨true, []⟩ (.bool x6) [], .d false, .n x1.length, .d false, .d false, .call ⟨true, []⟩ (.bool x7) [], .d false, .d false, .d false, .call ⟨true, []⟩ (.sl 3 (List.map e_u8_i64_b x8)) [], .call ⟨true, []⟩ (.tup [(.sl 3 (List.map e_u8_i64_b x9.1)), (.int .i64 x9.2)]) [], .call ⟨true, []⟩ (.sl 3 (List.map e_u8_i64_b x10)) [], .call ⟨true, []⟩ (.sl 3 (List.map e_u8_i64_b x11)) [], .call ⟨true, []⟩ (.sl 3 (List.map e_u8_i64_b x12)) [], .call ⟨true, []⟩ (.bool x13) [], .d true, .d true, .d true, .d true, .d true, .d true] [⟨(rfl : true = true)⟩, ⟨(nT c11)⟩, ⟨(nT c11)⟩, ⟨(nT c11)⟩, ⟨(nT c11)⟩, ⟨(nT c11)⟩, ⟨(ok_ref07_Same k x11 x12 _ e10)⟩, ⟨(ok_ref07_Free k x1 x3 _ e9)⟩, ⟨(ok_law07_ours k x10 _ e8)⟩, ⟨(ok_lock_Free k x9.1 x3 _ e7)⟩, ⟨(ok_lock_Take k x8 x3 x4 x5 _ e6)⟩, ⟨(ok_law07_theirs k x1 _ e5)⟩, ⟨(nF c4)⟩, ⟨c2⟩, ⟨c2⟩, ⟨(ok_ref07_Right k x1 _ e3)⟩, ⟨c2⟩, ⟨c2⟩, ⟨(len_map e_u8_i64_b x1)⟩, ⟨(nF c1)⟩, ⟨(ok_law07_alive k _ e0)⟩] (by kernel_rfl)
        · rw [if_neg c4] at h
          replace c4 := eqf c4
          obtain rfl := Option.some.inj h
          exact Tri.of (x := X5) mixed facts5 [.call ⟨true, []⟩ (.bool x6) [], .d false, .n x1.length, .d false, .d false, .call ⟨true, []⟩ (.bool x7) [], .d false, .d false, .d true] [⟨(nT c4)⟩, ⟨c2⟩, ⟨c2⟩, ⟨(ok_ref07_Right k x1 _ e3)⟩, ⟨c2⟩, ⟨c2⟩, ⟨(len_map e_u8_i64_b x1)⟩, ⟨(nF c1)⟩, ⟨(ok_law07_alive k _ e0)⟩] (by kernel_rfl)
    · rw [if_neg c1] at h
      replace c1 := eqf c1
      obtain rfl := Option.some.inj h
      exact Tri.of (x := X5) mixed facts5 [.call ⟨true, []⟩ (.bool x6) [], .d true] [⟨(nT c1)⟩, ⟨(ok_law07_alive k _ e0)⟩] (by kernel_rfl)
end Go.Ws
