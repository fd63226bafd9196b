/-
  law07_LockFrees: what the machine makes of it. (Printed by my own program.)
  Conditions: none.
-/
import Derived.Test.YtmjllcefknaneaaZPre
import Derived.Test.YtmjllcefknaneaaZPure
import Derived.Test.YtmjllcefknaneaaZW10
import Derived.Test.YtmjllcefknaneaaZW12
import Derived.Test.YtmjllcefknaneaaZW14
import Derived.Test.YtmjllcefknaneaaZW15
import Derived.Test.YtmjllcefknaneaaZW16
import Derived.Test.YtmjllcefknaneaaZW17
import Derived.Test.YtmjllcefknaneaaZW18
import Derived.Test.YtmjllcefknaneaaZW20
set_option linter.unusedVariables false
set_option linter.unusedSimpArgs false
namespace Go.Ws
open Go.Proofs
set_option linter.unusedSimpArgs false
set_option linter.unusedVariables false
set_option maxRecDepth 1000000
set_option maxHeartbeats 4000000
noncomputable def X8 : Ctx := ⟨Try.f8, [], true⟩
noncomputable def L8_1 : Code := at_ Try.f8 [1, 1, 1, 1, 1, 0, 1, 4, 5]
def S8_1 (x1 : List (Int × Int × Bool)) (x2 : Int) (x5 : (List (Int × Int × Bool))) (v8011_1 : Int) : St := ⟨mkT 73 [(0, (.sl 3 (List.map e_u8_i64_b x1))), (1, (.int .i64 x2)), (5, (.sl 3 (List.map e_u8_i64_b x5))), (31, (.sl 3 (List.map e_u8_i64_b x1))), (32, (.int .i64 (nI x1.length))), (33, (.int .i64 v8011_1))], []⟩
def E8_1_2 (x1 : List (Int × Int × Bool)) (x2 : Int) (x5 : (List (Int × Int × Bool))) : St := ⟨mkT 73 [(0, (.sl 3 (List.map e_u8_i64_b x1))), (1, (.int .i64 x2)), (5, (.sl 3 (List.map e_u8_i64_b x5)))], []⟩
def O8_1 (x1 : List (Int × Int × Bool)) (x2 : Int) (x5 : (List (Int × Int × Bool))) (y : (Sum (Unit) (Bool))) : GX := match y with
  | .inl y => .st (.exit 2) (E8_1_2 x1 x2 x5)
  | .inr y => .fin (.bool y) []
noncomputable def L8_0 : Code := at_ Try.f8 [1, 1, 1, 1, 0, 1, 4, 5]
def S8_0 (x1 : List (Int × Int × Bool)) (x2 : Int) (x5 : (List (Int × Int × Bool))) (v8001_1 : Int) : St := ⟨mkT 73 [(0, (.sl 3 (List.map e_u8_i64_b x1))), (1, (.int .i64 x2)), (5, (.sl 3 (List.map e_u8_i64_b x5))), (20, (.sl 3 (List.map e_u8_i64_b x5))), (21, (.int .i64 (nI x5.length))), (22, (.int .i64 v8001_1))], []⟩
def E8_0_0 (x1 : List (Int × Int × Bool)) (x2 : Int) (x5 : (List (Int × Int × Bool))) : St := ⟨mkT 73 [(0, (.sl 3 (List.map e_u8_i64_b x1))), (1, (.int .i64 x2)), (5, (.sl 3 (List.map e_u8_i64_b x5)))], []⟩
def O8_0 (x1 : List (Int × Int × Bool)) (x2 : Int) (x5 : (List (Int × Int × Bool))) (y : (Sum (Unit) (Bool))) : GX := match y with
  | .inl y => .st (.exit 0) (E8_0_0 x1 x2 x5)
  | .inr y => .fin (.bool y) []
theorem ok_law07_LockFrees_l1 (x1 : List (Int × Int × Bool)) (x2 : Int) (x5 : (List (Int × Int × Bool))) (y : (Sum (Unit) (Bool))) : ∀ (k : Nat) (v8011_1 : Int), law07_LockFrees_l1 k x1 x2 x5 v8011_1 = some y → LT Try.prog X8 L8_1 (S8_1 x1 x2 x5 v8011_1) (O8_1 x1 x2 x5 y)
  | 0, v8011_1, h => by cases h
  | k + 1, v8011_1, h => by
    rw [law07_LockFrees_l1] at h
    by_cases cL0 : ltI v8011_1 (nI x1.length) = true
    · rw [if_pos cL0] at h
      by_cases cL1 : inI v8011_1 x1.length = true
      · rw [if_pos cL1] at h
        obtain ⟨v8010_1, eL2, h⟩ := Option.bind_eq_some_iff.1 h
        obtain ⟨v8010_2, eL3, h⟩ := Option.bind_eq_some_iff.1 h
        obtain ⟨v8010_3, eL4, h⟩ := Option.bind_eq_some_iff.1 h
        by_cases cL5 : eqI v8010_1.2.1 x2 = true
        · rw [if_pos cL5] at h
          obtain ⟨v8010_4, eL6, h⟩ := Option.bind_eq_some_iff.1 h
          by_cases cL7 : eqI v8010_4 0 = true
          · rw [if_pos cL7] at h
            exact LT.next mixed (hs := ⟨[(0, []), (1, []), (5, []), (31, []), (32, []), (33, [])], [], false, [], []⟩) (es := none) [.d true, .n x1.length, .row [(.int .u8 v8010_1.1), (.int .i64 v8010_1.2.1), (.bool v8010_1.2.2)], .call ⟨true, []⟩ (.sl 3 (List.map e_u8_i64_b v8010_2)) [], .call ⟨true, []⟩ (.int .i64 v8010_3) [], .d true, .call ⟨true, []⟩ (.int .i64 v8010_4) [], .d false] [⟨(nF cL7)⟩, ⟨(ok_lock_Holds k x5 v8010_1.2.1 v8010_1.1 _ eL6)⟩, ⟨cL5⟩, ⟨(ok_lock_Holds k v8010_2 v8010_1.2.1 v8010_1.1 _ eL4)⟩, ⟨(ok_law07_theirs k x1 _ eL3)⟩, ⟨(cells_map (e := e_u8_i64_b) eL2 3 0 3 (by decide))⟩, ⟨cL1⟩, ⟨(len_map e_u8_i64_b x1)⟩, ⟨cL0⟩] (by kernel_rfl) (ok_law07_LockFrees_l1 x1 x2 x5 y k (iadd .i64 v8011_1 1) h)
          · rw [if_neg cL7] at h
            replace cL7 := eqf cL7
            obtain rfl := Option.some.inj h
            show LT _ _ _ _ (.fin (.bool false) [])
            exact LT.done mixed (hs := ⟨[], [], false, [], []⟩) (es := none) [.d true, .n x1.length, .row [(.int .u8 v8010_1.1), (.int .i64 v8010_1.2.1), (.bool v8010_1.2.2)], .call ⟨true, []⟩ (.sl 3 (List.map e_u8_i64_b v8010_2)) [], .call ⟨true, []⟩ (.int .i64 v8010_3) [], .d true, .call ⟨true, []⟩ (.int .i64 v8010_4) [], .d true] [⟨(nT cL7)⟩, ⟨(ok_lock_Holds k x5 v8010_1.2.1 v8010_1.1 _ eL6)⟩, ⟨cL5⟩, ⟨(ok_lock_Holds k v8010_2 v8010_1.2.1 v8010_1.1 _ eL4)⟩, ⟨(ok_law07_theirs k x1 _ eL3)⟩, ⟨(cells_map (e := e_u8_i64_b) eL2 3 0 3 (by decide))⟩, ⟨cL1⟩, ⟨(len_map e_u8_i64_b x1)⟩, ⟨cL0⟩] (by kernel_rfl) (fun s h => by cases h)
        · rw [if_neg cL5] at h
          replace cL5 := eqf cL5
          obtain ⟨v8010_4, eL6, h⟩ := Option.bind_eq_some_iff.1 h
          by_cases cL7 : eqI v8010_4 v8010_3 = true
          · rw [if_pos cL7] at h
            exact LT.next mixed (hs := ⟨[(0, []), (1, []), (5, []), (31, []), (32, []), (33, [])], [], false, [], []⟩) (es := none) [.d true, .n x1.length, .row [(.int .u8 v8010_1.1), (.int .i64 v8010_1.2.1), (.bool v8010_1.2.2)], .call ⟨true, []⟩ (.sl 3 (List.map e_u8_i64_b v8010_2)) [], .call ⟨true, []⟩ (.int .i64 v8010_3) [], .d false, .call ⟨true, []⟩ (.int .i64 v8010_4) [], .d false] [⟨(nF cL7)⟩, ⟨(ok_lock_Holds k x5 v8010_1.2.1 v8010_1.1 _ eL6)⟩, ⟨cL5⟩, ⟨(ok_lock_Holds k v8010_2 v8010_1.2.1 v8010_1.1 _ eL4)⟩, ⟨(ok_law07_theirs k x1 _ eL3)⟩, ⟨(cells_map (e := e_u8_i64_b) eL2 3 0 3 (by decide))⟩, ⟨cL1⟩, ⟨(len_map e_u8_i64_b x1)⟩, ⟨cL0⟩] (by kernel_rfl) (ok_law07_LockFrees_l1 x1 x2 x5 y k (iadd .i64 v8011_1 1) h)
          · rw [if_neg cL7] at h
            replace cL7 := eqf cL7
            obtain rfl := Option.some.inj h
            show LT _ _ _ _ (.fin (.bool false) [])
            exact LT.done mixed (hs := ⟨[], [], false, [], []⟩) (es := none) [.d true, .n x1.length, .row [(.int .u8 v8010_1.1), (.int .i64 v8010_1.2.1), (.bool v8010_1.2.2)], .call ⟨true, []⟩ (.sl 3 (List.map e_u8_i64_b v8010_2)) [], .call ⟨true, []⟩ (.int .i64 v8010_3) [], .d false, .call ⟨true, []⟩ (.int .i64 v8010_4) [], .d true] [⟨(nT cL7)⟩, ⟨(ok_lock_Holds k x5 v8010_1.2.1 v8010_1.1 _ eL6)⟩, ⟨cL5⟩, ⟨(ok_lock_Holds k v8010_2 v8010_1.2.1 v8010_1.1 _ eL4)⟩, ⟨(ok_law07_theirs k x1 _ eL3)⟩, ⟨(cells_map (e := e_u8_i64_b) eL2 3 0 3 (by decide))⟩, ⟨cL1⟩, ⟨(len_map e_u8_i64_b x1)⟩, ⟨cL0⟩] (by kernel_rfl) (fun s h => by cases h)
      · rw [if_neg cL1] at h
        replace cL1 := eqf cL1
        cases h
    · rw [if_neg cL0] at h
      replace cL0 := eqf cL0
      obtain rfl := Option.some.inj h
      show LT _ _ _ _ (.st (.exit 2) (E8_1_2 x1 x2 x5))
      exact LT.done mixed (hs := ⟨[], [], false, [], []⟩) (es := (some ⟨[(0, []), (1, []), (5, [])], [], false, [], []⟩)) [.d false] [⟨cL0⟩] (by kernel_rfl) (fun s h => by cases h)
theorem ok_law07_LockFrees_l0 (x1 : List (Int × Int × Bool)) (x2 : Int) (x5 : (List (Int × Int × Bool))) (y : (Sum (Unit) (Bool))) : ∀ (k : Nat) (v8001_1 : Int), law07_LockFrees_l0 k x1 x2 x5 v8001_1 = some y → LT Try.prog X8 L8_0 (S8_0 x1 x2 x5 v8001_1) (O8_0 x1 x2 x5 y)
  | 0, v8001_1, h => by cases h
  | k + 1, v8001_1, h => by
    rw [law07_LockFrees_l0] at h
    by_cases cL0 : ltI v8001_1 (nI x5.length) = true
    · rw [if_pos cL0] at h
      by_cases cL1 : inI v8001_1 x5.length = true
      · rw [if_pos cL1] at h
        obtain ⟨v8000_1, eL2, h⟩ := Option.bind_eq_some_iff.1 h
        by_cases cL3 : eqI v8000_1.2.1 x2 = true
        · rw [if_pos cL3] at h
          obtain rfl := Option.some.inj h
          show LT _ _ _ _ (.fin (.bool false) [])
          exact LT.done mixed (hs := ⟨[], [], false, [], []⟩) (es := none) [.d true, .n x5.length, .row [(.int .u8 v8000_1.1), (.int .i64 v8000_1.2.1), (.bool v8000_1.2.2)], .d true] [⟨cL3⟩, ⟨(cells_map (e := e_u8_i64_b) eL2 3 0 3 (by decide))⟩, ⟨cL1⟩, ⟨(len_map e_u8_i64_b x5)⟩, ⟨cL0⟩] (by kernel_rfl) (fun s h => by cases h)
        · rw [if_neg cL3] at h
          replace cL3 := eqf cL3
          exact LT.next mixed (hs := ⟨[(0, []), (1, []), (5, []), (20, []), (21, []), (22, [])], [], false, [], []⟩) (es := none) [.d true, .n x5.length, .row [(.int .u8 v8000_1.1), (.int .i64 v8000_1.2.1), (.bool v8000_1.2.2)], .d false] [⟨cL3⟩, ⟨(cells_map (e := e_u8_i64_b) eL2 3 0 3 (by decide))⟩, ⟨cL1⟩, ⟨(len_map e_u8_i64_b x5)⟩, ⟨cL0⟩] (by kernel_rfl) (ok_law07_LockFrees_l0 x1 x2 x5 y k (iadd .i64 v8001_1 1) h)
      · rw [if_neg cL1] at h
        replace cL1 := eqf cL1
        cases h
    · rw [if_neg cL0] at h
      replace cL0 := eqf cL0
      obtain rfl := Option.some.inj h
      show LT _ _ _ _ (.st (.exit 0) (E8_0_0 x1 x2 x5))
      exact LT.done mixed (hs := ⟨[], [], false, [], []⟩) (es := (some ⟨[(0, []), (1, []), (5, [])], [], false, [], []⟩)) [.d false] [⟨cL0⟩] (by kernel_rfl) (fun s h => by cases h)
theorem ok_law07_LockFrees (k : Nat) (x1 : List (Int × Int × Bool)) (x2 : Int) (r : Bool) (h : law07_LockFrees k x1 x2 = some r) : Tri Try.prog 8 [(.sl 3 (List.map e_u8_i64_b x1)), (.int .i64 x2)] [] (.bool r) [] := by
    unfold law07_LockFrees at h
    obtain ⟨x3, e0, h⟩ := Option.bind_eq_some_iff.1 h
    by_cases c1 : x3 = true
    · rw [if_pos c1] at h
      by_cases c2 : ltI 100 (nI x1.length) = true
      · rw [if_pos c2] at h
        obtain rfl := Option.some.inj h
        exact Tri.of (x := X8) mixed facts8 [.call ⟨true, []⟩ (.bool x3) [], .d false, .n x1.length, .d true] [⟨c2⟩, ⟨(len_map e_u8_i64_b x1)⟩, ⟨(nF c1)⟩, ⟨(ok_law07_alive k _ e0)⟩] (by kernel_rfl)
      · rw [if_neg c2] at h
        replace c2 := eqf c2
        obtain ⟨x4, e3, h⟩ := Option.bind_eq_some_iff.1 h
        obtain ⟨x5, e4, h⟩ := Option.bind_eq_some_iff.1 h
        obtain ⟨x6, e5, h⟩ := Option.bind_eq_some_iff.1 h
        cases x6 with
        | inl x7 =>
          simp only [Sum.elim_inl] at h
          obtain ⟨x8, e7, h⟩ := Option.bind_eq_some_iff.1 h
          cases x8 with
          | inl x9 =>
            simp only [Sum.elim_inl] at h
            obtain ⟨x10, e9, h⟩ := Option.bind_eq_some_iff.1 h
            obtain ⟨x11, e10, h⟩ := Option.bind_eq_some_iff.1 h
            obtain ⟨x12, e11, h⟩ := Option.bind_eq_some_iff.1 h
            obtain ⟨x13, e12, h⟩ := Option.bind_eq_some_iff.1 h
            by_cases c13 : x13 = true
            · rw [if_pos c13] at h
              obtain ⟨x14, e14, h⟩ := Option.bind_eq_some_iff.1 h
              by_cases c15 : x14 = true
              · rw [if_pos c15] at h
                obtain ⟨x15, e16, h⟩ := Option.bind_eq_some_iff.1 h
                obtain rfl := Option.some.inj h
                exact Tri.of (x := X8) mixed facts8 [.call ⟨true, []⟩ (.bool x3) [], .d false, .n x1.length, .d false, .call ⟨true, []⟩ (.sl 3 (List.map e_u8_i64_b x4)) [], .call ⟨true, []⟩ (.sl 3 (List.map e_u8_i64_b x5)) [], .n x5.length, .norm 2 ⟨[(0, []), (1, []), (5, []), (20, []), (21, []), (22, [])], [], false, [], []⟩, .out (.st .normal (E8_0_0 x1 x2 x5)), .n x1.length, .norm 8 ⟨[(0, []), (1, []), (5, []), (31, []), (32, []), (33, [])], [], false, [], []⟩, .out (.st .normal (E8_1_2 x1 x2 x5)), .call ⟨true, []⟩ (.sl 3 (List.map e_u8_i64_b x10)) [], .call ⟨true, []⟩ (.sl 3 (List.map e_u8_i64_b x11)) [], .call ⟨true, []⟩ (.sl 3 (List.map e_u8_i64_b x12)) [], .call ⟨true, []⟩ (.bool x13) [], .d true, .d true, .call ⟨true, []⟩ (.bool x14) [], .d true, .d true, .d false, .d false, .call ⟨true, []⟩ (.bool x15) [], .d true, .d false, .d true] [⟨c13⟩, ⟨(nF c15)⟩, ⟨c13⟩, ⟨(ok_lock_Right k x5 _ e16)⟩, ⟨(nF c15)⟩, ⟨(nF c15)⟩, ⟨c13⟩, ⟨c13⟩, ⟨(ok_ref07_Right k x1 _ e14)⟩, ⟨c13⟩, ⟨c13⟩, ⟨(ok_ref07_Same k x11 x12 _ e12)⟩, ⟨(ok_law07_ours k x5 _ e11)⟩, ⟨(ok_law07_ours k x10 _ e10)⟩, ⟨(ok_lock_Free k x5 x2 _ e9)⟩, ⟨(LT.block (ok_law07_LockFrees_l1 x1 x2 x5 _ k 0 e7))⟩, ⟨(len_map e_u8_i64_b x1)⟩, ⟨(LT.block (ok_law07_LockFrees_l0 x1 x2 x5 _ k 0 e5))⟩, ⟨(len_map e_u8_i64_b x5)⟩, ⟨(ok_lock_Free k x4 x2 _ e4)⟩, ⟨(ok_law07_theirs k x1 _ e3)⟩, ⟨c2⟩, ⟨(len_map e_u8_i64_b x1)⟩, ⟨(nF c1)⟩, ⟨(ok_law07_alive k _ e0)⟩] (by kernel_rfl)
              · rw [if_neg c15] at h
                replace c15 := eqf c15
                obtain rfl := Option.some.inj h
                exact Tri.of (x := X8) mixed facts8 [.call ⟨true, []⟩ (.bool x3) [], .d false, .n x1.length, .d false, .call ⟨true, []⟩ (.sl 3 (List.map e_u8_i64_b x4)) [], .call ⟨true, []⟩ (.sl 3 (List.map e_u8_i64_b x5)) [], .n x5.length, .norm 2 ⟨[(0, []), (1, []), (5, []), (20, []), (21, []), (22, [])], [], false, [], []⟩, .out (.st .normal (E8_0_0 x1 x2 x5)), .n x1.length, .norm 8 ⟨[(0, []), (1, []), (5, []), (31, []), (32, []), (33, [])], [], false, [], []⟩, .out (.st .normal (E8_1_2 x1 x2 x5)), .call ⟨true, []⟩ (.sl 3 (List.map e_u8_i64_b x10)) [], .call ⟨true, []⟩ (.sl 3 (List.map e_u8_i64_b x11)) [], .call ⟨true, []⟩ (.sl 3 (List.map e_u8_i64_b x12)) [], .call ⟨true, []⟩ (.bool x13) [], .d true, .d true, .call ⟨true, []⟩ (.bool x14) [], .d true, .d true, .d true, .d true, .d true, .d true, .d true] [⟨c13⟩, ⟨(nT c15)⟩, ⟨c13⟩, ⟨(nT c15)⟩, ⟨(nT c15)⟩, ⟨c13⟩, ⟨c13⟩, ⟨(ok_ref07_Right k x1 _ e14)⟩, ⟨c13⟩, ⟨c13⟩, ⟨(ok_ref07_Same k x11 x12 _ e12)⟩, ⟨(ok_law07_ours k x5 _ e11)⟩, ⟨(ok_law07_ours k x10 _ e10)⟩, ⟨(ok_lock_Free k x5 x2 _ e9)⟩, ⟨(LT.block (ok_law07_LockFrees_l1 x1 x2 x5 _ k 0 e7))⟩, ⟨(len_map e_u8_i64_b x1)⟩, ⟨(LT.block (ok_law07_LockFrees_l0 x1 x2 x5 _ k 0 e5))⟩, ⟨(len_map e_u8_i64_b x5)⟩, ⟨(ok_lock_Free k x4 x2 _ e4)⟩, ⟨(ok_law07_theirs k x1 _ e3)⟩, ⟨c2⟩, ⟨(len_map e_u8_i64_b x1)⟩, ⟨(nF c1)⟩, ⟨(ok_law07_alive k _ e0)⟩] (by kernel_rfl)
            · rw [if_neg c13] at h
              replace c13 := eqf c13
              obtain rfl := Option.some.inj h
              exact Tri.of (x := X8) mixed facts8 [.call ⟨true, []⟩ (.bool x3) [], .d false, .n x1.length, .d false, .call ⟨true, []⟩ (.sl 3 (List.map e_u8_i64_b x4)) [], .call ⟨true, []⟩ (.sl 3 (List.map e_u8_i64_b x5)) [], .n x5.length, .norm 2 ⟨[(0, []), (1, []), (5, []), (20, []), (21, []), (22, [])], [], false, [], []⟩, .out (.st .normal (E8_0_0 x1 x2 x5)), .n x1.length, .norm 8 ⟨[(0, []), (1, []), (5, []), (31, []), (32, []), (33, [])], [], false, [], []⟩, .out (.st .normal (E8_1_2 x1 x2 x5)), .call ⟨true, []⟩ (.sl 3 (List.map e_u8_i64_b x10)) [], .call ⟨true, []⟩ (.sl 3 (List.map e_u8_i64_b x11)) [], .call ⟨true, []⟩ (.sl 3 (List.map e_u8_i64_b x12)) [], .call ⟨true, []⟩ (.bool x13) [], .d false, .d false, .d false, .d false, .d false, .d false] [⟨c13⟩, ⟨c13⟩, ⟨c13⟩, ⟨c13⟩, ⟨c13⟩, ⟨c13⟩, ⟨(ok_ref07_Same k x11 x12 _ e12)⟩, ⟨(ok_law07_ours k x5 _ e11)⟩, ⟨(ok_law07_ours k x10 _ e10)⟩, ⟨(ok_lock_Free k x5 x2 _ e9)⟩, ⟨(LT.block (ok_law07_LockFrees_l1 x1 x2 x5 _ k 0 e7))⟩, ⟨(len_map e_u8_i64_b x1)⟩, ⟨(LT.block (ok_law07_LockFrees_l0 x1 x2 x5 _ k 0 e5))⟩, ⟨(len_map e_u8_i64_b x5)⟩, ⟨(ok_lock_Free k x4 x2 _ e4)⟩, ⟨(ok_law07_theirs k x1 _ e3)⟩, ⟨c2⟩, ⟨(len_map e_u8_i64_b x1)⟩, ⟨(nF c1)⟩, ⟨(ok_law07_alive k _ e0)⟩] (by kernel_rfl)
          | inr x9 =>
            simp only [Sum.elim_inr] at h
            obtain rfl := Option.some.inj h
            exact Tri.of (x := X8) mixed facts8 [.call ⟨true, []⟩ (.bool x3) [], .d false, .n x1.length, .d false, .call ⟨true, []⟩ (.sl 3 (List.map e_u8_i64_b x4)) [], .call ⟨true, []⟩ (.sl 3 (List.map e_u8_i64_b x5)) [], .n x5.length, .norm 2 ⟨[(0, []), (1, []), (5, []), (20, []), (21, []), (22, [])], [], false, [], []⟩, .out (.st .normal (E8_0_0 x1 x2 x5)), .n x1.length, .norm 8 ⟨[(0, []), (1, []), (5, []), (31, []), (32, []), (33, [])], [], false, [], []⟩, .out (.fin (.bool x9) [])] [⟨(LT.blockFin (id := 2) (ok_law07_LockFrees_l1 x1 x2 x5 _ k 0 e7))⟩, ⟨(len_map e_u8_i64_b x1)⟩, ⟨(LT.block (ok_law07_LockFrees_l0 x1 x2 x5 _ k 0 e5))⟩, ⟨(len_map e_u8_i64_b x5)⟩, ⟨(ok_lock_Free k x4 x2 _ e4)⟩, ⟨(ok_law07_theirs k x1 _ e3)⟩, ⟨c2⟩, ⟨(len_map e_u8_i64_b x1)⟩, ⟨(nF c1)⟩, ⟨(ok_law07_alive k _ e0)⟩] (by kernel_rfl)
        | inr x7 =>
          simp only [Sum.elim_inr] at h
          obtain rfl := Option.some.inj h
          exact Tri.of (x := X8) mixed facts8 [.call ⟨true, []⟩ (.bool x3) [], .d false, .n x1.length, .d false, .call ⟨true, []⟩ (.sl 3 (List.map e_u8_i64_b x4)) [], .call ⟨true, []⟩ (.sl 3 (List.map e_u8_i64_b x5)) [], .n x5.length, .norm 2 ⟨[(0, []), (1, []), (5, []), (20, []), (21, []), (22, [])], [], false, [], []⟩, .out (.fin (.bool x7) [])] [⟨(LT.blockFin (id := 0) (ok_law07_LockFrees_l0 x1 x2 x5 _ k 0 e5))⟩, ⟨(len_map e_u8_i64_b x5)⟩, ⟨(ok_lock_Free k x4 x2 _ e4)⟩, ⟨(ok_law07_theirs k x1 _ e3)⟩, ⟨c2⟩, ⟨(len_map e_u8_i64_b x1)⟩, ⟨(nF c1)⟩, ⟨(ok_law07_alive k _ e0)⟩] (by kernel_rfl)
    · rw [if_neg c1] at h
      replace c1 := eqf c1
      obtain rfl := Option.some.inj h
      exact Tri.of (x := X8) mixed facts8 [.call ⟨true, []⟩ (.bool x3) [], .d true] [⟨(nT c1)⟩, ⟨(ok_law07_alive k _ e0)⟩] (by kernel_rfl)
end Go.Ws
