/-
  slices_BinarySearchFunc: what the machine makes of it. (Printed by my own program.)
  Conditions: none.
-/
import Derived.Test.YtmjllcefknaneaaZPre
import Derived.Test.YtmjllcefknaneaaZPure
import Derived.Test.YtmjllcefknaneaaZW25
set_option linter.unusedVariables false
set_option linter.unusedSimpArgs false
namespace Go.Ws
open Go.Proofs
set_option linter.unusedSimpArgs false
set_option linter.unusedVariables false
set_option maxRecDepth 1000000
set_option maxHeartbeats 4000000
noncomputable def X24 : Ctx := ⟨Try.f24, [], true⟩
noncomputable def L24_0 : Code := at_ Try.f24 [1, 1, 1, 0, 4, 5]
def S24_0 (x1 : List (Int × Int × Bool)) (x2 : Int) (x3 : Int) (x4 : Bool) (v24001_1 : Int) (v24001_2 : Int) : St := ⟨mkT 49 [(0, (.sl 3 (List.map e_u8_i64_b x1))), (2, (.fn 25 [])), (4, (.hp 0 0)), (8, (.int .i64 (nI x1.length))), (9, (.int .i64 v24001_1)), (10, (.int .i64 v24001_2))], [(.row [(.int .u8 x2), (.int .i64 x3), (.bool x4)])]⟩
def E24_0_0 (x1 : List (Int × Int × Bool)) (x2 : Int) (x3 : Int) (x4 : Bool) (v24002_1 : Int) : St := ⟨mkT 49 [(0, (.sl 3 (List.map e_u8_i64_b x1))), (2, (.fn 25 [])), (4, (.hp 0 0)), (8, (.int .i64 (nI x1.length))), (9, (.int .i64 v24002_1))], [(.row [(.int .u8 x2), (.int .i64 x3), (.bool x4)])]⟩
def O24_0 (x1 : List (Int × Int × Bool)) (x2 : Int) (x3 : Int) (x4 : Bool) (y : (Int)) : GX := .st (.exit 0) (E24_0_0 x1 x2 x3 x4 y)
theorem ok_slices_BinarySearchFunc_l0 (x1 : List (Int × Int × Bool)) (x2 : Int) (x3 : Int) (x4 : Bool) (y : (Int)) : ∀ (k : Nat) (v24001_1 : Int) (v24001_2 : Int), slices_BinarySearchFunc_l0 k x1 x2 x3 x4 v24001_1 v24001_2 = some y → LT Try.prog X24 L24_0 (S24_0 x1 x2 x3 x4 v24001_1 v24001_2) (O24_0 x1 x2 x3 x4 y)
  | 0, v24001_1, v24001_2, h => by cases h
  | k + 1, v24001_1, v24001_2, h => by
    rw [slices_BinarySearchFunc_l0] at h
    by_cases cL0 : ltI v24001_1 v24001_2 = true
    · rw [if_pos cL0] at h
      by_cases cL1 : inI (conv .i64 (ishr .u64 (conv .u64 (iadd .i64 v24001_1 v24001_2)) 1)) x1.length = true
      · rw [if_pos cL1] at h
        obtain ⟨v24000_1, eL2, h⟩ := Option.bind_eq_some_iff.1 h
        obtain ⟨v24000_2, eL3, h⟩ := Option.bind_eq_some_iff.1 h
        by_cases cL4 : ltI v24000_2 0 = true
        · rw [if_pos cL4] at h
          exact LT.next mixed (hs := ⟨[(0, []), (2, []), (4, []), (8, []), (9, []), (10, [])], [⟨.tmp 4, [], none⟩], false, [], []⟩) (es := none) [.d true, .n x1.length, .row [(.int .u8 v24000_1.1), (.int .i64 v24000_1.2.1), (.bool v24000_1.2.2)], .call ⟨true, []⟩ (.int .i64 v24000_2) [], .d true] [⟨cL4⟩, ⟨(ok_lock_order k v24000_1.1 v24000_1.2.1 v24000_1.2.2 x2 x3 x4 _ eL3)⟩, ⟨(cells_map (e := e_u8_i64_b) eL2 3 0 3 (by decide))⟩, ⟨cL1⟩, ⟨(len_map e_u8_i64_b x1)⟩, ⟨cL0⟩] (by kernel_rfl) (ok_slices_BinarySearchFunc_l0 x1 x2 x3 x4 y k (iadd .i64 (conv .i64 (ishr .u64 (conv .u64 (iadd .i64 v24001_1 v24001_2)) 1)) 1) v24001_2 h)
        · rw [if_neg cL4] at h
          replace cL4 := eqf cL4
          exact LT.next mixed (hs := ⟨[(0, []), (2, []), (4, []), (8, []), (9, []), (10, [])], [⟨.tmp 4, [], none⟩], false, [], []⟩) (es := none) [.d true, .n x1.length, .row [(.int .u8 v24000_1.1), (.int .i64 v24000_1.2.1), (.bool v24000_1.2.2)], .call ⟨true, []⟩ (.int .i64 v24000_2) [], .d false] [⟨cL4⟩, ⟨(ok_lock_order k v24000_1.1 v24000_1.2.1 v24000_1.2.2 x2 x3 x4 _ eL3)⟩, ⟨(cells_map (e := e_u8_i64_b) eL2 3 0 3 (by decide))⟩, ⟨cL1⟩, ⟨(len_map e_u8_i64_b x1)⟩, ⟨cL0⟩] (by kernel_rfl) (ok_slices_BinarySearchFunc_l0 x1 x2 x3 x4 y k v24001_1 (conv .i64 (ishr .u64 (conv .u64 (iadd .i64 v24001_1 v24001_2)) 1)) h)
      · rw [if_neg cL1] at h
        replace cL1 := eqf cL1
        cases h
    · rw [if_neg cL0] at h
      replace cL0 := eqf cL0
      obtain rfl := Option.some.inj h
      show LT _ _ _ _ (.st (.exit 0) (E24_0_0 x1 x2 x3 x4 v24001_1))
      exact LT.done mixed (hs := ⟨[], [], false, [], []⟩) (es := (some ⟨[(0, []), (2, []), (4, []), (8, []), (9, [])], [⟨.tmp 4, [], none⟩], false, [], []⟩)) [.d false] [⟨cL0⟩] (by kernel_rfl) (fun s h => by cases h)
theorem ok_slices_BinarySearchFunc (k : Nat) (x1 : List (Int × Int × Bool)) (x2 : Int) (x3 : Int) (x4 : Bool) (r : Int × Bool) (h : slices_BinarySearchFunc k x1 x2 x3 x4 = some r) : Tri Try.prog 24 [(.sl 3 (List.map e_u8_i64_b x1)), (.agg [(.int .u8 x2), (.int .i64 x3), (.bool x4)]), (.fn 25 [])] [] (.tup [(.int .i64 r.1), (.bool r.2)]) [] := by
    unfold slices_BinarySearchFunc at h
    obtain ⟨x6, e0, h⟩ := Option.bind_eq_some_iff.1 h
    by_cases c2 : ltI x6 (nI x1.length) = true
    · rw [if_pos c2] at h
      by_cases c3 : inI x6 x1.length = true
      · rw [if_pos c3] at h
        obtain ⟨x7, e4, h⟩ := Option.bind_eq_some_iff.1 h
        obtain ⟨x8, e5, h⟩ := Option.bind_eq_some_iff.1 h
        obtain rfl := Option.some.inj h
        exact Tri.of (x := X24) mixed facts24 [.n x1.length, .norm 2 ⟨[(0, []), (2, []), (4, []), (8, []), (9, []), (10, [])], [⟨.tmp 4, [], none⟩], false, [], []⟩, .out (.st .normal (E24_0_0 x1 x2 x3 x4 x6)), .d true, .d true, .d true, .d true, .n x1.length, .d true, .row [(.int .u8 x7.1), (.int .i64 x7.2.1), (.bool x7.2.2)], .d true, .d true, .call ⟨true, []⟩ (.int .i64 x8) [], .d true, .d true] [⟨c2⟩, ⟨c2⟩, ⟨(ok_lock_order k x7.1 x7.2.1 x7.2.2 x2 x3 x4 _ e5)⟩, ⟨c2⟩, ⟨c2⟩, ⟨(cells_map (e := e_u8_i64_b) e4 3 0 3 (by decide))⟩, ⟨c2⟩, ⟨c3⟩, ⟨(len_map e_u8_i64_b x1)⟩, ⟨c2⟩, ⟨c2⟩, ⟨c2⟩, ⟨c2⟩, ⟨(LT.block (ok_slices_BinarySearchFunc_l0 x1 x2 x3 x4 _ k 0 (nI x1.length) e0))⟩, ⟨(len_map e_u8_i64_b x1)⟩] (by kernel_rfl)
      · rw [if_neg c3] at h
        replace c3 := eqf c3
        cases h
    · rw [if_neg c2] at h
      replace c2 := eqf c2
      obtain rfl := Option.some.inj h
      exact Tri.of (x := X24) mixed facts24 [.n x1.length, .norm 2 ⟨[(0, []), (2, []), (4, []), (8, []), (9, []), (10, [])], [⟨.tmp 4, [], none⟩], false, [], []⟩, .out (.st .normal (E24_0_0 x1 x2 x3 x4 x6)), .d false, .d false, .d false, .d false, .d false, .d false, .d false, .d false, .d false] [⟨c2⟩, ⟨c2⟩, ⟨c2⟩, ⟨c2⟩, ⟨c2⟩, ⟨c2⟩, ⟨c2⟩, ⟨c2⟩, ⟨c2⟩, ⟨(LT.block (ok_slices_BinarySearchFunc_l0 x1 x2 x3 x4 _ k 0 (nI x1.length) e0))⟩, ⟨(len_map e_u8_i64_b x1)⟩] (by kernel_rfl)
end Go.Ws
