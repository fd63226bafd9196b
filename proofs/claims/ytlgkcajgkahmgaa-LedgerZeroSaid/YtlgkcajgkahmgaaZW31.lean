/-
  slices_BinarySearchFunc: what the machine makes of it. (Printed by my own program.)
  Conditions: none.
-/
import Derived.Test.YtlgkcajgkahmgaaZPre
import Derived.Test.YtlgkcajgkahmgaaZPure
import Derived.Test.YtlgkcajgkahmgaaZW32
set_option linter.unusedVariables false
set_option linter.unusedSimpArgs false
namespace Go.Ws
open Go.Proofs
set_option linter.unusedSimpArgs false
set_option linter.unusedVariables false
set_option maxRecDepth 1000000
set_option maxHeartbeats 4000000
noncomputable def X31 : Ctx := ⟨Try.f31, [], true⟩
noncomputable def L31_0 : Code := at_ Try.f31 [1, 1, 1, 0, 4, 5]
def S31_0 (x1 : List (Int × Int)) (x2 : Int) (v31001_1 : Int) (v31001_2 : Int) : St := ⟨mkT 49 [(0, (.sl 2 (List.map e_u8_i64 x1))), (1, (.int .u8 x2)), (2, (.fn 32 [])), (8, (.int .i64 (nI x1.length))), (9, (.int .i64 v31001_1)), (10, (.int .i64 v31001_2))], []⟩
def E31_0_0 (x1 : List (Int × Int)) (x2 : Int) (v31002_1 : Int) : St := ⟨mkT 49 [(0, (.sl 2 (List.map e_u8_i64 x1))), (1, (.int .u8 x2)), (2, (.fn 32 [])), (8, (.int .i64 (nI x1.length))), (9, (.int .i64 v31002_1))], []⟩
def O31_0 (x1 : List (Int × Int)) (x2 : Int) (y : (Int)) : GX := .st (.exit 0) (E31_0_0 x1 x2 y)
theorem ok_slices_BinarySearchFunc_l0 (x1 : List (Int × Int)) (x2 : Int) (y : (Int)) : ∀ (k : Nat) (v31001_1 : Int) (v31001_2 : Int), slices_BinarySearchFunc_l0 k x1 x2 v31001_1 v31001_2 = some y → LT Try.prog X31 L31_0 (S31_0 x1 x2 v31001_1 v31001_2) (O31_0 x1 x2 y)
  | 0, v31001_1, v31001_2, h => by cases h
  | k + 1, v31001_1, v31001_2, h => by
    rw [slices_BinarySearchFunc_l0] at h
    by_cases cL0 : ltI v31001_1 v31001_2 = true
    · rw [if_pos cL0] at h
      by_cases cL1 : inI (conv .i64 (ishr .u64 (conv .u64 (iadd .i64 v31001_1 v31001_2)) 1)) x1.length = true
      · rw [if_pos cL1] at h
        obtain ⟨v31000_1, eL2, h⟩ := Option.bind_eq_some_iff.1 h
        by_cases cL3 : ltI (ledger_find_1 v31000_1.1 v31000_1.2 x2) 0 = true
        · rw [if_pos cL3] at h
          exact LT.next mixed (hs := ⟨[(0, []), (1, []), (2, []), (8, []), (9, []), (10, [])], [], false, [], []⟩) (es := none) [.d true, .n x1.length, .row [(.int .u8 v31000_1.1), (.int .i64 v31000_1.2)], .call ⟨true, []⟩ (.int .i64 (ledger_find_1 v31000_1.1 v31000_1.2 x2)) [], .d true] [⟨cL3⟩, ⟨(ok_ledger_find_1 v31000_1.1 v31000_1.2 x2)⟩, ⟨(cells_map (e := e_u8_i64) eL2 2 0 2 (by decide))⟩, ⟨cL1⟩, ⟨(len_map e_u8_i64 x1)⟩, ⟨cL0⟩] (by kernel_rfl) (ok_slices_BinarySearchFunc_l0 x1 x2 y k (iadd .i64 (conv .i64 (ishr .u64 (conv .u64 (iadd .i64 v31001_1 v31001_2)) 1)) 1) v31001_2 h)
        · rw [if_neg cL3] at h
          replace cL3 := eqf cL3
          exact LT.next mixed (hs := ⟨[(0, []), (1, []), (2, []), (8, []), (9, []), (10, [])], [], false, [], []⟩) (es := none) [.d true, .n x1.length, .row [(.int .u8 v31000_1.1), (.int .i64 v31000_1.2)], .call ⟨true, []⟩ (.int .i64 (ledger_find_1 v31000_1.1 v31000_1.2 x2)) [], .d false] [⟨cL3⟩, ⟨(ok_ledger_find_1 v31000_1.1 v31000_1.2 x2)⟩, ⟨(cells_map (e := e_u8_i64) eL2 2 0 2 (by decide))⟩, ⟨cL1⟩, ⟨(len_map e_u8_i64 x1)⟩, ⟨cL0⟩] (by kernel_rfl) (ok_slices_BinarySearchFunc_l0 x1 x2 y k v31001_1 (conv .i64 (ishr .u64 (conv .u64 (iadd .i64 v31001_1 v31001_2)) 1)) h)
      · rw [if_neg cL1] at h
        replace cL1 := eqf cL1
        cases h
    · rw [if_neg cL0] at h
      replace cL0 := eqf cL0
      obtain rfl := Option.some.inj h
      show LT _ _ _ _ (.st (.exit 0) (E31_0_0 x1 x2 v31001_1))
      exact LT.done mixed (hs := ⟨[], [], false, [], []⟩) (es := (some ⟨[(0, []), (1, []), (2, []), (8, []), (9, [])], [], false, [], []⟩)) [.d false] [⟨cL0⟩] (by kernel_rfl) (fun s h => by cases h)
theorem ok_slices_BinarySearchFunc (k : Nat) (x1 : List (Int × Int)) (x2 : Int) (r : Int × Bool) (h : slices_BinarySearchFunc k x1 x2 = some r) : Tri Try.prog 31 [(.sl 2 (List.map e_u8_i64 x1)), (.int .u8 x2), (.fn 32 [])] [] (.tup [(.int .i64 r.1), (.bool r.2)]) [] := by
    unfold slices_BinarySearchFunc at h
    obtain ⟨x4, e0, h⟩ := Option.bind_eq_some_iff.1 h
    by_cases c2 : ltI x4 (nI x1.length) = true
    · rw [if_pos c2] at h
      by_cases c3 : inI x4 x1.length = true
      · rw [if_pos c3] at h
        obtain ⟨x5, e4, h⟩ := Option.bind_eq_some_iff.1 h
        obtain rfl := Option.some.inj h
        exact Tri.of (x := X31) mixed facts31 [.n x1.length, .norm 2 ⟨[(0, []), (1, []), (2, []), (8, []), (9, []), (10, [])], [], false, [], []⟩, .out (.st .normal (E31_0_0 x1 x2 x4)), .d true, .d true, .d true, .d true, .n x1.length, .d true, .row [(.int .u8 x5.1), (.int .i64 x5.2)], .d true, .d true, .call ⟨true, []⟩ (.int .i64 (ledger_find_1 x5.1 x5.2 x2)) [], .d true, .d true] [⟨c2⟩, ⟨c2⟩, ⟨(ok_ledger_find_1 x5.1 x5.2 x2)⟩, ⟨c2⟩, ⟨c2⟩, ⟨(cells_map (e := e_u8_i64) e4 2 0 2 (by decide))⟩, ⟨c2⟩, ⟨c3⟩, ⟨(len_map e_u8_i64 x1)⟩, ⟨c2⟩, ⟨c2⟩, ⟨c2⟩, ⟨c2⟩, ⟨(LT.block (ok_slices_BinarySearchFunc_l0 x1 x2 _ k 0 (nI x1.length) e0))⟩, ⟨(len_map e_u8_i64 x1)⟩] (by kernel_rfl)
      · rw [if_neg c3] at h
        replace c3 := eqf c3
        cases h
    · rw [if_neg c2] at h
      replace c2 := eqf c2
      obtain rfl := Option.some.inj h
      exact Tri.of (x := X31) mixed facts31 [.n x1.length, .norm 2 ⟨[(0, []), (1, []), (2, []), (8, []), (9, []), (10, [])], [], false, [], []⟩, .out (.st .normal (E31_0_0 x1 x2 x4)), .d false, .d false, .d false, .d false, .d false, .d false, .d false, .d false, .d false] [⟨c2⟩, ⟨c2⟩, ⟨c2⟩, ⟨c2⟩, ⟨c2⟩, ⟨c2⟩, ⟨c2⟩, ⟨c2⟩, ⟨c2⟩, ⟨(LT.block (ok_slices_BinarySearchFunc_l0 x1 x2 _ k 0 (nI x1.length) e0))⟩, ⟨(len_map e_u8_i64 x1)⟩] (by kernel_rfl)
end Go.Ws
