/-
  slices_IndexFunc: what the machine makes of it. (Printed by my own program.)
  Conditions: none.
-/
import Derived.Test.YtlgkcajgkahmgaaZPre
import Derived.Test.YtlgkcajgkahmgaaZPure
import Derived.Test.YtlgkcajgkahmgaaZW23
set_option linter.unusedVariables false
set_option linter.unusedSimpArgs false
namespace Go.Ws
open Go.Proofs
set_option linter.unusedSimpArgs false
set_option linter.unusedVariables false
set_option maxRecDepth 1000000
set_option maxHeartbeats 4000000
noncomputable def X30 : Ctx := ⟨Try.f30, [], true⟩
noncomputable def L30_0 : Code := at_ Try.f30 [1, 0, 1, 4, 5]
def S30_0 (x1 : List (Int × Int)) (v30001_1 : Int) : St := ⟨mkT 19 [(0, (.sl 2 (List.map e_u8_i64 x1))), (1, (.fn 23 [])), (7, (.int .i64 (nI x1.length))), (8, (.int .i64 v30001_1))], []⟩
def E30_0_0 : St := ⟨mkT 19 [], []⟩
def O30_0 (x1 : List (Int × Int)) (y : (Sum (Unit) (Int))) : GX := match y with
  | .inl y => .st (.exit 0) (E30_0_0)
  | .inr y => .fin (.int .i64 y) []
theorem ok_slices_IndexFunc_l0 (x1 : List (Int × Int)) (y : (Sum (Unit) (Int))) : ∀ (k : Nat) (v30001_1 : Int), slices_IndexFunc_l0 k x1 v30001_1 = some y → LT Try.prog X30 L30_0 (S30_0 x1 v30001_1) (O30_0 x1 y)
  | 0, v30001_1, h => by cases h
  | k + 1, v30001_1, h => by
    rw [slices_IndexFunc_l0] at h
    by_cases cL0 : ltI v30001_1 (nI x1.length) = true
    · rw [if_pos cL0] at h
      by_cases cL1 : inI v30001_1 x1.length = true
      · rw [if_pos cL1] at h
        obtain ⟨v30000_1, eL2, h⟩ := Option.bind_eq_some_iff.1 h
        by_cases cL3 : (ledger_Put_1 v30000_1.1 v30000_1.2) = true
        · rw [if_pos cL3] at h
          obtain rfl := Option.some.inj h
          show LT _ _ _ _ (.fin (.int .i64 v30001_1) [])
          exact LT.done mixed (hs := ⟨[], [], false, [], []⟩) (es := none) [.d true, .n x1.length, .row [(.int .u8 v30000_1.1), (.int .i64 v30000_1.2)], .call ⟨true, []⟩ (.bool (ledger_Put_1 v30000_1.1 v30000_1.2)) [], .d true] [⟨cL3⟩, ⟨(ok_ledger_Put_1 v30000_1.1 v30000_1.2)⟩, ⟨(cells_map (e := e_u8_i64) eL2 2 0 2 (by decide))⟩, ⟨cL1⟩, ⟨(len_map e_u8_i64 x1)⟩, ⟨cL0⟩] (by kernel_rfl) (fun s h => by cases h)
        · rw [if_neg cL3] at h
          replace cL3 := eqf cL3
          exact LT.next mixed (hs := ⟨[(0, []), (1, []), (7, []), (8, [])], [], false, [], []⟩) (es := none) [.d true, .n x1.length, .row [(.int .u8 v30000_1.1), (.int .i64 v30000_1.2)], .call ⟨true, []⟩ (.bool (ledger_Put_1 v30000_1.1 v30000_1.2)) [], .d false] [⟨cL3⟩, ⟨(ok_ledger_Put_1 v30000_1.1 v30000_1.2)⟩, ⟨(cells_map (e := e_u8_i64) eL2 2 0 2 (by decide))⟩, ⟨cL1⟩, ⟨(len_map e_u8_i64 x1)⟩, ⟨cL0⟩] (by kernel_rfl) (ok_slices_IndexFunc_l0 x1 y k (iadd .i64 v30001_1 1) h)
      · rw [if_neg cL1] at h
        replace cL1 := eqf cL1
        cases h
    · rw [if_neg cL0] at h
      replace cL0 := eqf cL0
      obtain rfl := Option.some.inj h
      show LT _ _ _ _ (.st (.exit 0) (E30_0_0))
      exact LT.done mixed (hs := ⟨[], [], false, [], []⟩) (es := (some ⟨[], [], false, [], []⟩)) [.d false] [⟨cL0⟩] (by kernel_rfl) (fun s h => by cases h)
theorem ok_slices_IndexFunc (k : Nat) (x1 : List (Int × Int)) (r : Int) (h : slices_IndexFunc k x1 = some r) : Tri Try.prog 30 [(.sl 2 (List.map e_u8_i64 x1)), (.fn 23 [])] [] (.int .i64 r) [] := by
    unfold slices_IndexFunc at h
    obtain ⟨x2, e0, h⟩ := Option.bind_eq_some_iff.1 h
    cases x2 with
    | inl x3 =>
      simp only [Sum.elim_inl] at h
      obtain rfl := Option.some.inj h
      exact Tri.of (x := X30) mixed facts30 [.n x1.length, .norm 2 ⟨[(0, []), (1, []), (7, []), (8, [])], [], false, [], []⟩, .out (.st .normal (E30_0_0))] [⟨(LT.block (ok_slices_IndexFunc_l0 x1 _ k 0 e0))⟩, ⟨(len_map e_u8_i64 x1)⟩] (by kernel_rfl)
    | inr x3 =>
      simp only [Sum.elim_inr] at h
      obtain rfl := Option.some.inj h
      exact Tri.of (x := X30) mixed facts30 [.n x1.length, .norm 2 ⟨[(0, []), (1, []), (7, []), (8, [])], [], false, [], []⟩, .out (.fin (.int .i64 x3) [])] [⟨(LT.blockFin (id := 0) (ok_slices_IndexFunc_l0 x1 _ k 0 e0))⟩, ⟨(len_map e_u8_i64 x1)⟩] (by kernel_rfl)
end Go.Ws
