/-
  ref08_Get: what the machine makes of it. (Printed by my own program.)
  Conditions: none.
-/
import Derived.Test.YtlgkcajgkahmgaaZPre
import Derived.Test.YtlgkcajgkahmgaaZPure
set_option linter.unusedVariables false
set_option linter.unusedSimpArgs false
namespace Go.Ws
open Go.Proofs
set_option linter.unusedSimpArgs false
set_option linter.unusedVariables false
set_option maxRecDepth 1000000
set_option maxHeartbeats 4000000
noncomputable def X22 : Ctx := ⟨Try.f22, [], true⟩
noncomputable def L22_0 : Code := at_ Try.f22 [1, 0, 1, 4, 5]
def S22_0 (x1 : List (Int × Int)) (x2 : Int) (v22001_1 : Int) : St := ⟨mkT 24 [(0, (.sl 2 (List.map e_u8_i64 x1))), (1, (.int .u8 x2)), (5, (.int .i64 v22001_1))], []⟩
def E22_0_0 : St := ⟨mkT 24 [], []⟩
def O22_0 (x1 : List (Int × Int)) (x2 : Int) (y : (Sum (Unit) (Int))) : GX := match y with
  | .inl y => .st (.exit 0) (E22_0_0)
  | .inr y => .fin (.int .i64 y) []
theorem ok_ref08_Get_l0 (x1 : List (Int × Int)) (x2 : Int) (y : (Sum (Unit) (Int))) : ∀ (k : Nat) (v22001_1 : Int), ref08_Get_l0 k x1 x2 v22001_1 = some y → LT Try.prog X22 L22_0 (S22_0 x1 x2 v22001_1) (O22_0 x1 x2 y)
  | 0, v22001_1, h => by cases h
  | k + 1, v22001_1, h => by
    rw [ref08_Get_l0] at h
    by_cases cL0 : ltI v22001_1 (nI x1.length) = true
    · rw [if_pos cL0] at h
      by_cases cL1 : inI v22001_1 x1.length = true
      · rw [if_pos cL1] at h
        obtain ⟨v22000_1, eL2, h⟩ := Option.bind_eq_some_iff.1 h
        by_cases cL3 : eqI v22000_1.1 x2 = true
        · rw [if_pos cL3] at h
          obtain rfl := Option.some.inj h
          show LT _ _ _ _ (.fin (.int .i64 v22000_1.2) [])
          exact LT.done mixed (hs := ⟨[], [], false, [], []⟩) (es := none) [.n x1.length, .d true, .n x1.length, .row [(.int .u8 v22000_1.1)], .d true, .n x1.length, .row [(.int .i64 v22000_1.2)]] [⟨(cells_map (e := e_u8_i64) eL2 2 1 1 (by decide))⟩, ⟨cL1⟩, ⟨(len_map e_u8_i64 x1)⟩, ⟨cL3⟩, ⟨(cells_map (e := e_u8_i64) eL2 2 0 1 (by decide))⟩, ⟨cL1⟩, ⟨(len_map e_u8_i64 x1)⟩, ⟨cL0⟩, ⟨(len_map e_u8_i64 x1)⟩] (by kernel_rfl) (fun s h => by cases h)
        · rw [if_neg cL3] at h
          replace cL3 := eqf cL3
          exact LT.next mixed (hs := ⟨[(0, []), (1, []), (5, [])], [], false, [], []⟩) (es := none) [.n x1.length, .d true, .n x1.length, .row [(.int .u8 v22000_1.1)], .d false] [⟨cL3⟩, ⟨(cells_map (e := e_u8_i64) eL2 2 0 1 (by decide))⟩, ⟨cL1⟩, ⟨(len_map e_u8_i64 x1)⟩, ⟨cL0⟩, ⟨(len_map e_u8_i64 x1)⟩] (by kernel_rfl) (ok_ref08_Get_l0 x1 x2 y k (iadd .i64 v22001_1 1) h)
      · rw [if_neg cL1] at h
        replace cL1 := eqf cL1
        cases h
    · rw [if_neg cL0] at h
      replace cL0 := eqf cL0
      obtain rfl := Option.some.inj h
      show LT _ _ _ _ (.st (.exit 0) (E22_0_0))
      exact LT.done mixed (hs := ⟨[], [], false, [], []⟩) (es := (some ⟨[], [], false, [], []⟩)) [.n x1.length, .d false] [⟨cL0⟩, ⟨(len_map e_u8_i64 x1)⟩] (by kernel_rfl) (fun s h => by cases h)
theorem ok_ref08_Get (k : Nat) (x1 : List (Int × Int)) (x2 : Int) (r : Int) (h : ref08_Get k x1 x2 = some r) : Tri Try.prog 22 [(.sl 2 (List.map e_u8_i64 x1)), (.int .u8 x2)] [] (.int .i64 r) [] := by
    unfold ref08_Get at h
    obtain ⟨x3, e0, h⟩ := Option.bind_eq_some_iff.1 h
    cases x3 with
    | inl x4 =>
      simp only [Sum.elim_inl] at h
      obtain rfl := Option.some.inj h
      exact Tri.of (x := X22) mixed facts22 [.norm 2 ⟨[(0, []), (1, []), (5, [])], [], false, [], []⟩, .out (.st .normal (E22_0_0))] [⟨(LT.block (ok_ref08_Get_l0 x1 x2 _ k 0 e0))⟩] (by kernel_rfl)
    | inr x4 =>
      simp only [Sum.elim_inr] at h
      obtain rfl := Option.some.inj h
      exact Tri.of (x := X22) mixed facts22 [.norm 2 ⟨[(0, []), (1, []), (5, [])], [], false, [], []⟩, .out (.fin (.int .i64 x4) [])] [⟨(LT.blockFin (id := 0) (ok_ref08_Get_l0 x1 x2 _ k 0 e0))⟩] (by kernel_rfl)
end Go.Ws
