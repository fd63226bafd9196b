/-
  ledger_Get: what the machine makes of it. (Printed by my own program.)
  Conditions: none.
-/
import Derived.Test.YtlgkcajgkahmgaaZPre
import Derived.Test.YtlgkcajgkahmgaaZPure
set_option linter.unusedVariables false
set_option linter.unusedSimpArgs false
namespace Go.Ws
open Go.Proofs
set_option linter.unusedSimpArgs false
set_option linter.unusedVariables false
set_option maxRecDepth 1000000
set_option maxHeartbeats 4000000
noncomputable def X16 : Ctx := ⟨Try.f16, [], true⟩
noncomputable def L16_0 : Code := at_ Try.f16 [1, 0, 1, 4, 5]
def S16_0 (x1 : List (Int × Int)) (x2 : Int) (v16001_1 : Int) : St := ⟨mkT 20 [(1, (.int .u8 x2)), (7, (.sl 2 (List.map e_u8_i64 x1))), (8, (.int .i64 (nI x1.length))), (9, (.int .i64 v16001_1))], []⟩
def E16_0_0 : St := ⟨mkT 20 [], []⟩
def O16_0 (x1 : List (Int × Int)) (x2 : Int) (y : (Sum (Unit) (Int))) : GX := match y with
  | .inl y => .st (.exit 0) (E16_0_0)
  | .inr y => .fin (.int .i64 y) []
theorem ok_ledger_Get_l0 (x1 : List (Int × Int)) (x2 : Int) (y : (Sum (Unit) (Int))) : ∀ (k : Nat) (v16001_1 : Int), ledger_Get_l0 k x1 x2 v16001_1 = some y → LT Try.prog X16 L16_0 (S16_0 x1 x2 v16001_1) (O16_0 x1 x2 y)
  | 0, v16001_1, h => by cases h
  | k + 1, v16001_1, h => by
    rw [ledger_Get_l0] at h
    by_cases cL0 : ltI v16001_1 (nI x1.length) = true
    · rw [if_pos cL0] at h
      by_cases cL1 : inI v16001_1 x1.length = true
      · rw [if_pos cL1] at h
        obtain ⟨v16000_1, eL2, h⟩ := Option.bind_eq_some_iff.1 h
        by_cases cL3 : eqI v16000_1.1 x2 = true
        · rw [if_pos cL3] at h
          obtain rfl := Option.some.inj h
          show LT _ _ _ _ (.fin (.int .i64 v16000_1.2) [])
          exact LT.done mixed (hs := ⟨[], [], false, [], []⟩) (es := none) [.d true, .n x1.length, .row [(.int .u8 v16000_1.1), (.int .i64 v16000_1.2)], .d true] [⟨cL3⟩, ⟨(cells_map (e := e_u8_i64) eL2 2 0 2 (by decide))⟩, ⟨cL1⟩, ⟨(len_map e_u8_i64 x1)⟩, ⟨cL0⟩] (by kernel_rfl) (fun s h => by cases h)
        · rw [if_neg cL3] at h
          replace cL3 := eqf cL3
          exact LT.next mixed (hs := ⟨[(1, []), (7, []), (8, []), (9, [])], [], false, [], []⟩) (es := none) [.d true, .n x1.length, .row [(.int .u8 v16000_1.1), (.int .i64 v16000_1.2)], .d false] [⟨cL3⟩, ⟨(cells_map (e := e_u8_i64) eL2 2 0 2 (by decide))⟩, ⟨cL1⟩, ⟨(len_map e_u8_i64 x1)⟩, ⟨cL0⟩] (by kernel_rfl) (ok_ledger_Get_l0 x1 x2 y k (iadd .i64 v16001_1 1) h)
      · rw [if_neg cL1] at h
        replace cL1 := eqf cL1
        cases h
    · rw [if_neg cL0] at h
      replace cL0 := eqf cL0
      obtain rfl := Option.some.inj h
      show LT _ _ _ _ (.st (.exit 0) (E16_0_0))
      exact LT.done mixed (hs := ⟨[], [], false, [], []⟩) (es := (some ⟨[], [], false, [], []⟩)) [.d false] [⟨cL0⟩] (by kernel_rfl) (fun s h => by cases h)
theorem ok_ledger_Get (k : Nat) (x1 : List (Int × Int)) (x2 : Int) (r : Int) (h : ledger_Get k x1 x2 = some r) : Tri Try.prog 16 [(.sl 2 (List.map e_u8_i64 x1)), (.int .u8 x2)] [] (.int .i64 r) [] := by
    unfold ledger_Get at h
    obtain ⟨x3, e0, h⟩ := Option.bind_eq_some_iff.1 h
    cases x3 with
    | inl x4 =>
      simp only [Sum.elim_inl] at h
      obtain rfl := Option.some.inj h
      exact Tri.of (x := X16) mixed facts16 [.n x1.length, .norm 2 ⟨[(1, []), (7, []), (8, []), (9, [])], [], false, [], []⟩, .out (.st .normal (E16_0_0))] [⟨(LT.block (ok_ledger_Get_l0 x1 x2 _ k 0 e0))⟩, ⟨(len_map e_u8_i64 x1)⟩] (by kernel_rfl)
    | inr x4 =>
      simp only [Sum.elim_inr] at h
      obtain rfl := Option.some.inj h
      exact Tri.of (x := X16) mixed facts16 [.n x1.length, .norm 2 ⟨[(1, []), (7, []), (8, []), (9, [])], [], false, [], []⟩, .out (.fin (.int .i64 x4) [])] [⟨(LT.blockFin (id := 0) (ok_ledger_Get_l0 x1 x2 _ k 0 e0))⟩, ⟨(len_map e_u8_i64 x1)⟩] (by kernel_rfl)
end Go.Ws
