/-
  LedgerZero: whatever the input, the law returns true and its arguments read as they did. (Printed by my own program.)
  Conditions: none.
-/
import Derived.Test.YtlgkcajgkahmgaaZW5
import Derived.Test.YtlgkcajgkahmgaaZArgs
import Derived.Test.YtlgkcajgkahmgaaZLedgerLaws
import Derived.JoinedOf
import Derived.JoinedAt
set_option linter.unusedVariables false
set_option linter.unusedSimpArgs false
namespace Go.Ws
open Go.Proofs Go.ChangeShapes Go.WideShapes Go.ChangeAt Go.RowKit
set_option linter.unusedSimpArgs false
set_option linter.unusedVariables false
set_option maxRecDepth 1000000
set_option maxHeartbeats 4000000
theorem args_LedgerZero (l : List AV) (h : ArgVs Try.prog 6 Try.f5.params.toList l) : Tri Try.prog 5 l [] (.bool true) [] := by
  have hp : Try.f5.params.toList = [22, 22, 5] := rfl
  rw [hp] at h
  obtain ⟨v0, r0, rfl, h0, v1, r1, rfl, h1, v2, r2, rfl, h2, rfl⟩ := h
  obtain ⟨y0, rfl, w0⟩ := argv_t22 h0
  obtain ⟨y1, rfl, w1⟩ := argv_t22 h1
  obtain ⟨y2, rfl, w2⟩ := argv_t5 h2
  obtain ⟨k, hk⟩ := lim_get (plain_zero y0 y1 y2 w0 w1 w2)
  exact ok_law08_LedgerZero k _ _ _ true hk
end Go.Ws
namespace Go.Proofs.Ytlgkcajgkahmgaa
open Go.ChangeShapes Go.WideShapes Go.ChangeAt Go.RowKit
theorem lifted5 (os : Os) (started : os.Started) (H : Type) (enc : TypeId × Value → H) :
    ReturnsInHanded {} Try.checked os 5 .any (Rows.ledgerZeroSpec.pre6 enc Try.prog Try.f5 Rows.ledgerZeroRow.domain false) (Rows.ledgerZeroSpec.post enc Try.prog Try.f5 false true false false) := by
  refine returnsInHanded_of_change (C := Try.checked) Go.Ws.own started (by kernel_rfl) Try.func5
    (ChangeSpec.witness6 (enc := enc) (C := Try.checked) false ⟨#[], #[.slice none 0 0, .slice none 0 0, .int .u8 0], []⟩ 8 (by kernel_rfl) (by kernel_rfl) (by kernel_rfl) (by kernel_rfl)) ?_
  intro W base args ds gs before hval hW _ _
  exact Go.Ws.contract Go.Ws.laid Go.Ws.rowed Go.Ws.full Try.func5 (by kernel_rfl) Go.Ws.isBool (m := 6) (by kernel_rfl) rfl (fun H ds h => by match ds, h with | [d0, d1, d2], _ => rfl) Go.Ws.args_LedgerZero hval hW

theorem ledgerZero_holds : Rows.LedgerZeroSaid :=
  OpenClaim.holds_of_wide 5 Try.f5 rfl rfl rfl rfl rfl rfl rfl ⟨rfl, rfl, rfl, rfl, rfl⟩ rfl rfl rfl rfl rfl (by kernel_rfl) Try.func5 (by kernel_rfl)
    (of_decide_eq_true (by kernel_rfl)) (by unfold Func.isWrapper; first | (rw [if_pos (by decide +kernel)]; kernel_rfl) | (rw [if_neg (by decide +kernel)]; exact ⟨rfl, rfl⟩))
    (fun os started H enc _ => lifted5 os started H enc)
end Go.Proofs.Ytlgkcajgkahmgaa
