/-
  PartyWaits: whatever the input, the law returns true and its arguments read as they did.
  Conditions: none.
-/
import Derived.Test.YtbgikhebodociaaZW6
import Derived.Test.YtbgikhebodociaaZWaits
import Derived.Test.YtbgikhebodociaaZB2
import Derived.JoinedOf
import Derived.JoinedAt
set_option linter.unusedVariables false
set_option linter.unusedSimpArgs false
namespace Go.Ws
open Go.Proofs Go.ChangeShapes Go.WideShapes Go.ChangeAt Go.RowKit
set_option linter.unusedSimpArgs false
set_option linter.unusedVariables false
set_option maxRecDepth 100000
set_option maxHeartbeats 2000000
theorem law6_args (vs : List AV) (h : ArgVs Try.prog 4 Try.f6.params.toList vs) : ∃ k, acall (tiOf Try.prog) prg k true 6 vs [] = some (.bool true, []) := by
  have u40 : Try.prog.underlying 40 = some (.slice 9) := by kernel_rfl
  have u50 : Try.prog.underlying 50 = some (.slice 5) := by kernel_rfl
  have u9 : Try.prog.underlying 9 = some .string := by kernel_rfl
  have u5 : Try.prog.underlying 5 = some (.int .u8) := by kernel_rfl
  have k9 : Try.prog.cellsOf 9 = 1 := by kernel_rfl
  have k5 : Try.prog.cellsOf 5 = 1 := by kernel_rfl
  have hp : Try.f6.params.toList = [40, 50] := rfl
  rw [hp] at h
  obtain ⟨v, r, rfl, h1, w, r2, rfl, h2, rfl⟩ := h
  simp only [ArgV, u40, ArgC, List.cons.injEq, and_true] at h1
  simp only [ArgV, u50, ArgC, List.cons.injEq, and_true] at h2
  obtain ⟨rows1, rfl, l1, p1⟩ := h1
  obtain ⟨rows2, rfl, l2, p2⟩ := h2
  obtain ⟨L1, rfl, -⟩ := rows_of e_str (fun _ => True) rows1 fun row hr => by
    have := (p1 row hr).2
    simp only [u9] at this
    obtain ⟨s, rfl, _⟩ := this
    exact ⟨s, rfl, trivial⟩
  obtain ⟨L2, rfl, q2⟩ := rows_of e_u8 (fun n => 0 ≤ n ∧ n ≤ 255) rows2 fun row hr => by
    have := (p2 row hr).2
    simp only [u5] at this
    obtain ⟨n, rfl, hn⟩ := this
    exact ⟨n, rfl, by simpa [IntKind.min, IntKind.max, IntKind.signed, IntKind.bits] using hn⟩
  obtain ⟨k, hk⟩ := law_waits L1 L2 q2
  rw [k9, k5]
  exact ok_law16_PartyWaits k L1 L2 true hk
end Go.Ws
namespace Go.Proofs.Ytbgikhebodociaa
open Go.ChangeShapes Go.WideShapes Go.ChangeAt Go.RowKit
theorem lifted6 (os : Os) (started : os.Started) (H : Type) (enc : TypeId × Value → H) :
    ReturnsInHanded {} Try.checked os 6 .any (Rows.partyWaitsSpec.pre6 enc Try.prog Try.f6 Rows.partyWaitsRow.domain false) (Rows.partyWaitsSpec.post enc Try.prog Try.f6 false true false false) := by
  refine returnsInHanded_of_change (C := Try.checked) Go.Ws.own started (by kernel_rfl) Try.func6
    (ChangeSpec.witness6 (enc := enc) (C := Try.checked) false ⟨#[], #[.slice none 0 0, .slice none 0 0], []⟩ 8 (by kernel_rfl) (by kernel_rfl) (by kernel_rfl) (by kernel_rfl)) ?_
  intro W base args ds gs before hval hW _ _
  exact Go.Ws.contract Go.Ws.prgOK Go.Ws.laid Go.Ws.rowed Go.Ws.full Try.func6 (by kernel_rfl) Go.Ws.isBool (m := 4) (by kernel_rfl) rfl (fun H ds h => by match ds, h with | [d1, d2], _ => rfl) Go.Ws.law6_args hval hW

theorem waits_holds : Rows.PartyWaitsSaid :=
  OpenClaim.holds_of_wide 6 Try.f6 rfl rfl rfl rfl rfl rfl rfl ⟨rfl, rfl, rfl, rfl, rfl⟩ rfl rfl rfl rfl rfl (by kernel_rfl) Try.func6 (by kernel_rfl)
    (of_decide_eq_true (by kernel_rfl)) (by unfold Func.isWrapper; first | (rw [if_pos (by decide +kernel)]; kernel_rfl) | (rw [if_neg (by decide +kernel)]; exact ⟨rfl, rfl⟩))
    (fun os started H enc _ => lifted6 os started H enc)
end Go.Proofs.Ytbgikhebodociaa
