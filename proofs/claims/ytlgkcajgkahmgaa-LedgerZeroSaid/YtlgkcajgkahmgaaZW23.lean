/-
  ledger_Put_1: what the machine makes of it. (Printed by my own program.)
  Conditions: none.
-/
import Derived.Test.YtlgkcajgkahmgaaZPre
import Derived.Test.YtlgkcajgkahmgaaZPure
set_option linter.unusedVariables false
set_option linter.unusedSimpArgs false
namespace Go.Ws
open Go.Proofs
set_option linter.unusedSimpArgs false
set_option linter.unusedVariables false
set_option maxRecDepth 1000000
set_option maxHeartbeats 4000000
noncomputable def X23 : Ctx := ⟨Try.f23, [], true⟩
theorem ok_ledger_Put_1 (x1 : Int) (x2 : Int) : Tri Try.prog 23 [(.agg [(.int .u8 x1), (.int .i64 x2)])] [] (.bool (ledger_Put_1 x1 x2)) [] := by
    obtain ⟨r, h⟩ : ∃ r, ledger_Put_1 x1 x2 = r := ⟨_, rfl⟩
    try rw [h]
    unfold ledger_Put_1 at h
    obtain rfl := h
    exact Tri.of (x := X23) mixed facts23 [] [] (by kernel_rfl)
end Go.Ws
