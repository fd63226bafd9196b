/-
  part_wide: what the machine makes of it. (Printed by my own program.)
  Conditions: none.
-/
import Derived.Test.YtnokdedppgmliaaZPre
import Derived.Test.YtnokdedppgmliaaZPure
set_option linter.unusedVariables false
set_option linter.unusedSimpArgs false
namespace Go.Ws
open Go.Proofs
set_option linter.unusedSimpArgs false
set_option linter.unusedVariables false
set_option maxRecDepth 1000000
set_option maxHeartbeats 4000000
noncomputable def X28 : Ctx := ⟨Try.f28, [], true⟩
theorem ok_part_wide (x1 : Int) (x2 : Int) : Tri Try.prog 28 [(.agg [(.int .u8 x1), (.int .i64 x2)])] [] (.bool (part_wide x1 x2)) [] := by
    obtain ⟨r, h⟩ : ∃ r, part_wide x1 x2 = r := ⟨_, rfl⟩
    try rw [h]
    unfold part_wide at h
    obtain rfl := h
    exact Tri.of (x := X28) mixed facts28 [] [] (by kernel_rfl)
end Go.Ws
