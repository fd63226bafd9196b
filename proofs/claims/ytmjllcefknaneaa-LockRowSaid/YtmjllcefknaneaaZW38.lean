/-
  cmp_isNaN_38: what the machine makes of it. (Printed by my own program.)
  Conditions: none.
-/
import Derived.Test.YtmjllcefknaneaaZPre
import Derived.Test.YtmjllcefknaneaaZPure
set_option linter.unusedVariables false
set_option linter.unusedSimpArgs false
namespace Go.Ws
open Go.Proofs
set_option linter.unusedSimpArgs false
set_option linter.unusedVariables false
set_option maxRecDepth 1000000
set_option maxHeartbeats 4000000
noncomputable def X38 : Ctx := ⟨Try.f38, [], true⟩
theorem ok_cmp_isNaN_38 (x1 : Int) : Tri Try.prog 38 [(.int .i64 x1)] [] (.bool (cmp_isNaN_38 x1)) [] := by
    obtain ⟨r, h⟩ : ∃ r, cmp_isNaN_38 x1 = r := ⟨_, rfl⟩
    try rw [h]
    unfold cmp_isNaN_38 at h
    obtain rfl := h
    exact Tri.of (x := X38) mixed facts38 [] [] (by kernel_rfl)
end Go.Ws
