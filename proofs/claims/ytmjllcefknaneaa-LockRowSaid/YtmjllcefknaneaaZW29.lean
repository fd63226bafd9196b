/-
  lock_Free_1: what the machine makes of it. (Printed by my own program.)
  Conditions: none.
-/
import Derived.Test.YtmjllcefknaneaaZPre
import Derived.Test.YtmjllcefknaneaaZPure
set_option linter.unusedVariables false
set_option linter.unusedSimpArgs false
namespace Go.Ws
open Go.Proofs
set_option linter.unusedSimpArgs false
set_option linter.unusedVariables false
set_option maxRecDepth 1000000
set_option maxHeartbeats 4000000
noncomputable def X29 (x4 : Int) : Ctx := ⟨Try.f29, [(.row [(.int .i64 x4)])], false⟩
theorem ok_lock_Free_1 (x1 : Int) (x2 : Int) (x3 : Bool) (x4 : Int) : Tri Try.prog 29 [(.agg [(.int .u8 x1), (.int .i64 x2), (.bool x3)]), (.hp 0 0)] [(.row [(.int .i64 x4)])] (.bool (eqI x2 x4)) [(.row [(.int .i64 x4)])] := by
    obtain ⟨r, h⟩ : ∃ r, lock_Free_1 x1 x2 x3 x4 = r := ⟨_, rfl⟩
    try rw [h]
    unfold lock_Free_1 at h
    obtain rfl := h
    exact Tri.of (x := (X29 x4)) mixed facts29 [.norm 0 ⟨[(3, [])], [], false, [], []⟩] [] (by kernel_rfl)
end Go.Ws
