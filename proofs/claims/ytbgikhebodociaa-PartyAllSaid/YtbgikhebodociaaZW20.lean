/-
  party_Acked_1: what the machine makes of it. (Printed by my own program.)
  Conditions: none.
-/
import Derived.Test.YtbgikhebodociaaZPre
import Derived.Test.YtbgikhebodociaaZPure
set_option linter.unusedVariables false
set_option linter.unusedSimpArgs false
namespace Go.Ws
open Go.Proofs
set_option linter.unusedSimpArgs false
set_option linter.unusedVariables false
set_option maxRecDepth 1000000
set_option maxHeartbeats 4000000
noncomputable def X20 (x3 : Int) : Ctx := ⟨Try.f20, [(.row [(.int .i64 x3)])], false⟩
theorem ok_party_Acked_1 (x1 : Int) (x2 : ByteArray) (x3 : Int) : Tri Try.prog 20 [(.agg [(.int .i64 x1), (.str x2)]), (.hp 0 0)] [(.row [(.int .i64 x3)])] (.bool (ltI x1 x3)) [(.row [(.int .i64 x3)])] := by
    obtain ⟨r, h⟩ : ∃ r, party_Acked_1 x1 x2 x3 = r := ⟨_, rfl⟩
    try rw [h]
    unfold party_Acked_1 at h
    obtain rfl := h
    exact Tri.of (x := (X20 x3)) mixed facts20 [.norm 0 ⟨[(3, [])], [], false, [], []⟩] [] (by kernel_rfl)
end Go.Ws
