/-
  party_numbered: what the machine makes of it. (Printed by my own program.)
  Conditions: none.
-/
import Derived.Test.YtbgikhebodociaaZPre
import Derived.Test.YtbgikhebodociaaZPure
set_option linter.unusedVariables false
set_option linter.unusedSimpArgs false
namespace Go.Ws
open Go.Proofs
set_option linter.unusedSimpArgs false
set_option linter.unusedVariables false
set_option maxRecDepth 1000000
set_option maxHeartbeats 4000000
noncomputable def X17 : Ctx := ⟨Try.f17, [], true⟩
theorem ok_party_numbered (x1 : Int) : Tri Try.prog 17 [(.int .i64 x1)] [] (.bool (party_numbered x1)) [] := by
    obtain ⟨r, h⟩ : ∃ r, party_numbered x1 = r := ⟨_, rfl⟩
    try rw [h]
    unfold party_numbered at h
    by_cases c0 : ltI x1 0 = true
    · rw [if_pos c0] at h
      obtain rfl := h
      exact Tri.of (x := X17) mixed facts17 [.d false, .d false, .d false] [⟨(nF c0)⟩, ⟨(nF c0)⟩, ⟨(nF c0)⟩] (by kernel_rfl)
    · rw [if_neg c0] at h
      replace c0 := eqf c0
      obtain rfl := h
      exact Tri.of (x := X17) mixed facts17 [.d true, .d true, .d true] [⟨(nT c0)⟩, ⟨(nT c0)⟩, ⟨(nT c0)⟩] (by kernel_rfl)
end Go.Ws
