/-
  ref07_may: what the machine makes of it. (Printed by my own program.)
  Conditions: none.
-/
import Derived.Test.YtmjllcefknaneaaZPre
import Derived.Test.YtmjllcefknaneaaZPure
set_option linter.unusedVariables false
set_option linter.unusedSimpArgs false
namespace Go.Ws
open Go.Proofs
set_option linter.unusedSimpArgs false
set_option linter.unusedVariables false
set_option maxRecDepth 1000000
set_option maxHeartbeats 4000000
noncomputable def X27 : Ctx := ⟨Try.f27, [], true⟩
theorem ok_ref07_may (x1 : Int) (x2 : Int) : Tri Try.prog 27 [(.int .i64 x1), (.int .u8 x2)] [] (.bool (ref07_may x1 x2)) [] := by
    obtain ⟨r, h⟩ : ∃ r, ref07_may x1 x2 = r := ⟨_, rfl⟩
    try rw [h]
    unfold ref07_may at h
    by_cases c0 : ltI x2 64 = true
    · rw [if_pos c0] at h
      by_cases c1 : ltI x1 0 = true
      · rw [if_pos c1] at h
        obtain rfl := h
        exact Tri.of (x := X27) mixed facts27 [.d true, .d true, .d true, .d false, .d false, .d false] [⟨(nF c1)⟩, ⟨(nF c1)⟩, ⟨(nF c1)⟩, ⟨c0⟩, ⟨c0⟩, ⟨c0⟩] (by kernel_rfl)
      · rw [if_neg c1] at h
        replace c1 := eqf c1
        obtain rfl := h
        exact Tri.of (x := X27) mixed facts27 [.d true, .d true, .d true, .d true, .d true, .d true] [⟨(nT c1)⟩, ⟨(nT c1)⟩, ⟨(nT c1)⟩, ⟨c0⟩, ⟨c0⟩, ⟨c0⟩] (by kernel_rfl)
    · rw [if_neg c0] at h
      replace c0 := eqf c0
      obtain rfl := h
      exact Tri.of (x := X27) mixed facts27 [.d false, .d false, .d false, .d false, .d false, .d false] [⟨(rfl : false = false)⟩, ⟨(rfl : false = false)⟩, ⟨(rfl : false = false)⟩, ⟨c0⟩, ⟨c0⟩, ⟨c0⟩] (by kernel_rfl)
end Go.Ws
