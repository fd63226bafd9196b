/-
  lock_may: what the machine makes of it. (Printed by my own program.)
  Conditions: none.
-/
import Derived.Test.YtmjllcefknaneaaZPre
import Derived.Test.YtmjllcefknaneaaZPure
set_option linter.unusedVariables false
set_option linter.unusedSimpArgs false
namespace Go.Ws
open Go.Proofs
set_option linter.unusedSimpArgs false
set_option linter.unusedVariables false
set_option maxRecDepth 1000000
set_option maxHeartbeats 4000000
noncomputable def X23 : Ctx := ⟨Try.f23, [], true⟩
theorem ok_lock_may (x1 : Int) (x2 : Int) : Tri Try.prog 23 [(.int .i64 x1), (.int .u8 x2)] [] (.bool (lock_may x1 x2)) [] := by
    obtain ⟨r, h⟩ : ∃ r, lock_may x1 x2 = r := ⟨_, rfl⟩
    try rw [h]
    unfold lock_may at h
    by_cases c0 : ltI x2 64 = true
    · rw [if_pos c0] at h
      by_cases c1 : ltI x1 0 = true
      · rw [if_pos c1] at h
        obtain rfl := h
        exact Tri.of (x := X23) mixed facts23 [.d true, .d true, .d true, .d false, .d false, .d false] [⟨(nF c1)⟩, ⟨(nF c1)⟩, ⟨(nF c1)⟩, ⟨c0⟩, ⟨c0⟩, ⟨c0⟩] (by kernel_rfl)
      · rw [if_neg c1] at h
        replace c1 := eqf c1
        obtain rfl := h
        exact Tri.of (x := X23) mixed facts23 [.d true, .d true, .d true, .d true, .d true, .d true] [⟨(nT c1)⟩, ⟨(nT c1)⟩, ⟨(nT c1)⟩, ⟨c0⟩, ⟨c0⟩, ⟨c0⟩] (by kernel_rfl)
    · rw [if_neg c0] at h
      replace c0 := eqf c0
      obtain rfl := h
      exact Tri.of (x := X23) mixed facts23 [.d false, .d false, .d false, .d false, .d false, .d false] [⟨(rfl : false = false)⟩, ⟨(rfl : false = false)⟩, ⟨(rfl : false = false)⟩, ⟨c0⟩, ⟨c0⟩, ⟨c0⟩] (by kernel_rfl)
end Go.Ws
