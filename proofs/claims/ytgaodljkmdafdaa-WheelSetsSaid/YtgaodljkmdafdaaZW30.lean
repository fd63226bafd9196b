/-
  ref06_ahead: what the machine makes of it. (Printed by my own program.)
  Conditions: none.
-/
import Derived.Test.YtgaodljkmdafdaaZPre
import Derived.Test.YtgaodljkmdafdaaZPure
set_option linter.unusedVariables false
set_option linter.unusedSimpArgs false
namespace Go.Ws
open Go.Proofs
set_option linter.unusedSimpArgs false
set_option linter.unusedVariables false
set_option maxRecDepth 1000000
set_option maxHeartbeats 4000000
noncomputable def X30 : Ctx := ⟨Try.f30, [], true⟩
theorem ok_ref06_ahead (x1 : Int) (x2 : Int) (x3 : Int) (x4 : Int) : Tri Try.prog 30 [(.agg [(.int .i64 x1), (.int .i64 x2)]), (.agg [(.int .i64 x3), (.int .i64 x4)])] [] (.bool (ref06_ahead x1 x2 x3 x4)) [] := by
    obtain ⟨r, h⟩ : ∃ r, ref06_ahead x1 x2 x3 x4 = r := ⟨_, rfl⟩
    try rw [h]
    unfold ref06_ahead at h
    by_cases c0 : ltI x2 x4 = true
    · rw [if_pos c0] at h
      obtain rfl := h
      exact Tri.of (x := X30) mixed facts30 [.d true, .d true, .d true, .d true, .d true, .d true, .d true, .d true] [⟨c0⟩, ⟨c0⟩, ⟨c0⟩, ⟨c0⟩, ⟨c0⟩, ⟨c0⟩, ⟨c0⟩, ⟨c0⟩] (by kernel_rfl)
    · rw [if_neg c0] at h
      replace c0 := eqf c0
      by_cases c1 : eqI x2 x4 = true
      · rw [if_pos c1] at h
        obtain rfl := h
        exact Tri.of (x := X30) mixed facts30 [.d false, .d false, .d false, .d false, .d false, .d false, .d true, .d true, .d true, .d true, .d true, .d false, .d true, .d false] [⟨c0⟩, ⟨c1⟩, ⟨c0⟩, ⟨c1⟩, ⟨c1⟩, ⟨c1⟩, ⟨c1⟩, ⟨c1⟩, ⟨c0⟩, ⟨c0⟩, ⟨c0⟩, ⟨c0⟩, ⟨c0⟩, ⟨c0⟩] (by kernel_rfl)
      · rw [if_neg c1] at h
        replace c1 := eqf c1
        obtain rfl := h
        exact Tri.of (x := X30) mixed facts30 [.d false, .d false, .d false, .d false, .d false, .d false, .d false, .d false, .d false, .d false, .d false, .d false, .d false, .d false] [⟨c0⟩, ⟨c1⟩, ⟨c0⟩, ⟨c1⟩, ⟨c1⟩, ⟨c1⟩, ⟨c1⟩, ⟨c1⟩, ⟨c0⟩, ⟨c0⟩, ⟨c0⟩, ⟨c0⟩, ⟨c0⟩, ⟨c0⟩] (by kernel_rfl)
end Go.Ws
