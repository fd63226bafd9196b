/-
  lock_Holds_1: what the machine makes of it. (Printed by my own program.)
  Conditions: none.
-/
import Derived.Test.YtmjllcefknaneaaZPre
import Derived.Test.YtmjllcefknaneaaZPure
set_option linter.unusedVariables false
set_option linter.unusedSimpArgs false
namespace Go.Ws
open Go.Proofs
set_option linter.unusedSimpArgs false
set_option linter.unusedVariables false
set_option maxRecDepth 1000000
set_option maxHeartbeats 4000000
noncomputable def X31 (x4 : Int) (x5 : Int) : Ctx := ⟨Try.f31, [(.row [(.int .u8 x4)]), (.row [(.int .i64 x5)])], false⟩
theorem ok_lock_Holds_1 (x1 : Int) (x2 : Int) (x3 : Bool) (x4 : Int) (x5 : Int) : Tri Try.prog 31 [(.agg [(.int .u8 x1), (.int .i64 x2), (.bool x3)]), (.hp 0 0), (.hp 1 0)] [(.row [(.int .u8 x4)]), (.row [(.int .i64 x5)])] (.bool (lock_Holds_1 x1 x2 x3 x4 x5)) [(.row [(.int .u8 x4)]), (.row [(.int .i64 x5)])] := by
    obtain ⟨r, h⟩ : ∃ r, lock_Holds_1 x1 x2 x3 x4 x5 = r := ⟨_, rfl⟩
    try rw [h]
    unfold lock_Holds_1 at h
    by_cases c0 : eqI x1 x4 = true
    · rw [if_pos c0] at h
      obtain rfl := h
      exact Tri.of (x := (X31 x4 x5)) mixed facts31 [.d true, .d true, .d true, .d true, .d true, .norm 0 ⟨[(4, [])], [], false, [], []⟩] [⟨c0⟩, ⟨c0⟩, ⟨c0⟩, ⟨c0⟩, ⟨c0⟩] (by kernel_rfl)
    · rw [if_neg c0] at h
      replace c0 := eqf c0
      obtain rfl := h
      exact Tri.of (x := (X31 x4 x5)) mixed facts31 [.d false, .d false, .d false, .d false, .d false, .norm 0 ⟨[(4, [])], [], false, [], []⟩] [⟨c0⟩, ⟨c0⟩, ⟨c0⟩, ⟨c0⟩, ⟨c0⟩] (by kernel_rfl)
end Go.Ws
