/-
  ref04_Same: what the machine makes of it. (Printed by my own program.)
  Conditions: none.
-/
import Derived.Test.YtaddlnmhjlmneaaZPre
import Derived.Test.YtaddlnmhjlmneaaZPure
set_option linter.unusedVariables false
set_option linter.unusedSimpArgs false
namespace Go.Ws
open Go.Proofs
set_option linter.unusedSimpArgs false
set_option linter.unusedVariables false
set_option maxRecDepth 1000000
set_option maxHeartbeats 4000000
noncomputable def X15 : Ctx := ⟨Try.f15, [], true⟩
theorem ok_ref04_Same (x1 : List Int) (x2 : Int) (x3 : Int) (x4 : List Int) (x5 : Int) (x6 : Int) : Tri Try.prog 15 [(.agg [(.sl 1 (List.map e_u8 x1)), (.int .i64 x2), (.int .i64 x3)]), (.agg [(.sl 1 (List.map e_u8 x4)), (.int .i64 x5), (.int .i64 x6)])] [] (.bool (ref04_Same x1 x2 x3 x4 x5 x6)) [] := by
    obtain ⟨r, h⟩ : ∃ r, ref04_Same x1 x2 x3 x4 x5 x6 = r := ⟨_, rfl⟩
    try rw [h]
    unfold ref04_Same at h
    by_cases c0 : eqS (strOf x1) (strOf x4) = true
    · rw [if_pos c0] at h
      by_cases c1 : eqI x2 x5 = true
      · rw [if_pos c1] at h
        obtain rfl := h
        exact Tri.of (x := X15) mixed facts15 [.s (strOf x1), .s (strOf x4), .d true, .d true, .d true, .d true, .d true, .d true, .d true, .d true, .d true, .d true, .d true, .d true] [⟨c1⟩, ⟨c1⟩, ⟨c1⟩, ⟨c1⟩, ⟨c1⟩, ⟨c1⟩, ⟨c0⟩, ⟨c0⟩, ⟨c0⟩, ⟨c0⟩, ⟨c0⟩, ⟨c0⟩, ⟨(strRows_u8 x4)⟩, ⟨(strRows_u8 x1)⟩] (by kernel_rfl)
      · rw [if_neg c1] at h
        replace c1 := eqf c1
        obtain rfl := h
        exact Tri.of (x := X15) mixed facts15 [.s (strOf x1), .s (strOf x4), .d true, .d true, .d true, .d true, .d true, .d true, .d false, .d false, .d false, .d false, .d false, .d false] [⟨c1⟩, ⟨c1⟩, ⟨c1⟩, ⟨c1⟩, ⟨c1⟩, ⟨c1⟩, ⟨c0⟩, ⟨c0⟩, ⟨c0⟩, ⟨c0⟩, ⟨c0⟩, ⟨c0⟩, ⟨(strRows_u8 x4)⟩, ⟨(strRows_u8 x1)⟩] (by kernel_rfl)
    · rw [if_neg c0] at h
      replace c0 := eqf c0
      obtain rfl := h
      exact Tri.of (x := X15) mixed facts15 [.s (strOf x1), .s (strOf x4), .d false, .d false, .d false, .d false, .d false, .d false, .d false, .d false, .d false, .d false, .d false, .d false] [⟨(rfl : false = false)⟩, ⟨(rfl : false = false)⟩, ⟨(rfl : false = false)⟩, ⟨(rfl : false = false)⟩, ⟨(rfl : false = false)⟩, ⟨(rfl : false = false)⟩, ⟨c0⟩, ⟨c0⟩, ⟨c0⟩, ⟨c0⟩, ⟨c0⟩, ⟨c0⟩, ⟨(strRows_u8 x4)⟩, ⟨(strRows_u8 x1)⟩] (by kernel_rfl)
end Go.Ws
