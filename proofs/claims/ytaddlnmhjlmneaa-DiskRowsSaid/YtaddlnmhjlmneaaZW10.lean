/-
  ref04_Right: what the machine makes of it. (Printed by my own program.)
  Conditions: none.
-/
import Derived.Test.YtaddlnmhjlmneaaZPre
import Derived.Test.YtaddlnmhjlmneaaZPure
set_option linter.unusedVariables false
set_option linter.unusedSimpArgs false
namespace Go.Ws
open Go.Proofs
set_option linter.unusedSimpArgs false
set_option linter.unusedVariables false
set_option maxRecDepth 1000000
set_option maxHeartbeats 4000000
noncomputable def X10 : Ctx := ⟨Try.f10, [], true⟩
theorem ok_ref04_Right (x1 : List Int) (x2 : Int) (x3 : Int) : Tri Try.prog 10 [(.agg [(.sl 1 (List.map e_u8 x1)), (.int .i64 x2), (.int .i64 x3)])] [] (.bool (ref04_Right x1 x2 x3)) [] := by
    obtain ⟨r, h⟩ : ∃ r, ref04_Right x1 x2 x3 = r := ⟨_, rfl⟩
    try rw [h]
    unfold ref04_Right at h
    by_cases c0 : ltI x3 0 = true
    · rw [if_pos c0] at h
      obtain rfl := h
      exact Tri.of (x := X10) mixed facts10 [.d false, .d false, .d false, .d false, .d false, .d false, .d false, .d false, .d false, .d false, .d false, .d false, .d false, .d false, .d false, .d false, .d false, .d false, .d false, .d false, .d false, .d false] [⟨(rfl : false = false)⟩, ⟨(rfl : false = false)⟩, ⟨(rfl : false = false)⟩, ⟨(rfl : false = false)⟩, ⟨(rfl : false = false)⟩, ⟨(rfl : false = false)⟩, ⟨(rfl : false = false)⟩, ⟨(rfl : false = false)⟩, ⟨(rfl : false = false)⟩, ⟨(rfl : false = false)⟩, ⟨(rfl : false = false)⟩, ⟨(rfl : false = false)⟩, ⟨(rfl : false = false)⟩, ⟨(rfl : false = false)⟩, ⟨(rfl : false = false)⟩, ⟨(rfl : false = false)⟩, ⟨(rfl : false = false)⟩, ⟨(rfl : false = false)⟩, ⟨(nF c0)⟩, ⟨(nF c0)⟩, ⟨(nF c0)⟩, ⟨(nF c0)⟩] (by kernel_rfl)
    · rw [if_neg c0] at h
      replace c0 := eqf c0
      by_cases c1 : ltI 1048576 x3 = true
      · rw [if_pos c1] at h
        obtain rfl := h
        exact Tri.of (x := X10) mixed facts10 [.d true, .d true, .d true, .d true, .d false, .d false, .d false, .d false, .d false, .d false, .d false, .d false, .d false, .d false, .d false, .d false, .d false, .d false, .d false, .d false, .d false, .d false] [⟨(rfl : false = false)⟩, ⟨(rfl : false = false)⟩, ⟨(rfl : false = false)⟩, ⟨(rfl : false = false)⟩, ⟨(rfl : false = false)⟩, ⟨(rfl : false = false)⟩, ⟨(rfl : false = false)⟩, ⟨(rfl : false = false)⟩, ⟨(rfl : false = false)⟩, ⟨(rfl : false = false)⟩, ⟨(rfl : false = false)⟩, ⟨(nF c1)⟩, ⟨(nF c1)⟩, ⟨(nF c1)⟩, ⟨(nF c1)⟩, ⟨(nF c1)⟩, ⟨(nF c1)⟩, ⟨(nF c1)⟩, ⟨(nT c0)⟩, ⟨(nT c0)⟩, ⟨(nT c0)⟩, ⟨(nT c0)⟩] (by kernel_rfl)
      · rw [if_neg c1] at h
        replace c1 := eqf c1
        by_cases c2 : ltI x3 (nI x1.length) = true
        · rw [if_pos c2] at h
          obtain rfl := h
          exact Tri.of (x := X10) mixed facts10 [.d true, .d true, .d true, .d true, .d true, .d true, .d true, .n x1.length, .d true, .d true, .d true, .d true, .d false, .d false, .d false, .d false, .d false, .d false, .d false, .d false, .d false, .d false, .d false] [⟨(rfl : false = false)⟩, ⟨(rfl : false = false)⟩, ⟨(rfl : false = false)⟩, ⟨(rfl : false = false)⟩, ⟨(rfl : false = false)⟩, ⟨(rfl : false = false)⟩, ⟨(rfl : false = false)⟩, ⟨(nF c2)⟩, ⟨(nF c2)⟩, ⟨(nF c2)⟩, ⟨(nF c2)⟩, ⟨(nT c1)⟩, ⟨(nT c1)⟩, ⟨(nT c1)⟩, ⟨(nT c1)⟩, ⟨(len_map e_u8 x1)⟩, ⟨(nT c1)⟩, ⟨(nT c1)⟩, ⟨(nT c1)⟩, ⟨(nT c0)⟩, ⟨(nT c0)⟩, ⟨(nT c0)⟩, ⟨(nT c0)⟩] (by kernel_rfl)
        · rw [if_neg c2] at h
          replace c2 := eqf c2
          by_cases c3 : ltI x2 0 = true
          · rw [if_pos c3] at h
            obtain rfl := h
            exact Tri.of (x := X10) mixed facts10 [.d true, .d true, .d true, .d true, .d true, .d true, .d true, .n x1.length, .d true, .d true, .d true, .d true, .d true, .d true, .d true, .d true, .d false, .d false, .d false, .d false, .d false, .d false, .d false] [⟨(nF c3)⟩, ⟨(nF c3)⟩, ⟨(nF c3)⟩, ⟨(nF c3)⟩, ⟨(nF c3)⟩, ⟨(nF c3)⟩, ⟨(nF c3)⟩, ⟨(nT c2)⟩, ⟨(nT c2)⟩, ⟨(nT c2)⟩, ⟨(nT c2)⟩, ⟨(nT c1)⟩, ⟨(nT c1)⟩, ⟨(nT c1)⟩, ⟨(nT c1)⟩, ⟨(len_map e_u8 x1)⟩, ⟨(nT c1)⟩, ⟨(nT c1)⟩, ⟨(nT c1)⟩, ⟨(nT c0)⟩, ⟨(nT c0)⟩, ⟨(nT c0)⟩, ⟨(nT c0)⟩] (by kernel_rfl)
          · rw [if_neg c3] at h
            replace c3 := eqf c3
            obtain rfl := h
            exact Tri.of (x := X10) mixed facts10 [.d true, .d true, .d true, .d true, .d true, .d true, .d true, .n x1.length, .d true, .d true, .d true, .d true, .d true, .d true, .d true, .d true, .d true, .d true, .d true, .d true, .d true, .n x1.length, .d true, .d true] [⟨(nT c3)⟩, ⟨(nT c3)⟩, ⟨(len_map e_u8 x1)⟩, ⟨(nT c3)⟩, ⟨(nT c3)⟩, ⟨(nT c3)⟩, ⟨(nT c3)⟩, ⟨(nT c3)⟩, ⟨(nT c2)⟩, ⟨(nT c2)⟩, ⟨(nT c2)⟩, ⟨(nT c2)⟩, ⟨(nT c1)⟩, ⟨(nT c1)⟩, ⟨(nT c1)⟩, ⟨(nT c1)⟩, ⟨(len_map e_u8 x1)⟩, ⟨(nT c1)⟩, ⟨(nT c1)⟩, ⟨(nT c1)⟩, ⟨(nT c0)⟩, ⟨(nT c0)⟩, ⟨(nT c0)⟩, ⟨(nT c0)⟩] (by kernel_rfl)
end Go.Ws
