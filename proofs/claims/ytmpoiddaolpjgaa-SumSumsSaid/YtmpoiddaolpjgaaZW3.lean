/-
  law03_SumSums: what the machine makes of it. (Printed by my own program.)
  Conditions: none.
-/
import Derived.Test.YtmpoiddaolpjgaaZPre
import Derived.Test.YtmpoiddaolpjgaaZPure
import Derived.Test.YtmpoiddaolpjgaaZW10
import Derived.Test.YtmpoiddaolpjgaaZW11
import Derived.Test.YtmpoiddaolpjgaaZW12
import Derived.Test.YtmpoiddaolpjgaaZW13
import Derived.Test.YtmpoiddaolpjgaaZW14
set_option linter.unusedVariables false
set_option linter.unusedSimpArgs false
namespace Go.Ws
open Go.Proofs
set_option linter.unusedSimpArgs false
set_option linter.unusedVariables false
set_option maxRecDepth 1000000
set_option maxHeartbeats 4000000
noncomputable def X3 : Ctx := ⟨Try.f3, [], true⟩
theorem ok_law03_SumSums (k : Nat) (x1 : List Int) (r : Bool) (h : law03_SumSums k x1 = some r) : Tri Try.prog 3 [(.sl 1 (List.map e_u8 x1))] [] (.bool r) [] := by
    unfold law03_SumSums at h
    obtain ⟨x2, e0, h⟩ := Option.bind_eq_some_iff.1 h
    by_cases c1 : x2 = true
    · rw [if_pos c1] at h
      by_cases c2 : ltI 6000 (nI x1.length) = true
      · rw [if_pos c2] at h
        obtain rfl := Option.some.inj h
        exact Tri.of (x := X3) mixed facts3 [.call ⟨true, []⟩ (.bool x2) [], .d false, .n x1.length, .d true] [⟨c2⟩, ⟨(len_map e_u8 x1)⟩, ⟨(nF c1)⟩, ⟨(ok_law03_alive k _ e0)⟩] (by kernel_rfl)
      · rw [if_neg c2] at h
        replace c2 := eqf c2
        obtain ⟨x3, e3, h⟩ := Option.bind_eq_some_iff.1 h
        obtain ⟨x4, e4, h⟩ := Option.bind_eq_some_iff.1 h
        obtain ⟨x5, e5, h⟩ := Option.bind_eq_some_iff.1 h
        obtain ⟨x6, e6, h⟩ := Option.bind_eq_some_iff.1 h
        by_cases c7 : eqI x5 x6 = true
        · rw [if_pos c7] at h
          by_cases c8 : eqS (strOf x3.1) (strOf x4.1) = true
          · rw [if_pos c8] at h
            obtain rfl := Option.some.inj h
            exact Tri.of (x := X3) mixed facts3 [.call ⟨true, []⟩ (.bool x2) [], .d false, .n x1.length, .d false, .call ⟨true, []⟩ (.tup [(.sl 1 (List.map e_u8 x3.1)), (.int .i64 x3.2)]) [], .call ⟨true, []⟩ (.tup [(.sl 1 (List.map e_u8 x4.1)), (.int .i64 x4.2)]) [], .call ⟨true, []⟩ (.int .u32 x5) [], .call ⟨true, []⟩ (.int .u32 x6) [], .d true, .d true, .s (strOf x3.1), .d true, .d true, .s (strOf x4.1), .d true, .d true, .d true, .d true, .d true, .d true] [⟨c8⟩, ⟨c8⟩, ⟨c8⟩, ⟨c8⟩, ⟨c7⟩, ⟨c7⟩, ⟨(strRows_u8 x4.1)⟩, ⟨c7⟩, ⟨c7⟩, ⟨(strRows_u8 x3.1)⟩, ⟨c7⟩, ⟨c7⟩, ⟨(ok_ref03_Sum k x1 _ e6)⟩, ⟨(ok_sum_Sum k x1 _ e5)⟩, ⟨(ok_ref03_Frame k x1 _ e4)⟩, ⟨(ok_sum_Frame k x1 _ e3)⟩, ⟨c2⟩, ⟨(len_map e_u8 x1)⟩, ⟨(nF c1)⟩, ⟨(ok_law03_alive k _ e0)⟩] (by kernel_rfl)
          · rw [if_neg c8] at h
            replace c8 := eqf c8
            obtain rfl := Option.some.inj h
            exact Tri.of (x := X3) mixed facts3 [.call ⟨true, []⟩ (.bool x2) [], .d false, .n x1.length, .d false, .call ⟨true, []⟩ (.tup [(.sl 1 (List.map e_u8 x3.1)), (.int .i64 x3.2)]) [], .call ⟨true, []⟩ (.tup [(.sl 1 (List.map e_u8 x4.1)), (.int .i64 x4.2)]) [], .call ⟨true, []⟩ (.int .u32 x5) [], .call ⟨true, []⟩ (.int .u32 x6) [], .d true, .d true, .s (strOf x3.1), .d true, .d true, .s (strOf x4.1), .d true, .d true, .d false, .d false, .d false, .d false] [⟨c8⟩, ⟨c8⟩, ⟨c8⟩, ⟨c8⟩, ⟨c7⟩, ⟨c7⟩, ⟨(strRows_u8 x4.1)⟩, ⟨c7⟩, ⟨c7⟩, ⟨(strRows_u8 x3.1)⟩, ⟨c7⟩, ⟨c7⟩, ⟨(ok_ref03_Sum k x1 _ e6)⟩, ⟨(ok_sum_Sum k x1 _ e5)⟩, ⟨(ok_ref03_Frame k x1 _ e4)⟩, ⟨(ok_sum_Frame k x1 _ e3)⟩, ⟨c2⟩, ⟨(len_map e_u8 x1)⟩, ⟨(nF c1)⟩, ⟨(ok_law03_alive k _ e0)⟩] (by kernel_rfl)
        · rw [if_neg c7] at h
          replace c7 := eqf c7
          obtain rfl := Option.some.inj h
          exact Tri.of (x := X3) mixed facts3 [.call ⟨true, []⟩ (.bool x2) [], .d false, .n x1.length, .d false, .call ⟨true, []⟩ (.tup [(.sl 1 (List.map e_u8 x3.1)), (.int .i64 x3.2)]) [], .call ⟨true, []⟩ (.tup [(.sl 1 (List.map e_u8 x4.1)), (.int .i64 x4.2)]) [], .call ⟨true, []⟩ (.int .u32 x5) [], .call ⟨true, []⟩ (.int .u32 x6) [], .d false, .d false, .d false, .d false, .d false, .d false, .d false, .d false, .d false, .d false] [⟨(rfl : false = false)⟩, ⟨(rfl : false = false)⟩, ⟨(rfl : false = false)⟩, ⟨(rfl : false = false)⟩, ⟨c7⟩, ⟨c7⟩, ⟨c7⟩, ⟨c7⟩, ⟨c7⟩, ⟨c7⟩, ⟨(ok_ref03_Sum k x1 _ e6)⟩, ⟨(ok_sum_Sum k x1 _ e5)⟩, ⟨(ok_ref03_Frame k x1 _ e4)⟩, ⟨(ok_sum_Frame k x1 _ e3)⟩, ⟨c2⟩, ⟨(len_map e_u8 x1)⟩, ⟨(nF c1)⟩, ⟨(ok_law03_alive k _ e0)⟩] (by kernel_rfl)
    · rw [if_neg c1] at h
      replace c1 := eqf c1
      obtain rfl := Option.some.inj h
      exact Tri.of (x := X3) mixed facts3 [.call ⟨true, []⟩ (.bool x2) [], .d true] [⟨(nT c1)⟩, ⟨(ok_law03_alive k _ e0)⟩] (by kernel_rfl)
end Go.Ws
