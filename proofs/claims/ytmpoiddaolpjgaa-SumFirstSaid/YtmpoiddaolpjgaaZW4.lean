/-
  law03_SumFirst: what the machine makes of it. (Printed by my own program.)
  Conditions: none.
-/
import Derived.Test.YtmpoiddaolpjgaaZPre
import Derived.Test.YtmpoiddaolpjgaaZPure
import Derived.Test.YtmpoiddaolpjgaaZW10
import Derived.Test.YtmpoiddaolpjgaaZW15
import Derived.Test.YtmpoiddaolpjgaaZW16
import Derived.Test.YtmpoiddaolpjgaaZW17
import Derived.Test.YtmpoiddaolpjgaaZW18
import Derived.Test.YtmpoiddaolpjgaaZW19
set_option linter.unusedVariables false
set_option linter.unusedSimpArgs false
namespace Go.Ws
open Go.Proofs
set_option linter.unusedSimpArgs false
set_option linter.unusedVariables false
set_option maxRecDepth 1000000
set_option maxHeartbeats 4000000
noncomputable def X4 : Ctx := ⟨Try.f4, [], true⟩
theorem ok_law03_SumFirst (k : Nat) (x1 : List Int) (r : Bool) (h : law03_SumFirst k x1 = some r) : Tri Try.prog 4 [(.sl 1 (List.map e_u8 x1))] [] (.bool r) [] := by
    unfold law03_SumFirst at h
    obtain ⟨x2, e0, h⟩ := Option.bind_eq_some_iff.1 h
    by_cases c1 : x2 = true
    · rw [if_pos c1] at h
      by_cases c2 : ltI 6000 (nI x1.length) = true
      · rw [if_pos c2] at h
        obtain rfl := Option.some.inj h
        exact Tri.of (x := X4) mixed facts4 [.call ⟨true, []⟩ (.bool x2) [], .d false, .n x1.length, .d true] [⟨c2⟩, ⟨(len_map e_u8 x1)⟩, ⟨(nF c1)⟩, ⟨(ok_law03_alive k _ e0)⟩] (by kernel_rfl)
      · rw [if_neg c2] at h
        replace c2 := eqf c2
        obtain ⟨x3, e3, h⟩ := Option.bind_eq_some_iff.1 h
        obtain ⟨x4, e4, h⟩ := Option.bind_eq_some_iff.1 h
        obtain ⟨x5, e5, h⟩ := Option.bind_eq_some_iff.1 h
        obtain ⟨x6, e6, h⟩ := Option.bind_eq_some_iff.1 h
        by_cases c7 : eqS (strOf x3.1) (strOf x4.1) = true
        · rw [if_pos c7] at h
          by_cases c8 : eqI x3.2.1 x4.2.1 = true
          · rw [if_pos c8] at h
            by_cases c9 : eqI x3.2.2 x4.2.2 = true
            · rw [if_pos c9] at h
              obtain ⟨x7, e10, h⟩ := Option.bind_eq_some_iff.1 h
              by_cases c11 : x7 = true
              · rw [if_pos c11] at h
                obtain rfl := Option.some.inj h
                exact Tri.of (x := X4) mixed facts4 [.call ⟨true, []⟩ (.bool x2) [], .d false, .n x1.length, .d false, .call ⟨true, []⟩ (.tup [(.sl 1 (List.map e_u8 x3.1)), (.int .i64 x3.2.1), (.int .i64 x3.2.2)]) [], .call ⟨true, []⟩ (.tup [(.sl 1 (List.map e_u8 x4.1)), (.int .i64 x4.2.1), (.int .i64 x4.2.2)]) [], .call ⟨true, []⟩ (.tup [(.sl 1 (List.map e_Lu8E x5.1)), (.int .i64 x5.2)]) [], .call ⟨true, []⟩ (.tup [(.sl 1 (List.map e_Lu8E x6.1)), (.int .i64 x6.2)]) [], .s (strOf x3.1), .s (strOf x4.1), .d true, .d true, .d true, .d true, .d true, .d true, .d true, .d true, .d true, .d true, .d true, .call ⟨true, []⟩ (.bool x7) [], .d true, .d true, .d true, .d true, .d true] [⟨c11⟩, ⟨c11⟩, ⟨c11⟩, ⟨c11⟩, ⟨c9⟩, ⟨(ok_law03_same k x5.1 x6.1 _ e10)⟩, ⟨c9⟩, ⟨c9⟩, ⟨c9⟩, ⟨c8⟩, ⟨c8⟩, ⟨c8⟩, ⟨c8⟩, ⟨c7⟩, ⟨c7⟩, ⟨c7⟩, ⟨c7⟩, ⟨(strRows_u8 x4.1)⟩, ⟨(strRows_u8 x3.1)⟩, ⟨(ok_ref03_All k x1 _ e6)⟩, ⟨(ok_sum_All k x1 _ e5)⟩, ⟨(ok_ref03_First k x1 _ e4)⟩, ⟨(ok_sum_First k x1 _ e3)⟩, ⟨c2⟩, ⟨(len_map e_u8 x1)⟩, ⟨(nF c1)⟩, ⟨(ok_law03_alive k _ e0)⟩] (by kernel_rfl)
              · rw [if_neg c11] at h
                replace c11 := eqf c11
                obtain rfl := Option.some.inj h
                exact Tri.of (x := X4) mixed facts4 [.call ⟨true, []⟩ (.bool x2) [], .d false, .n x1.length, .d false, .call ⟨true, []⟩ (.tup [(.sl 1 (List.map e_u8 x3.1)), (.int .i64 x3.2.1), (.int .i64 x3.2.2)]) [], .call ⟨true, []⟩ (.tup [(.sl 1 (List.map e_u8 x4.1)), (.int .i64 x4.2.1), (.int .i64 x4.2.2)]) [], .call ⟨true, []⟩ (.tup [(.sl 1 (List.map e_Lu8E x5.1)), (.int .i64 x5.2)]) [], .call ⟨true, []⟩ (.tup [(.sl 1 (List.map e_Lu8E x6.1)), (.int .i64 x6.2)]) [], .s (strOf x3.1), .s (strOf x4.1), .d true, .d true, .d true, .d true, .d true, .d true, .d true, .d true, .d true, .d true, .d true, .call ⟨true, []⟩ (.bool x7) [], .d true, .d false, .d false, .d false, .d false] [⟨c11⟩, ⟨c11⟩, ⟨c11⟩, ⟨c11⟩, ⟨c9⟩, ⟨(ok_law03_same k x5.1 x6.1 _ e10)⟩, ⟨c9⟩, ⟨c9⟩, ⟨c9⟩, ⟨c8⟩, ⟨c8⟩, ⟨c8⟩, ⟨c8⟩, ⟨c7⟩, ⟨c7⟩, ⟨c7⟩, ⟨c7⟩, ⟨(strRows_u8 x4.1)⟩, ⟨(strRows_u8 x3.1)⟩, ⟨(ok_ref03_All k x1 _ e6)⟩, ⟨(ok_sum_All k x1 _ e5)⟩, ⟨(ok_ref03_First k x1 _ e4)⟩, ⟨(ok_sum_First k x1 _ e3)⟩, ⟨c2⟩, ⟨(len_map e_u8 x1)⟩, ⟨(nF c1)⟩, ⟨(ok_law03_alive k _ e0)⟩] (by kernel_rfl)
            · rw [if_neg c9] at h
              replace c9 := eqf c9
              obtain rfl := Option.some.inj h
              exact Tri.of (x := X4) mixed facts4 [.call ⟨true, []⟩ (.bool x2) [], .d false, .n x1.length, .d false, .call ⟨true, []⟩ (.tup [(.sl 1 (List.map e_u8 x3.1)), (.int .i64 x3.2.1), (.int .i64 x3.2.2)]) [], .call ⟨true, []⟩ (.tup [(.sl 1 (List.map e_u8 x4.1)), (.int .i64 x4.2.1), (.int .i64 x4.2.2)]) [], .call ⟨true, []⟩ (.tup [(.sl 1 (List.map e_Lu8E x5.1)), (.int .i64 x5.2)]) [], .call ⟨true, []⟩ (.tup [(.sl 1 (List.map e_Lu8E x6.1)), (.int .i64 x6.2)]) [], .s (strOf x3.1), .s (strOf x4.1), .d true, .d true, .d true, .d true, .d true, .d true, .d true, .d true, .d false, .d false, .d false, .d false, .d false, .d false, .d false, .d false] [⟨(rfl : false = false)⟩, ⟨(rfl : false = false)⟩, ⟨(rfl : false = false)⟩, ⟨(rfl : false = false)⟩, ⟨c9⟩, ⟨c9⟩, ⟨c9⟩, ⟨c9⟩, ⟨c8⟩, ⟨c8⟩, ⟨c8⟩, ⟨c8⟩, ⟨c7⟩, ⟨c7⟩, ⟨c7⟩, ⟨c7⟩, ⟨(strRows_u8 x4.1)⟩, ⟨(strRows_u8 x3.1)⟩, ⟨(ok_ref03_All k x1 _ e6)⟩, ⟨(ok_sum_All k x1 _ e5)⟩, ⟨(ok_ref03_First k x1 _ e4)⟩, ⟨(ok_sum_First k x1 _ e3)⟩, ⟨c2⟩, ⟨(len_map e_u8 x1)⟩, ⟨(nF c1)⟩, ⟨(ok_law03_alive k _ e0)⟩] (by kernel_rfl)
          · rw [if_neg c8] at h
            replace c8 := eqf c8
            obtain rfl := Option.some.inj h
            exact Tri.of (x := X4) mixed facts4 [.call ⟨true, []⟩ (.bool x2) [], .d false, .n x1.length, .d false, .call ⟨true, []⟩ (.tup [(.sl 1 (List.map e_u8 x3.1)), (.int .i64 x3.2.1), (.int .i64 x3.2.2)]) [], .call ⟨true, []⟩ (.tup [(.sl 1 (List.map e_u8 x4.1)), (.int .i64 x4.2.1), (.int .i64 x4.2.2)]) [], .call ⟨true, []⟩ (.tup [(.sl 1 (List.map e_Lu8E x5.1)), (.int .i64 x5.2)]) [], .call ⟨true, []⟩ (.tup [(.sl 1 (List.map e_Lu8E x6.1)), (.int .i64 x6.2)]) [], .s (strOf x3.1), .s (strOf x4.1), .d true, .d true, .d true, .d true, .d false, .d false, .d false, .d false, .d false, .d false, .d false, .d false, .d false, .d false, .d false, .d false] [⟨(rfl : false = false)⟩, ⟨(rfl : false = false)⟩, ⟨(rfl : false = false)⟩, ⟨(rfl : false = false)⟩, ⟨(rfl : false = false)⟩, ⟨(rfl : false = false)⟩, ⟨(rfl : false = false)⟩, ⟨(rfl : false = false)⟩, ⟨c8⟩, ⟨c8⟩, ⟨c8⟩, ⟨c8⟩, ⟨c7⟩, ⟨c7⟩, ⟨c7⟩, ⟨c7⟩, ⟨(strRows_u8 x4.1)⟩, ⟨(strRows_u8 x3.1)⟩, ⟨(ok_ref03_All k x1 _ e6)⟩, ⟨(ok_sum_All k x1 _ e5)⟩, ⟨(ok_ref03_First k x1 _ e4)⟩, ⟨(ok_sum_First k x1 _ e3)⟩, ⟨c2⟩, ⟨(len_map e_u8 x1)⟩, ⟨(nF c1)⟩, ⟨(ok_law03_alive k _ e0)⟩] (by kernel_rfl)
        · rw [if_neg c7] at h
          replace c7 := eqf c7
          obtain rfl := Option.some.inj h
          exact Tri.of (x := X4) mixed facts4 [.call ⟨true, []⟩ (.bool x2) [], .d false, .n x1.length, .d false, .call ⟨true, []⟩ (.tup [(.sl 1 (List.map e_u8 x3.1)), (.int .i64 x3.2.1), (.int .i64 x3.2.2)]) [], .call ⟨true, []⟩ (.tup [(.sl 1 (List.map e_u8 x4.1)), (.int .i64 x4.2.1), (.int .i64 x4.2.2)]) [], .call ⟨true, []⟩ (.tup [(.sl 1 (List.map e_Lu8E x5.1)), (.int .i64 x5.2)]) [], .call ⟨true, []⟩ (.tup [(.sl 1 (List.map e_Lu8E x6.1)), (.int .i64 x6.2)]) [], .s (strOf x3.1), .s (strOf x4.1), .d false, .d false, .d false, .d false, .d false, .d false, .d false, .d false, .d false, .d false, .d false, .d false, .d false, .d false, .d false, .d false] [⟨(rfl : false = false)⟩, ⟨(rfl : false = false)⟩, ⟨(rfl : false = false)⟩, ⟨(rfl : false = false)⟩, ⟨(rfl : false = false)⟩, ⟨(rfl : false = false)⟩, ⟨(rfl : false = false)⟩, ⟨(rfl : false = false)⟩, ⟨(rfl : false = false)⟩, ⟨(rfl : false = false)⟩, ⟨(rfl : false = false)⟩, ⟨(rfl : false = false)⟩, ⟨c7⟩, ⟨c7⟩, ⟨c7⟩, ⟨c7⟩, ⟨(strRows_u8 x4.1)⟩, ⟨(strRows_u8 x3.1)⟩, ⟨(ok_ref03_All k x1 _ e6)⟩, ⟨(ok_sum_All k x1 _ e5)⟩, ⟨(ok_ref03_First k x1 _ e4)⟩, ⟨(ok_sum_First k x1 _ e3)⟩, ⟨c2⟩, ⟨(len_map e_u8 x1)⟩, ⟨(nF c1)⟩, ⟨(ok_law03_alive k _ e0)⟩] (by kernel_rfl)
    · rw [if_neg c1] at h
      replace c1 := eqf c1
      obtain rfl := Option.some.inj h
      exact Tri.of (x := X4) mixed facts4 [.call ⟨true, []⟩ (.bool x2) [], .d true] [⟨(nT c1)⟩, ⟨(ok_law03_alive k _ e0)⟩] (by kernel_rfl)
end Go.Ws
