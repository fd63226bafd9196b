/-
  law09_PartCalls: what the machine makes of it. (Printed by my own program.)
  Conditions: none.
-/
import Derived.Test.YtnokdedppgmliaaZPre
import Derived.Test.YtnokdedppgmliaaZPure
import Derived.Test.YtnokdedppgmliaaZW10
import Derived.Test.YtnokdedppgmliaaZW11
import Derived.Test.YtnokdedppgmliaaZW12
import Derived.Test.YtnokdedppgmliaaZW13
import Derived.Test.YtnokdedppgmliaaZW14
import Derived.Test.YtnokdedppgmliaaZW15
import Derived.Test.YtnokdedppgmliaaZW16
import Derived.Test.YtnokdedppgmliaaZW9
set_option linter.unusedVariables false
set_option linter.unusedSimpArgs false
namespace Go.Ws
open Go.Proofs
set_option linter.unusedSimpArgs false
set_option linter.unusedVariables false
set_option maxRecDepth 1000000
set_option maxHeartbeats 4000000
noncomputable def X3 : Ctx := ⟨Try.f3, [], true⟩
theorem ok_law09_PartCalls (k : Nat) (x1 : Int) (x2 : List (Int × Int)) (x3 : Bool) (x4 : Int) (x5 : Int) (x6 : Int) (x7 : Int) (x8 : Bool) (x9 : Int) (r : Bool) (h : law09_PartCalls k x1 x2 x3 x4 x5 x6 x7 x8 x9 = some r) : Tri Try.prog 3 [(.agg [(.int .i64 x1), (.sl 2 (List.map e_u8_i64 x2)), (.bool x3), (.int .i64 x4)]), (.agg [(.int .u8 x5), (.int .u8 x6), (.int .i64 x7), (.bool x8), (.int .i64 x9)])] [] (.bool r) [] := by
    unfold law09_PartCalls at h
    obtain ⟨x10, e0, h⟩ := Option.bind_eq_some_iff.1 h
    by_cases c1 : x10 = true
    · rw [if_pos c1] at h
      by_cases c2 : ltI 80 (nI x2.length) = true
      · rw [if_pos c2] at h
        obtain rfl := Option.some.inj h
        exact Tri.of (x := X3) mixed facts3 [.call ⟨true, []⟩ (.bool x10) [], .d false, .n x2.length, .d true] [⟨c2⟩, ⟨(len_map e_u8_i64 x2)⟩, ⟨(nF c1)⟩, ⟨(ok_law09_alive k _ e0)⟩] (by kernel_rfl)
      · rw [if_neg c2] at h
        replace c2 := eqf c2
        obtain ⟨x11, e3, h⟩ := Option.bind_eq_some_iff.1 h
        by_cases c4 : x11.2.2.2.2.2.2.2.2.2 = true
        · rw [if_pos c4] at h
          obtain ⟨x12, e5, h⟩ := Option.bind_eq_some_iff.1 h
          by_cases c6 : x12 = true
          · rw [if_pos c6] at h
            obtain ⟨x13, e7, h⟩ := Option.bind_eq_some_iff.1 h
            obtain ⟨x14, e8, h⟩ := Option.bind_eq_some_iff.1 h
            by_cases c9 : eqB x13 x14 = true
            · rw [if_pos c9] at h
              obtain ⟨x15, e10, h⟩ := Option.bind_eq_some_iff.1 h
              obtain ⟨x16, e11, h⟩ := Option.bind_eq_some_iff.1 h
              obtain ⟨x17, e12, h⟩ := Option.bind_eq_some_iff.1 h
              obtain rfl := Option.some.inj h
              exact Tri.of (x := X3) mixed facts3 [.call ⟨true, []⟩ (.bool x10) [], .d false, .n x2.length, .d false, .call ⟨true, []⟩ (.tup [(.agg [(.int .i64 x11.1), (.sl 2 (List.map e_u8_i64 x11.2.1)), (.bool x11.2.2.1), (.int .i64 x11.2.2.2.1)]), (.agg [(.int .i64 x11.2.2.2.2.1), (.sl 2 (List.map e_u8_i64 x11.2.2.2.2.2.1)), (.bool x11.2.2.2.2.2.2.1), (.int .i64 x11.2.2.2.2.2.2.2.1)]), (.sl 2 (List.map e_u8_i64 x11.2.2.2.2.2.2.2.2.1)), (.bool x11.2.2.2.2.2.2.2.2.2)]) [], .d true, .d true, .d true, .call ⟨true, []⟩ (.bool x12) [], .d true, .d true, .d true, .call ⟨true, []⟩ (.bool x13) [], .d true, .d true, .call ⟨true, []⟩ (.bool x14) [], .d true, .d true, .d true, .d true, .call ⟨true, []⟩ (.sl 2 (List.map e_u8_i64 x15)) [], .d true, .d true, .call ⟨true, []⟩ (.sl 2 (List.map e_u8_i64 x16)) [], .d true, .call ⟨true, []⟩ (.bool x17) [], .d true] [⟨c9⟩, ⟨(ok_ref09_Deltas k x15 x16 _ e12)⟩, ⟨c9⟩, ⟨(ok_ref09_Effect k x1 x2 x3 x4 _ e11)⟩, ⟨c9⟩, ⟨c9⟩, ⟨(ok_part_Effect k x1 x2 x3 x4 _ e10)⟩, ⟨c9⟩, ⟨c9⟩, ⟨c6⟩, ⟨c6⟩, ⟨(ok_ref09_Right k x1 x2 x3 x4 _ e8)⟩, ⟨c6⟩, ⟨c6⟩, ⟨(ok_part_Right k x1 x2 x3 x4 _ e7)⟩, ⟨c6⟩, ⟨c6⟩, ⟨c4⟩, ⟨(ok_ref09_Same k x11.1 x11.2.1 x11.2.2.1 x11.2.2.2.1 x11.2.2.2.2.1 x11.2.2.2.2.2.1 x11.2.2.2.2.2.2.1 x11.2.2.2.2.2.2.2.1 _ e5)⟩, ⟨c4⟩, ⟨c4⟩, ⟨c4⟩, ⟨(ok_law09_does k x1 x2 x3 x4 x1 x2 x3 x4 x5 x6 x7 x8 x9 _ e3)⟩, ⟨c2⟩, ⟨(len_map e_u8_i64 x2)⟩, ⟨(nF c1)⟩, ⟨(ok_law09_alive k _ e0)⟩] (by kernel_rfl)
            · rw [if_neg c9] at h
              replace c9 := eqf c9
              obtain rfl := Option.some.inj h
              exact Tri.of (x := X3) mixed facts3 [.call ⟨true, []⟩ (.bool x10) [], .d false, .n x2.length, .d false, .call ⟨true, []⟩ (.tup [(.agg [(.int .i64 x11.1), (.sl 2 (List.map e_u8_i64 x11.2.1)), (.bool x11.2.2.1), (.int .i64 x11.2.2.2.1)]), (.agg [(.int .i64 x11.2.2.2.2.1), (.sl 2 (List.map e_u8_i64 x11.2.2.2.2.2.1)), (.bool x11.2.2.2.2.2.2.1), (.int .i64 x11.2.2.2.2.2.2.2.1)]), (.sl 2 (List.map e_u8_i64 x11.2.2.2.2.2.2.2.2.1)), (.bool x11.2.2.2.2.2.2.2.2.2)]) [], .d true, .d true, .d true, .call ⟨true, []⟩ (.bool x12) [], .d true, .d true, .d true, .call ⟨true, []⟩ (.bool x13) [], .d true, .d true, .call ⟨true, []⟩ (.bool x14) [], .d true, .d true, .d false, .d false, .d false, .d false, .d false, .d false] [⟨c9⟩, ⟨c9⟩, ⟨c9⟩, ⟨c9⟩, ⟨c9⟩, ⟨c9⟩, ⟨c6⟩, ⟨c6⟩, ⟨(ok_ref09_Right k x1 x2 x3 x4 _ e8)⟩, ⟨c6⟩, ⟨c6⟩, ⟨(ok_part_Right k x1 x2 x3 x4 _ e7)⟩, ⟨c6⟩, ⟨c6⟩, ⟨c4⟩, ⟨(ok_ref09_Same k x11.1 x11.2.1 x11.2.2.1 x11.2.2.2.1 x11.2.2.2.2.1 x11.2.2.2.2.2.1 x11.2.2.2.2.2.2.1 x11.2.2.2.2.2.2.2.1 _ e5)⟩, ⟨c4⟩, ⟨c4⟩, ⟨c4⟩, ⟨(ok_law09_does k x1 x2 x3 x4 x1 x2 x3 x4 x5 x6 x7 x8 x9 _ e3)⟩, ⟨c2⟩, ⟨(len_map e_u8_i64 x2)⟩, ⟨(nF c1)⟩, ⟨(ok_law09_alive k _ e0)⟩] (by kernel_rfl)
          · rw [if_neg c6] at h
            replace c6 := eqf c6
            obtain rfl := Option.some.inj h
            exact Tri.of (x := X3) mixed facts3 [.call ⟨true, []⟩ (.bool x10) [], .d false, .n x2.length, .d false, .call ⟨true, []⟩ (.tup [(.agg [(.int .i64 x11.1), (.sl 2 (List.map e_u8_i64 x11.2.1)), (.bool x11.2.2.1), (.int .i64 x11.2.2.2.1)]), (.agg [(.int .i64 x11.2.2.2.2.1), (.sl 2 (List.map e_u8_i64 x11.2.2.2.2.2.1)), (.bool x11.2.2.2.2.2.2.1), (.int .i64 x11.2.2.2.2.2.2.2.1)]), (.sl 2 (List.map e_u8_i64 x11.2.2.2.2.2.2.2.2.1)), (.bool x11.2.2.2.2.2.2.2.2.2)]) [], .d true, .d true, .d true, .call ⟨true, []⟩ (.bool x12) [], .d true, .d false, .d false, .d false, .d false, .d false, .d false, .d false, .d false, .d false, .d false, .d false, .d false] [⟨(rfl : false = false)⟩, ⟨(rfl : false = false)⟩, ⟨(rfl : false = false)⟩, ⟨(rfl : false = false)⟩, ⟨(rfl : false = false)⟩, ⟨(rfl : false = false)⟩, ⟨c6⟩, ⟨c6⟩, ⟨c6⟩, ⟨c6⟩, ⟨c6⟩, ⟨c6⟩, ⟨c4⟩, ⟨(ok_ref09_Same k x11.1 x11.2.1 x11.2.2.1 x11.2.2.2.1 x11.2.2.2.2.1 x11.2.2.2.2.2.1 x11.2.2.2.2.2.2.1 x11.2.2.2.2.2.2.2.1 _ e5)⟩, ⟨c4⟩, ⟨c4⟩, ⟨c4⟩, ⟨(ok_law09_does k x1 x2 x3 x4 x1 x2 x3 x4 x5 x6 x7 x8 x9 _ e3)⟩, ⟨c2⟩, ⟨(len_map e_u8_i64 x2)⟩, ⟨(nF c1)⟩, ⟨(ok_law09_alive k _ e0)⟩] (by kernel_rfl)
        · rw [if_neg c4] at h
          replace c4 := eqf c4
          obtain rfl := Option.some.inj h
          exact Tri.of (x := X3) mixed facts3 [.call ⟨true, []⟩ (.bool x10) [], .d false, .n x2.length, .d false, .call ⟨true, []⟩ (.tup [(.agg [(.int .i64 x11.1), (.sl 2 (List.map e_u8_i64 x11.2.1)), (.bool x11.2.2.1), (.int .i64 x11.2.2.2.1)]), (.agg [(.int .i64 x11.2.2.2.2.1), (.sl 2 (List.map e_u8_i64 x11.2.2.2.2.2.1)), (.bool x11.2.2.2.2.2.2.1), (.int .i64 x11.2.2.2.2.2.2.2.1)]), (.sl 2 (List.map e_u8_i64 x11.2.2.2.2.2.2.2.2.1)), (.bool x11.2.2.2.2.2.2.2.2.2)]) [], .d false, .d false, .d false, .d false, .d false, .d false, .d false, .d false, .d false, .d false, .d false, .d false, .d false, .d false, .d false, .d false] [⟨(rfl : false = false)⟩, ⟨(rfl : false = false)⟩, ⟨(rfl : false = false)⟩, ⟨(rfl : false = false)⟩, ⟨(rfl : false = false)⟩, ⟨(rfl : false = false)⟩, ⟨(rfl : false = false)⟩, ⟨(rfl : false = false)⟩, ⟨(rfl : false = false)⟩, ⟨(rfl : false = false)⟩, ⟨(rfl : false = false)⟩, ⟨(rfl : false = false)⟩, ⟨c4⟩, ⟨c4⟩, ⟨c4⟩, ⟨c4⟩, ⟨(ok_law09_does k x1 x2 x3 x4 x1 x2 x3 x4 x5 x6 x7 x8 x9 _ e3)⟩, ⟨c2⟩, ⟨(len_map e_u8_i64 x2)⟩, ⟨(nF c1)⟩, ⟨(ok_law09_alive k _ e0)⟩] (by kernel_rfl)
    · rw [if_neg c1] at h
      replace c1 := eqf c1
      obtain rfl := Option.some.inj h
      exact Tri.of (x := X3) mixed facts3 [.call ⟨true, []⟩ (.bool x10) [], .d true] [⟨(nT c1)⟩, ⟨(ok_law09_alive k _ e0)⟩] (by kernel_rfl)
end Go.Ws
