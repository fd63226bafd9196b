/-
  law07_LockCalls: what the machine makes of it. (Printed by my own program.)
  Conditions: none.
-/
import Derived.Test.YtmjllcefknaneaaZPre
import Derived.Test.YtmjllcefknaneaaZPure
import Derived.Test.YtmjllcefknaneaaZW10
import Derived.Test.YtmjllcefknaneaaZW11
import Derived.Test.YtmjllcefknaneaaZW12
import Derived.Test.YtmjllcefknaneaaZW13
import Derived.Test.YtmjllcefknaneaaZW14
import Derived.Test.YtmjllcefknaneaaZW15
import Derived.Test.YtmjllcefknaneaaZW16
import Derived.Test.YtmjllcefknaneaaZW17
import Derived.Test.YtmjllcefknaneaaZW18
import Derived.Test.YtmjllcefknaneaaZW19
import Derived.Test.YtmjllcefknaneaaZW20
import Derived.Test.YtmjllcefknaneaaZW21
set_option linter.unusedVariables false
set_option linter.unusedSimpArgs false
namespace Go.Ws
open Go.Proofs
set_option linter.unusedSimpArgs false
set_option linter.unusedVariables false
set_option maxRecDepth 1000000
set_option maxHeartbeats 4000000
noncomputable def X3 : Ctx := ⟨Try.f3, [], true⟩
theorem ok_law07_LockCalls (k : Nat) (x1 : List (Int × Int × Bool)) (x2 : Int) (x3 : Int) (x4 : Int) (x5 : Bool) (r : Bool) (h : law07_LockCalls k x1 x2 x3 x4 x5 = some r) : Tri Try.prog 3 [(.sl 3 (List.map e_u8_i64_b x1)), (.agg [(.int .u8 x2), (.int .i64 x3), (.int .u8 x4), (.bool x5)])] [] (.bool r) [] := by
    unfold law07_LockCalls at h
    obtain ⟨x6, e0, h⟩ := Option.bind_eq_some_iff.1 h
    by_cases c1 : x6 = true
    · rw [if_pos c1] at h
      by_cases c2 : ltI 100 (nI x1.length) = true
      · rw [if_pos c2] at h
        obtain rfl := Option.some.inj h
        exact Tri.of (x := X3) mixed facts3 [.call ⟨true, []⟩ (.bool x6) [], .d false, .n x1.length, .d true] [⟨c2⟩, ⟨(len_map e_u8_i64_b x1)⟩, ⟨(nF c1)⟩, ⟨(ok_law07_alive k _ e0)⟩] (by kernel_rfl)
      · rw [if_neg c2] at h
        replace c2 := eqf c2
        obtain ⟨x7, e3, h⟩ := Option.bind_eq_some_iff.1 h
        obtain ⟨x8, e4, h⟩ := Option.bind_eq_some_iff.1 h
        obtain ⟨x9, e5, h⟩ := Option.bind_eq_some_iff.1 h
        obtain ⟨x10, e6, h⟩ := Option.bind_eq_some_iff.1 h
        obtain ⟨x11, e7, h⟩ := Option.bind_eq_some_iff.1 h
        obtain ⟨x12, e8, h⟩ := Option.bind_eq_some_iff.1 h
        by_cases c9 : eqB x11 x12 = true
        · rw [if_pos c9] at h
          obtain ⟨x13, e10, h⟩ := Option.bind_eq_some_iff.1 h
          obtain ⟨x14, e11, h⟩ := Option.bind_eq_some_iff.1 h
          by_cases c12 : x14 = true
          · rw [if_pos c12] at h
            by_cases c13 : eqI x8.2 x9.2 = true
            · rw [if_pos c13] at h
              obtain ⟨x15, e14, h⟩ := Option.bind_eq_some_iff.1 h
              obtain ⟨x16, e15, h⟩ := Option.bind_eq_some_iff.1 h
              obtain ⟨x17, e16, h⟩ := Option.bind_eq_some_iff.1 h
              obtain ⟨x18, e17, h⟩ := Option.bind_eq_some_iff.1 h
              obtain ⟨x19, e18, h⟩ := Option.bind_eq_some_iff.1 h
              by_cases c19 : x19 = true
              · rw [if_pos c19] at h
                obtain ⟨x20, e20, h⟩ := Option.bind_eq_some_iff.1 h
                obtain ⟨x21, e21, h⟩ := Option.bind_eq_some_iff.1 h
                obtain ⟨x22, e22, h⟩ := Option.bind_eq_some_iff.1 h
                obtain rfl := Option.some.inj h
                exact Tri.of (x := X3) mixed facts3 [.call ⟨true, []⟩ (.bool x6) [], .d false, .n x1.length, .d false, .call ⟨true, []⟩ (.sl 3 (List.map e_u8_i64_b x7)) [], .call ⟨true, []⟩ (.tup [(.sl 3 (List.map e_u8_i64_b x8.1)), (.int .i64 x8.2)]) [], .call ⟨true, []⟩ (.tup [(.sl 3 (List.map e_u8_i64_b x9.1)), (.int .i64 x9.2)]) [], .call ⟨true, []⟩ (.sl 3 (List.map e_u8_i64_b x10)) [], .call ⟨true, []⟩ (.bool x11) [], .call ⟨true, []⟩ (.bool x12) [], .d true, .d true, .call ⟨true, []⟩ (.sl 3 (List.map e_u8_i64_b x13)) [], .d true, .d true, .call ⟨true, []⟩ (.bool x14) [], .d true, .d true, .d true, .d true, .d true, .d true, .d true, .call ⟨true, []⟩ (.sl 3 (List.map e_u8_i64_b x15)) [], .d true, .d true, .d true, .call ⟨true, []⟩ (.sl 3 (List.map e_u8_i64_b x16)) [], .d true, .call ⟨true, []⟩ (.sl 3 (List.map e_u8_i64_b x17)) [], .d true, .d true, .d true, .d true, .call ⟨true, []⟩ (.sl 3 (List.map e_u8_i64_b x18)) [], .d true, .call ⟨true, []⟩ (.bool x19) [], .d true, .d true, .d true, .call ⟨true, []⟩ (.sl 3 (List.map e_u8_i64_b x20)) [], .d true, .d true, .d true, .d true, .d true, .call ⟨true, []⟩ (.int .i64 x21) [], .d true, .d true, .d true, .d true, .d true, .d true, .call ⟨true, []⟩ (.int .i64 x22) [], .d true, .d true] [⟨c19⟩, ⟨c19⟩, ⟨(ok_ref07_Holds k x1 x3 x4 _ e22)⟩, ⟨c19⟩, ⟨c19⟩, ⟨c19⟩, ⟨c19⟩, ⟨c19⟩, ⟨c19⟩, ⟨(ok_lock_Holds k x20 x3 x4 _ e21)⟩, ⟨c19⟩, ⟨c19⟩, ⟨c19⟩, ⟨c19⟩, ⟨c19⟩, ⟨(ok_law07_theirs k x1 _ e20)⟩, ⟨c19⟩, ⟨c19⟩, ⟨c13⟩, ⟨(ok_ref07_Same k x17 x18 _ e18)⟩, ⟨c13⟩, ⟨(ok_ref07_Free k x1 x3 _ e17)⟩, ⟨c13⟩, ⟨c13⟩, ⟨c13⟩, ⟨c13⟩, ⟨(ok_law07_ours k x16 _ e16)⟩, ⟨c13⟩, ⟨(ok_lock_Free k x15 x3 _ e15)⟩, ⟨c13⟩, ⟨c13⟩, ⟨c13⟩, ⟨(ok_law07_theirs k x1 _ e14)⟩, ⟨c13⟩, ⟨c13⟩, ⟨c12⟩, ⟨c12⟩, ⟨c12⟩, ⟨c12⟩, ⟨c9⟩, ⟨(ok_ref07_Same k x13 x9.1 _ e11)⟩, ⟨c9⟩, ⟨c9⟩, ⟨(ok_law07_ours k x8.1 _ e10)⟩, ⟨c9⟩, ⟨c9⟩, ⟨(ok_ref07_Right k x1 _ e8)⟩, ⟨(ok_lock_Right k x10 _ e7)⟩, ⟨(ok_law07_theirs k x1 _ e6)⟩, ⟨(ok_ref07_Take k x1 x3 x4 x5 _ e5)⟩, ⟨(ok_lock_Take k x7 x3 x4 x5 _ e4)⟩, ⟨(ok_law07_theirs k x1 _ e3)⟩, ⟨c2⟩, ⟨(len_map e_u8_i64_b x1)⟩, ⟨(nF c1)⟩, ⟨(ok_law07_alive k _ e0)⟩] (by kernel_rfl)
              · rw [if_neg c19] at h
                replace c19 := eqf c19
                obtain rfl := Option.some.inj h
                exact Tri.of (x := X3) mixed facts3 [.call ⟨true, []⟩ (.bool x6) [], .d false, .n x1.length, .d false, .call ⟨true, []⟩ (.sl 3 (List.map e_u8_i64_b x7)) [], .call ⟨true, []⟩ (.tup [(.sl 3 (List.map e_u8_i64_b x8.1)), (.int .i64 x8.2)]) [], .call ⟨true, []⟩ (.tup [(.sl 3 (List.map e_u8_i64_b x9.1)), (.int .i64 x9.2)]) [], .call ⟨true, []⟩ (.sl 3 (List.map e_u8_i64_b x10)) [], .call ⟨true, []⟩ (.bool x11) [], .call ⟨true, []⟩ (.bool x12) [], .d true, .d true, .call ⟨true, []⟩ (.sl 3 (List.map e_u8_i64_b x13)) [], .d true, .d true, .call ⟨true, []⟩ (.bool x14) [], .d true, .d true, .d true, .d true, .d true, .d true, .d true, .call ⟨true, []⟩ (.sl 3 (List.map e_u8_i64_b x15)) [], .d true, .d true, .d true, .call ⟨true, []⟩ (.sl 3 (List.map e_u8_i64_b x16)) [], .d true, .call ⟨true, []⟩ (.sl 3 (List.map e_u8_i64_b x17)) [], .d true, .d true, .d true, .d true, .call ⟨true, []⟩ (.sl 3 (List.map e_u8_i64_b x18)) [], .d true, .call ⟨true, []⟩ (.bool x19) [], .d true, .d false, .d false, .d false, .d false, .d false, .d false, .d false, .d false, .d false, .d false, .d false, .d false, .d false, .d false, .d false] [⟨c19⟩, ⟨c19⟩, ⟨c19⟩, ⟨c19⟩, ⟨c19⟩, ⟨c19⟩, ⟨c19⟩, ⟨c19⟩, ⟨c19⟩, ⟨c19⟩, ⟨c19⟩, ⟨c19⟩, ⟨c19⟩, ⟨c19⟩, ⟨c19⟩, ⟨c13⟩, ⟨(ok_ref07_Same k x17 x18 _ e18)⟩, ⟨c13⟩, ⟨(ok_ref07_Free k x1 x3 _ e17)⟩, ⟨c13⟩, ⟨c13⟩, ⟨c13⟩, ⟨c13⟩, ⟨(ok_law07_ours k x16 _ e16)⟩, ⟨c13⟩, ⟨(ok_lock_Free k x15 x3 _ e15)⟩, ⟨c13⟩, ⟨c13⟩, ⟨c13⟩, ⟨(ok_law07_theirs k x1 _ e14)⟩, ⟨c13⟩, ⟨c13⟩, ⟨c12⟩, ⟨c12⟩, ⟨c12⟩, ⟨c12⟩, ⟨c9⟩, ⟨(ok_ref07_Same k x13 x9.1 _ e11)⟩, ⟨c9⟩, ⟨c9⟩, ⟨(ok_law07_ours k x8.1 _ e10)⟩, ⟨c9⟩, ⟨c9⟩, ⟨(ok_ref07_Right k x1 _ e8)⟩, ⟨(ok_lock_Right k x10 _ e7)⟩, ⟨(ok_law07_theirs k x1 _ e6)⟩, ⟨(ok_ref07_Take k x1 x3 x4 x5 _ e5)⟩, ⟨(ok_lock_Take k x7 x3 x4 x5 _ e4)⟩, ⟨(ok_law07_theirs k x1 _ e3)⟩, ⟨c2⟩, ⟨(len_map e_u8_i64_b x1)⟩, ⟨(nF c1)⟩, ⟨(ok_law07_alive k _ e0)⟩] (by kernel_rfl)
            · rw [if_neg c13] at h
              replace c13 := eqf c13
              obtain rfl := Option.some.inj h
              exact Tri.of (x := X3) mixed facts3 [.call ⟨true, []⟩ (.bool x6) [], .d false, .n x1.length, .d false, .call ⟨true, []⟩ (.sl 3 (List.map e_u8_i64_b x7)) [], .call ⟨true, []⟩ (.tup [(.sl 3 (List.map e_u8_i64_b x8.1)), (.int .i64 x8.2)]) [], .call ⟨true, []⟩ (.tup [(.sl 3 (List.map e_u8_i64_b x9.1)), (.int .i64 x9.2)]) [], .call ⟨true, []⟩ (.sl 3 (List.map e_u8_i64_b x10)) [], .call ⟨true, []⟩ (.bool x11) [], .call ⟨true, []⟩ (.bool x12) [], .d true, .d true, .call ⟨true, []⟩ (.sl 3 (List.map e_u8_i64_b x13)) [], .d true, .d true, .call ⟨true, []⟩ (.bool x14) [], .d true, .d true, .d true, .d true, .d true, .d false, .d false, .d false, .d false, .d false, .d false, .d false, .d false, .d false, .d false, .d false, .d false, .d false, .d false, .d false, .d false, .d false, .d false, .d false, .d false, .d false, .d false, .d false, .d false, .d false, .d false, .d false] [⟨(rfl : false = false)⟩, ⟨(rfl : false = false)⟩, ⟨(rfl : false = false)⟩, ⟨(rfl : false = false)⟩, ⟨(rfl : false = false)⟩, ⟨(rfl : false = false)⟩, ⟨(rfl : false = false)⟩, ⟨(rfl : false = false)⟩, ⟨(rfl : false = false)⟩, ⟨(rfl : false = false)⟩, ⟨(rfl : false = false)⟩, ⟨(rfl : false = false)⟩, ⟨(rfl : false = false)⟩, ⟨(rfl : false = false)⟩, ⟨(rfl : false = false)⟩, ⟨c13⟩, ⟨c13⟩, ⟨c13⟩, ⟨c13⟩, ⟨c13⟩, ⟨c13⟩, ⟨c13⟩, ⟨c13⟩, ⟨c13⟩, ⟨c13⟩, ⟨c13⟩, ⟨c13⟩, ⟨c12⟩, ⟨c12⟩, ⟨c12⟩, ⟨c12⟩, ⟨c9⟩, ⟨(ok_ref07_Same k x13 x9.1 _ e11)⟩, ⟨c9⟩, ⟨c9⟩, ⟨(ok_law07_ours k x8.1 _ e10)⟩, ⟨c9⟩, ⟨c9⟩, ⟨(ok_ref07_Right k x1 _ e8)⟩, ⟨(ok_lock_Right k x10 _ e7)⟩, ⟨(ok_law07_theirs k x1 _ e6)⟩, ⟨(ok_ref07_Take k x1 x3 x4 x5 _ e5)⟩, ⟨(ok_lock_Take k x7 x3 x4 x5 _ e4)⟩, ⟨(ok_law07_theirs k x1 _ e3)⟩, ⟨c2⟩, ⟨(len_map e_u8_i64_b x1)⟩, ⟨(nF c1)⟩, ⟨(ok_law07_alive k _ e0)⟩] (by kernel_rfl)
          · rw [if_neg c12] at h
            replace c12 := eqf c12
            obtain rfl := Option.some.inj h
            exact Tri.of (x := X3) mixed facts3 [.call ⟨true, []⟩ (.bool x6) [], .d false, .n x1.length, .d false, .call ⟨true, []⟩ (.sl 3 (List.map e_u8_i64_b x7)) [], .call ⟨true, []⟩ (.tup [(.sl 3 (List.map e_u8_i64_b x8.1)), (.int .i64 x8.2)]) [], .call ⟨true, []⟩ (.tup [(.sl 3 (List.map e_u8_i64_b x9.1)), (.int .i64 x9.2)]) [], .call ⟨true, []⟩ (.sl 3 (List.map e_u8_i64_b x10)) [], .call ⟨true, []⟩ (.bool x11) [], .call ⟨true, []⟩ (.bool x12) [], .d true, .d true, .call ⟨true, []⟩ (.sl 3 (List.map e_u8_i64_b x13)) [], .d true, .d true, .call ⟨true, []⟩ (.bool x14) [], .d true, .d false, .d false, .d false, .d false, .d false, .d false, .d false, .d false, .d false, .d false, .d false, .d false, .d false, .d false, .d false, .d false, .d false, .d false, .d false, .d false, .d false, .d false, .d false, .d false, .d false, .d false, .d false, .d false, .d false, .d false, .d false] [⟨(rfl : false = false)⟩, ⟨(rfl : false = false)⟩, ⟨(rfl : false = false)⟩, ⟨(rfl : false = false)⟩, ⟨(rfl : false = false)⟩, ⟨(rfl : false = false)⟩, ⟨(rfl : false = false)⟩, ⟨(rfl : false = false)⟩, ⟨(rfl : false = false)⟩, ⟨(rfl : false = false)⟩, ⟨(rfl : false = false)⟩, ⟨(rfl : false = false)⟩, ⟨(rfl : false = false)⟩, ⟨(rfl : false = false)⟩, ⟨(rfl : false = false)⟩, ⟨(rfl : false = false)⟩, ⟨(rfl : false = false)⟩, ⟨(rfl : false = false)⟩, ⟨(rfl : false = false)⟩, ⟨(rfl : false = false)⟩, ⟨(rfl : false = false)⟩, ⟨(rfl : false = false)⟩, ⟨(rfl : false = false)⟩, ⟨(rfl : false = false)⟩, ⟨(rfl : false = false)⟩, ⟨(rfl : false = false)⟩, ⟨(rfl : false = false)⟩, ⟨c12⟩, ⟨c12⟩, ⟨c12⟩, ⟨c12⟩, ⟨c9⟩, ⟨(ok_ref07_Same k x13 x9.1 _ e11)⟩, ⟨c9⟩, ⟨c9⟩, ⟨(ok_law07_ours k x8.1 _ e10)⟩, ⟨c9⟩, ⟨c9⟩, ⟨(ok_ref07_Right k x1 _ e8)⟩, ⟨(ok_lock_Right k x10 _ e7)⟩, ⟨(ok_law07_theirs k x1 _ e6)⟩, ⟨(ok_ref07_Take k x1 x3 x4 x5 _ e5)⟩, ⟨(ok_lock_Take k x7 x3 x4 x5 _ e4)⟩, ⟨(ok_law07_theirs k x1 _ e3)⟩, ⟨c2⟩, ⟨(len_map e_u8_i64_b x1)⟩, ⟨(nF c1)⟩, ⟨(ok_law07_alive k _ e0)⟩] (by kernel_rfl)
        · rw [if_neg c9] at h
          replace c9 := eqf c9
          obtain rfl := Option.some.inj h
          exact Tri.of (x := X3) mixed facts3 [.call ⟨true, []⟩ (.bool x6) [], .d false, .n x1.length, .d false, .call ⟨true, []⟩ (.sl 3 (List.map e_u8_i64_b x7)) [], .call ⟨true, []⟩ (.tup [(.sl 3 (List.map e_u8_i64_b x8.1)), (.int .i64 x8.2)]) [], .call ⟨true, []⟩ (.tup [(.sl 3 (List.map e_u8_i64_b x9.1)), (.int .i64 x9.2)]) [], .call ⟨true, []⟩ (.sl 3 (List.map e_u8_i64_b x10)) [], .call ⟨true, []⟩ (.bool x11) [], .call ⟨true, []⟩ (.bool x12) [], .d false, .d false, .d false, .d false, .d false, .d false, .d false, .d false, .d false, .d false, .d false, .d false, .d false, .d false, .d false, .d false, .d false, .d false, .d false, .d false, .d false, .d false, .d false, .d false, .d false, .d false, .d false, .d false, .d false, .d false, .d false, .d false, .d false, .d false, .d false, .d false] [⟨(rfl : false = false)⟩, ⟨(rfl : false = false)⟩, ⟨(rfl : false = false)⟩, ⟨(rfl : false = false)⟩, ⟨(rfl : false = false)⟩, ⟨(rfl : false = false)⟩, ⟨(rfl : false = false)⟩, ⟨(rfl : false = false)⟩, ⟨(rfl : false = false)⟩, ⟨(rfl : false = false)⟩, ⟨(rfl : false = false)⟩, ⟨(rfl : false = false)⟩, ⟨(rfl : false = false)⟩, ⟨(rfl : false = false)⟩, ⟨(rfl : false = false)⟩, ⟨(rfl : false = false)⟩, ⟨(rfl : false = false)⟩, ⟨(rfl : false = false)⟩, ⟨(rfl : false = false)⟩, ⟨(rfl : false = false)⟩, ⟨(rfl : false = false)⟩, ⟨(rfl : false = false)⟩, ⟨(rfl : false = false)⟩, ⟨(rfl : false = false)⟩, ⟨(rfl : false = false)⟩, ⟨(rfl : false = false)⟩, ⟨(rfl : false = false)⟩, ⟨(rfl : false = false)⟩, ⟨(rfl : false = false)⟩, ⟨(rfl : false = false)⟩, ⟨(rfl : false = false)⟩, ⟨c9⟩, ⟨c9⟩, ⟨c9⟩, ⟨c9⟩, ⟨c9⟩, ⟨(ok_ref07_Right k x1 _ e8)⟩, ⟨(ok_lock_Right k x10 _ e7)⟩, ⟨(ok_law07_theirs k x1 _ e6)⟩, ⟨(ok_ref07_Take k x1 x3 x4 x5 _ e5)⟩, ⟨(ok_lock_Take k x7 x3 x4 x5 _ e4)⟩, ⟨(ok_law07_theirs k x1 _ e3)⟩, ⟨c2⟩, ⟨(len_map e_u8_i64_b x1)⟩, ⟨(nF c1)⟩, ⟨(ok_law07_alive k _ e0)⟩] (by kernel_rfl)
    · rw [if_neg c1] at h
      replace c1 := eqf c1
      obtain rfl := Option.some.inj h
      exact Tri.of (x := X3) mixed facts3 [.call ⟨true, []⟩ (.bool x6) [], .d true] [⟨(nT c1)⟩, ⟨(ok_law07_alive k _ e0)⟩] (by kernel_rfl)
end Go.Ws
