/-
  law07_LockAgain: what the machine makes of it. (Printed by my own program.)
  Conditions: none.
-/
import Derived.Test.YtmjllcefknaneaaZPre
import Derived.Test.YtmjllcefknaneaaZPure
import Derived.Test.YtmjllcefknaneaaZW10
import Derived.Test.YtmjllcefknaneaaZW11
import Derived.Test.YtmjllcefknaneaaZW12
import Derived.Test.YtmjllcefknaneaaZW15
import Derived.Test.YtmjllcefknaneaaZW16
import Derived.Test.YtmjllcefknaneaaZW17
import Derived.Test.YtmjllcefknaneaaZW20
import Derived.Test.YtmjllcefknaneaaZW21
set_option linter.unusedVariables false
set_option linter.unusedSimpArgs false
namespace Go.Ws
open Go.Proofs
set_option linter.unusedSimpArgs false
set_option linter.unusedVariables false
set_option maxRecDepth 1000000
set_option maxHeartbeats 4000000
noncomputable def X6 : Ctx := ⟨Try.f6, [], true⟩
theorem ok_law07_LockAgain (k : Nat) (x1 : List (Int × Int × Bool)) (x2 : Int) (x3 : Int) (x4 : Int) (x5 : Bool) (r : Bool) (h : law07_LockAgain k x1 x2 x3 x4 x5 = some r) : Tri Try.prog 6 [(.sl 3 (List.map e_u8_i64_b x1)), (.agg [(.int .u8 x2), (.int .i64 x3), (.int .u8 x4), (.bool x5)])] [] (.bool r) [] := by
    unfold law07_LockAgain at h
    obtain ⟨x6, e0, h⟩ := Option.bind_eq_some_iff.1 h
    by_cases c1 : x6 = true
    · rw [if_pos c1] at h
      by_cases c2 : ltI 100 (nI x1.length) = true
      · rw [if_pos c2] at h
        obtain rfl := Option.some.inj h
        exact Tri.of (x := X6) mixed facts6 [.call ⟨true, []⟩ (.bool x6) [], .d false, .n x1.length, .d true, .d true, .d true, .d true, .d true] [⟨(rfl : true = true)⟩, ⟨c2⟩, ⟨c2⟩, ⟨c2⟩, ⟨c2⟩, ⟨(len_map e_u8_i64_b x1)⟩, ⟨(nF c1)⟩, ⟨(ok_law07_alive k _ e0)⟩] (by kernel_rfl)
      · rw [if_neg c2] at h
        replace c2 := eqf c2
        obtain ⟨x7, e3, h⟩ := Option.bind_eq_some_iff.1 h
        by_cases c4 : x7 = true
        · rw [if_pos c4] at h
          obtain ⟨x8, e5, h⟩ := Option.bind_eq_some_iff.1 h
          obtain ⟨x9, e6, h⟩ := Option.bind_eq_some_iff.1 h
          by_cases c7 : eqI x9.2 0 = true
          · rw [if_pos c7] at h
            obtain ⟨x10, e8, h⟩ := Option.bind_eq_some_iff.1 h
            obtain ⟨x11, e9, h⟩ := Option.bind_eq_some_iff.1 h
            by_cases c10 : x5 = true
            · rw [if_pos c10] at h
              by_cases c11 : eqI x10.2 0 = true
              · rw [if_pos c11] at h
                obtain ⟨x12, e12, h⟩ := Option.bind_eq_some_iff.1 h
                obtain ⟨x13, e13, h⟩ := Option.bind_eq_some_iff.1 h
                obtain ⟨x14, e14, h⟩ := Option.bind_eq_some_iff.1 h
                by_cases c15 : x14 = true
                · rw [if_pos c15] at h
                  obtain ⟨x15, e16, h⟩ := Option.bind_eq_some_iff.1 h
                  obtain rfl := Option.some.inj h
                  exact Tri.of (x := X6) mixed facts6 [.call ⟨true, []⟩ (.bool x6) [], .d false, .n x1.length, .d false, .d false, .call ⟨true, []⟩ (.bool x7) [], .d false, .d false, .d false, .call ⟨true, []⟩ (.sl 3 (List.map e_u8_i64_b x8)) [], .call ⟨true, []⟩ (.tup [(.sl 3 (List.map e_u8_i64_b x9.1)), (.int .i64 x9.2)]) [], .d false, .call ⟨true, []⟩ (.tup [(.sl 3 (List.map e_u8_i64_b x10.1)), (.int .i64 x10.2)]) [], .call ⟨true, []⟩ (.int .i64 x11) [], .d true, .d true, .d true, .call ⟨true, []⟩ (.sl 3 (List.map e_u8_i64_b x12)) [], .d true, .d true, .call ⟨true, []⟩ (.sl 3 (List.map e_u8_i64_b x13)) [], .d true, .call ⟨true, []⟩ (.bool x14) [], .d true, .d true, .d true, .d true, .d true, .d true, .d true, .call ⟨true, []⟩ (.int .i64 x15) [], .d true, .d true, .d true] [⟨c15⟩, ⟨c15⟩, ⟨c15⟩, ⟨(ok_lock_Holds k x9.1 x3 x4 _ e16)⟩, ⟨c15⟩, ⟨c15⟩, ⟨c15⟩, ⟨c15⟩, ⟨c15⟩, ⟨c15⟩, ⟨c11⟩, ⟨(ok_ref07_Same k x12 x13 _ e14)⟩, ⟨c11⟩, ⟨(ok_law07_ours k x10.1 _ e13)⟩, ⟨c11⟩, ⟨c11⟩, ⟨(ok_law07_ours k x9.1 _ e12)⟩, ⟨c11⟩, ⟨c11⟩, ⟨c10⟩, ⟨(ok_ref07_Holds k x1 x3 x4 _ e9)⟩, ⟨(ok_lock_Take k x9.1 x3 x4 false _ e8)⟩, ⟨(nF c7)⟩, ⟨(ok_lock_Take k x8 x3 x4 x5 _ e6)⟩, ⟨(ok_law07_theirs k x1 _ e5)⟩, ⟨(nF c4)⟩, ⟨c2⟩, ⟨c2⟩, ⟨(ok_ref07_Right k x1 _ e3)⟩, ⟨c2⟩, ⟨c2⟩, ⟨(len_map e_u8_i64_b x1)⟩, ⟨(nF c1)⟩, ⟨(ok_law07_alive k _ e0)⟩] (by kernel_rfl)
                · rw [if_neg c15] at h
                  replace c15 := eqf c15
                  obtain rfl := Option.some.inj h
                  exact Tri.of (x := X6) mixed facts6 [.call ⟨true, []⟩ (.bool x6) [], .d false, .n x1.length, .d false, .d false, .call ⟨true, []⟩ (.bool x7) [], .d false, .d false, .d false, .call ⟨true, []⟩ (.sl 3 (List.map e_u8_i64_b x8)) [], .call ⟨true, []⟩ (.tup [(.sl 3 (List.map e_u8_i64_b x9.1)), (.int .i64 x9.2)]) [], .d false, .call ⟨true, []⟩ (.tup [(.sl 3 (List.map e_u8_i64_b x10.1)), (.int .i64 x10.2)]) [], .call ⟨true, []⟩ (.int .i64 x11) [], .d true, .d true, .d true, .call ⟨true, []⟩ (.sl 3 (List.map e_u8_i64_b x12)) [], .d true, .d true, .call ⟨true, []⟩ (.sl 3 (List.map e_u8_i64_b x13)) [], .d true, .call ⟨true, []⟩ (.bool x14) [], .d true, .d false, .d false, .d false, .d false, .d false, .d false, .d false, .d false, .d false] [⟨c15⟩, ⟨c15⟩, ⟨c15⟩, ⟨c15⟩, ⟨c15⟩, ⟨c15⟩, ⟨c15⟩, ⟨c15⟩, ⟨c15⟩, ⟨c11⟩, ⟨(ok_ref07_Same k x12 x13 _ e14)⟩, ⟨c11⟩, ⟨(ok_law07_ours k x10.1 _ e13)⟩, ⟨c11⟩, ⟨c11⟩, ⟨(ok_law07_ours k x9.1 _ e12)⟩, ⟨c11⟩, ⟨c11⟩, ⟨c10⟩, ⟨(ok_ref07_Holds k x1 x3 x4 _ e9)⟩, ⟨(ok_lock_Take k x9.1 x3 x4 false _ e8)⟩, ⟨(nF c7)⟩, ⟨(ok_lock_Take k x8 x3 x4 x5 _ e6)⟩, ⟨(ok_law07_theirs k x1 _ e5)⟩, ⟨(nF c4)⟩, ⟨c2⟩, ⟨c2⟩, ⟨(ok_ref07_Right k x1 _ e3)⟩, ⟨c2⟩, ⟨c2⟩, ⟨(len_map e_u8_i64_b x1)⟩, ⟨(nF c1)⟩, ⟨(ok_law07_alive k _ e0)⟩] (by kernel_rfl)
              · rw [if_neg c11] at h
                replace c11 := eqf c11
                obtain rfl := Option.some.inj h
                exact Tri.of (x := X6) mixed facts6 [.call ⟨true, []⟩ (.bool x6) [], .d false, .n x1.length, .d false, .d false, .call ⟨true, []⟩ (.bool x7) [], .d false, .d false, .d false, .call ⟨true, []⟩ (.sl 3 (List.map e_u8_i64_b x8)) [], .call ⟨true, []⟩ (.tup [(.sl 3 (List.map e_u8_i64_b x9.1)), (.int .i64 x9.2)]) [], .d false, .call ⟨true, []⟩ (.tup [(.sl 3 (List.map e_u8_i64_b x10.1)), (.int .i64 x10.2)]) [], .call ⟨true, []⟩ (.int .i64 x11) [], .d true, .d false, .d false, .d false, .d false, .d false, .d false, .d false, .d false, .d false, .d false, .d false, .d false, .d false, .d false, .d false] [⟨(rfl : false = false)⟩, ⟨(rfl : false = false)⟩, ⟨(rfl : false = false)⟩, ⟨(rfl : false = false)⟩, ⟨(rfl : false = false)⟩, ⟨(rfl : false = false)⟩, ⟨(rfl : false = false)⟩, ⟨(rfl : false = false)⟩, ⟨(rfl : false = false)⟩, ⟨c11⟩, ⟨c11⟩, ⟨c11⟩, ⟨c11⟩, ⟨c11⟩, ⟨c11⟩, ⟨c10⟩, ⟨(ok_ref07_Holds k x1 x3 x4 _ e9)⟩, ⟨(ok_lock_Take k x9.1 x3 x4 false _ e8)⟩, ⟨(nF c7)⟩, ⟨(ok_lock_Take k x8 x3 x4 x5 _ e6)⟩, ⟨(ok_law07_theirs k x1 _ e5)⟩, ⟨(nF c4)⟩, ⟨c2⟩, ⟨c2⟩, ⟨(ok_ref07_Right k x1 _ e3)⟩, ⟨c2⟩, ⟨c2⟩, ⟨(len_map e_u8_i64_b x1)⟩, ⟨(nF c1)⟩, ⟨(ok_law07_alive k _ e0)⟩] (by kernel_rfl)
            · rw [if_neg c10] at h
              replace c10 := eqf c10
              by_cases c11 : eqI x10.2 0 = true
              · rw [if_pos c11] at h
                obtain ⟨x12, e12, h⟩ := Option.bind_eq_some_iff.1 h
                obtain ⟨x13, e13, h⟩ := Option.bind_eq_some_iff.1 h
                obtain ⟨x14, e14, h⟩ := Option.bind_eq_some_iff.1 h
                by_cases c15 : x14 = true
                · rw [if_pos c15] at h
                  obtain ⟨x15, e16, h⟩ := Option.bind_eq_some_iff.1 h
                  obtain rfl := Option.some.inj h
                  exact Tri.of (x := X6) mixed facts6 [.call ⟨true, []⟩ (.bool x6) [], .d false, .n x1.length, .d false, .d false, .call ⟨true, []⟩ (.bool x7) [], .d false, .d false, .d false, .call ⟨true, []⟩ (.sl 3 (List.map e_u8_i64_b x8)) [], .call ⟨true, []⟩ (.tup [(.sl 3 (List.map e_u8_i64_b x9.1)), (.int .i64 x9.2)]) [], .d false, .call ⟨true, []⟩ (.tup [(.sl 3 (List.map e_u8_i64_b x10.1)), (.int .i64 x10.2)]) [], .call ⟨true, []⟩ (.int .i64 x11) [], .d false, .d true, .d true, .call ⟨true, []⟩ (.sl 3 (List.map e_u8_i64_b x12)) [], .d true, .d true, .call ⟨true, []⟩ (.sl 3 (List.map e_u8_i64_b x13)) [], .d true, .call ⟨true, []⟩ (.bool x14) [], .d true, .d true, .d true, .d true, .d true, .d true, .d true, .call ⟨true, []⟩ (.int .i64 x15) [], .d true, .d true, .d true] [⟨c15⟩, ⟨c15⟩, ⟨c15⟩, ⟨(ok_lock_Holds k x9.1 x3 x4 _ e16)⟩, ⟨c15⟩, ⟨c15⟩, ⟨c15⟩, ⟨c15⟩, ⟨c15⟩, ⟨c15⟩, ⟨c11⟩, ⟨(ok_ref07_Same k x12 x13 _ e14)⟩, ⟨c11⟩, ⟨(ok_law07_ours k x10.1 _ e13)⟩, ⟨c11⟩, ⟨c11⟩, ⟨(ok_law07_ours k x9.1 _ e12)⟩, ⟨c11⟩, ⟨c11⟩, ⟨c10⟩, ⟨(ok_ref07_Holds k x1 x3 x4 _ e9)⟩, ⟨(ok_lock_Take k x9.1 x3 x4 false _ e8)⟩, ⟨(nF c7)⟩, ⟨(ok_lock_Take k x8 x3 x4 x5 _ e6)⟩, ⟨(ok_law07_theirs k x1 _ e5)⟩, ⟨(nF c4)⟩, ⟨c2⟩, ⟨c2⟩, ⟨(ok_ref07_Right k x1 _ e3)⟩, ⟨c2⟩, ⟨c2⟩, ⟨(len_map e_u8_i64_b x1)⟩, ⟨(nF c1)⟩, ⟨(ok_law07_alive k _ e0)⟩] (by kernel_rfl)
                · rw [if_neg c15] at h
                  replace c15 := eqf c15
                  obtain rfl := Option.some.inj h
                  exact Tri.of (x := X6) mixed facts6 [.call ⟨true, []⟩ (.bool x6) [], .d false, .n x1.length, .d false, .d false, .call ⟨true, []⟩ (.bool x7) [], .d false, .d false, .d false, .call ⟨true, []⟩ (.sl 3 (List.map e_u8_i64_b x8)) [], .call ⟨true, []⟩ (.tup [(.sl 3 (List.map e_u8_i64_b x9.1)), (.int .i64 x9.2)]) [], .d false, .call ⟨true, []⟩ (.tup [(.sl 3 (List.map e_u8_i64_b x10.1)), (.int .i64 x10.2)]) [], .call ⟨true, []⟩ (.int .i64 x11) [], .d false, .d true, .d true, .call ⟨true, []⟩ (.sl 3 (List.map e_u8_i64_b x12)) [], .d true, .d true, .call ⟨true, []⟩ (.sl 3 (List.map e_u8_i64_b x13)) [], .d true, .call ⟨true, []⟩ (.bool x14) [], .d true, .d false, .d false, .d false, .d false, .d false, .d false, .d false, .d false, .d false] [⟨c15⟩, ⟨c15⟩, ⟨c15⟩, ⟨c15⟩, ⟨c15⟩, ⟨c15⟩, ⟨c15⟩, ⟨c15⟩, ⟨c15⟩, ⟨c11⟩, ⟨(ok_ref07_Same k x12 x13 _ e14)⟩, ⟨c11⟩, ⟨(ok_law07_ours k x10.1 _ e13)⟩, ⟨c11⟩, ⟨c11⟩, ⟨(ok_law07_ours k x9.1 _ e12)⟩, ⟨c11⟩, ⟨c11⟩, ⟨c10⟩, ⟨(ok_ref07_Holds k x1 x3 x4 _ e9)⟩, ⟨(ok_lock_Take k x9.1 x3 x4 false _ e8)⟩, ⟨(nF c7)⟩, ⟨(ok_lock_Take k x8 x3 x4 x5 _ e6)⟩, ⟨(ok_law07_theirs k x1 _ e5)⟩, ⟨(nF c4)⟩, ⟨c2⟩, ⟨c2⟩, ⟨(ok_ref07_Right k x1 _ e3)⟩, ⟨c2⟩, ⟨c2⟩, ⟨(len_map e_u8_i64_b x1)⟩, ⟨(nF c1)⟩, ⟨(ok_law07_alive k _ e0)⟩] (by kernel_rfl)
              · rw [if_neg c11] at h
                replace c11 := eqf c11
                obtain rfl := Option.some.inj h
                exact Tri.of (x := X6) mixed facts6 [.call ⟨true, []⟩ (.bool x6) [], .d false, .n x1.length, .d false, .d false, .call ⟨true, []⟩ (.bool x7) [], .d false, .d false, .d false, .call ⟨true, []⟩ (.sl 3 (List.map e_u8_i64_b x8)) [], .call ⟨true, []⟩ (.tup [(.sl 3 (List.map e_u8_i64_b x9.1)), (.int .i64 x9.2)]) [], .d false, .call ⟨true, []⟩ (.tup [(.sl 3 (List.map e_u8_i64_b x10.1)), (.int .i64 x10.2)]) [], .call ⟨true, []⟩ (.int .i64 x11) [], .d false, .d false, .d false, .d false, .d false, .d false, .d false, .d false, .d false, .d false, .d false, .d false, .d false, .d false, .d false, .d false] [⟨(rfl : false = false)⟩, ⟨(rfl : false = false)⟩, ⟨(rfl : false = false)⟩, ⟨(rfl : false = false)⟩, ⟨(rfl : false = false)⟩, ⟨(rfl : false = false)⟩, ⟨(rfl : false = false)⟩, ⟨(rfl : false = false)⟩, ⟨(rfl : false = false)⟩, ⟨c11⟩, ⟨c11⟩, ⟨c11⟩, ⟨c11⟩, ⟨c11⟩, ⟨c11⟩, ⟨c10⟩, ⟨(ok_ref07_Holds k x1 x3 x4 _ e9)⟩, ⟨(ok_lock_Take k x9.1 x3 x4 false _ e8)⟩, ⟨(nF c7)⟩, ⟨(ok_lock_Take k x8 x3 x4 x5 _ e6)⟩, ⟨(ok_law07_theirs k x1 _ e5)⟩, ⟨(nF c4)⟩, ⟨c2⟩, ⟨c2⟩, ⟨(ok_ref07_Right k x1 _ e3)⟩, ⟨c2⟩, ⟨c2⟩, ⟨(len_map e_u8_i64_b x1)⟩, ⟨(nF c1)⟩, ⟨(ok_law07_alive k _ e0)⟩] (by kernel_rfl)
          · rw [if_neg c7] at h
            replace c7 := eqf c7
            obtain rfl := Option.some.inj h
            exact Tri.of (x := X6) mixed facts6 [.call ⟨true, []⟩ (.bool x6) [], .d false, .n x1.length, .d false, .d false, .call ⟨true, []⟩ (.bool x7) [], .d false, .d false, .d false, .call ⟨true, []⟩ (.sl 3 (List.map e_u8_i64_b x8)) [], .call ⟨true, []⟩ (.tup [(.sl 3 (List.map e_u8_i64_b x9.1)), (.int .i64 x9.2)]) [], .d true] [⟨(nT c7)⟩, ⟨(ok_lock_Take k x8 x3 x4 x5 _ e6)⟩, ⟨(ok_law07_theirs k x1 _ e5)⟩, ⟨(nF c4)⟩, ⟨c2⟩, ⟨c2⟩, ⟨(ok_ref07_Right k x1 _ e3)⟩, ⟨c2⟩, ⟨c2⟩, ⟨(len_map e_u8_i64_b x1)⟩, ⟨(nF c1)⟩, ⟨(ok_law07_alive k _ e0)⟩] (by kernel_rfl)
        · rw [if_neg c4] at h
          replace c4 := eqf c4
          obtain rfl := Option.some.inj h
          exact Tri.of (x := X6) mixed facts6 [.call ⟨true, []⟩ (.bool x6) [], .d false, .n x1.length, .d false, .d false, .call ⟨true, []⟩ (.bool x7) [], .d false, .d false, .d true] [⟨(nT c4)⟩, ⟨c2⟩, ⟨c2⟩, ⟨(ok_ref07_Right k x1 _ e3)⟩, ⟨c2⟩, ⟨c2⟩, ⟨(len_map e_u8_i64_b x1)⟩, ⟨(nF c1)⟩, ⟨(ok_law07_alive k _ e0)⟩] (by kernel_rfl)
    · rw [if_neg c1] at h
      replace c1 := eqf c1
      obtain rfl := Option.some.inj h
      exact Tri.of (x := X6) mixed facts6 [.call ⟨true, []⟩ (.bool x6) [], .d true] [⟨(nT c1)⟩, ⟨(ok_law07_alive k _ e0)⟩] (by kernel_rfl)
end Go.Ws
