/-
  law07_alive: what the machine makes of it. (Printed by my own program.)
  Conditions: none.
-/
import Derived.Test.YtmjllcefknaneaaZPre
import Derived.Test.YtmjllcefknaneaaZPure
import Derived.Test.YtmjllcefknaneaaZW11
import Derived.Test.YtmjllcefknaneaaZW14
import Derived.Test.YtmjllcefknaneaaZW18
import Derived.Test.YtmjllcefknaneaaZW20
set_option linter.unusedVariables false
set_option linter.unusedSimpArgs false
namespace Go.Ws
open Go.Proofs
set_option linter.unusedSimpArgs false
set_option linter.unusedVariables false
set_option maxRecDepth 1000000
set_option maxHeartbeats 4000000
noncomputable def X10 : Ctx := ⟨Try.f10, [], true⟩
theorem ok_law07_alive (k : Nat) (r : Bool) (h : law07_alive k = some r) : Tri Try.prog 10 [] [] (.bool r) [] := by
    unfold law07_alive at h
    obtain ⟨x1, e0, h⟩ := Option.bind_eq_some_iff.1 h
    obtain ⟨x2, e1, h⟩ := Option.bind_eq_some_iff.1 h
    obtain ⟨x3, e2, h⟩ := Option.bind_eq_some_iff.1 h
    obtain ⟨x4, e3, h⟩ := Option.bind_eq_some_iff.1 h
    obtain ⟨x5, e4, h⟩ := Option.bind_eq_some_iff.1 h
    obtain ⟨x6, e5, h⟩ := Option.bind_eq_some_iff.1 h
    by_cases c6 : eqI x1.2 0 = true
    · rw [if_pos c6] at h
      by_cases c7 : eqI x2.2 0 = true
      · rw [if_pos c7] at h
        by_cases c8 : eqI (nI x2.1.length) 2 = true
        · rw [if_pos c8] at h
          by_cases c9 : eqI x3.2 9 = true
          · rw [if_pos c9] at h
            by_cases c10 : eqI x5.2 0 = true
            · rw [if_pos c10] at h
              obtain ⟨x7, e11, h⟩ := Option.bind_eq_some_iff.1 h
              by_cases c12 : eqI x7 2 = true
              · rw [if_pos c12] at h
                by_cases c13 : eqI x6.2 9 = true
                · rw [if_pos c13] at h
                  obtain ⟨x8, e14, h⟩ := Option.bind_eq_some_iff.1 h
                  obtain rfl := Option.some.inj h
                  exact Tri.of (x := X10) mixed facts10 [.call ⟨true, [[(0, 3)]]⟩ (.tup [(.sl 3 (List.map e_u8_i64_b x1.1)), (.int .i64 x1.2)]) [], .call ⟨true, []⟩ (.tup [(.sl 3 (List.map e_u8_i64_b x2.1)), (.int .i64 x2.2)]) [], .call ⟨true, []⟩ (.tup [(.sl 3 (List.map e_u8_i64_b x3.1)), (.int .i64 x3.2)]) [], .call ⟨true, []⟩ (.sl 3 (List.map e_u8_i64_b x4)) [], .call ⟨true, []⟩ (.tup [(.sl 3 (List.map e_u8_i64_b x5.1)), (.int .i64 x5.2)]) [], .call ⟨true, []⟩ (.tup [(.sl 3 (List.map e_u8_i64_b x6.1)), (.int .i64 x6.2)]) [], .d true, .d true, .d true, .d true, .d true, .n x2.1.length, .d true, .d true, .d true, .d true, .d true, .d true, .d true, .d true, .d true, .d true, .call ⟨true, []⟩ (.int .i64 x7) [], .d true, .d true, .d true, .d true, .d true, .d true, .d true, .call ⟨true, []⟩ (.bool x8) [], .d true] [⟨c13⟩, ⟨(ok_lock_Right k x5.1 _ e14)⟩, ⟨c13⟩, ⟨c13⟩, ⟨c12⟩, ⟨c12⟩, ⟨c12⟩, ⟨c10⟩, ⟨c10⟩, ⟨(ok_lock_Holds k x5.1 1 5 _ e11)⟩, ⟨c10⟩, ⟨c10⟩, ⟨c9⟩, ⟨c9⟩, ⟨c9⟩, ⟨c8⟩, ⟨c8⟩, ⟨c8⟩, ⟨c7⟩, ⟨c7⟩, ⟨(len_map e_u8_i64_b x2.1)⟩, ⟨c7⟩, ⟨c7⟩, ⟨c6⟩, ⟨c6⟩, ⟨c6⟩, ⟨(ok_lock_Take k x5.1 2 5 false _ e5)⟩, ⟨(ok_lock_Take k x4 1 5 true _ e4)⟩, ⟨(ok_lock_Free k x2.1 2 _ e3)⟩, ⟨(ok_lock_Take k x2.1 1 5 true _ e2)⟩, ⟨(ok_lock_Take k x1.1 2 5 false _ e1)⟩, ⟨(ok_lock_Take k [] 1 5 false _ e0)⟩] (by kernel_rfl)
                · rw [if_neg c13] at h
                  replace c13 := eqf c13
                  obtain rfl := Option.some.inj h
                  exact Tri.of (x := X10) mixed facts10 [.call ⟨true, [[(0, 3)]]⟩ (.tup [(.sl 3 (List.map e_u8_i64_b x1.1)), (.int .i64 x1.2)]) [], .call ⟨true, []⟩ (.tup [(.sl 3 (List.map e_u8_i64_b x2.1)), (.int .i64 x2.2)]) [], .call ⟨true, []⟩ (.tup [(.sl 3 (List.map e_u8_i64_b x3.1)), (.int .i64 x3.2)]) [], .call ⟨true, []⟩ (.sl 3 (List.map e_u8_i64_b x4)) [], .call ⟨true, []⟩ (.tup [(.sl 3 (List.map e_u8_i64_b x5.1)), (.int .i64 x5.2)]) [], .call ⟨true, []⟩ (.tup [(.sl 3 (List.map e_u8_i64_b x6.1)), (.int .i64 x6.2)]) [], .d true, .d true, .d true, .d true, .d true, .n x2.1.length, .d true, .d true, .d true, .d true, .d true, .d true, .d true, .d true, .d true, .d true, .call ⟨true, []⟩ (.int .i64 x7) [], .d true, .d true, .d true, .d true, .d true, .d false, .d false, .d false] [⟨c13⟩, ⟨c13⟩, ⟨c13⟩, ⟨c12⟩, ⟨c12⟩, ⟨c12⟩, ⟨c10⟩, ⟨c10⟩, ⟨(ok_lock_Holds k x5.1 1 5 _ e11)⟩, ⟨c10⟩, ⟨c10⟩, ⟨c9⟩, ⟨c9⟩, ⟨c9⟩, ⟨c8⟩, ⟨c8⟩, ⟨c8⟩, ⟨c7⟩, ⟨c7⟩, ⟨(len_map e_u8_i64_b x2.1)⟩, ⟨c7⟩, ⟨c7⟩, ⟨c6⟩, ⟨c6⟩, ⟨c6⟩, ⟨(ok_lock_Take k x5.1 2 5 false _ e5)⟩, ⟨(ok_lock_Take k x4 1 5 true _ e4)⟩, ⟨(ok_lock_Free k x2.1 2 _ e3)⟩, ⟨(ok_lock_Take k x2.1 1 5 true _ e2)⟩, ⟨(ok_lock_Take k x1.1 2 5 false _ e1)⟩, ⟨(ok_lock_Take k [] 1 5 false _ e0)⟩] (by kernel_rfl)
              · rw [if_neg c12] at h
                replace c12 := eqf c12
                obtain rfl := Option.some.inj h
                exact Tri.of (x := X10) mixed facts10 [.call ⟨true, [[(0, 3)]]⟩ (.tup [(.sl 3 (List.map e_u8_i64_b x1.1)), (.int .i64 x1.2)]) [], .call ⟨true, []⟩ (.tup [(.sl 3 (List.map e_u8_i64_b x2.1)), (.int .i64 x2.2)]) [], .call ⟨true, []⟩ (.tup [(.sl 3 (List.map e_u8_i64_b x3.1)), (.int .i64 x3.2)]) [], .call ⟨true, []⟩ (.sl 3 (List.map e_u8_i64_b x4)) [], .call ⟨true, []⟩ (.tup [(.sl 3 (List.map e_u8_i64_b x5.1)), (.int .i64 x5.2)]) [], .call ⟨true, []⟩ (.tup [(.sl 3 (List.map e_u8_i64_b x6.1)), (.int .i64 x6.2)]) [], .d true, .d true, .d true, .d true, .d true, .n x2.1.length, .d true, .d true, .d true, .d true, .d true, .d true, .d true, .d true, .d true, .d true, .call ⟨true, []⟩ (.int .i64 x7) [], .d true, .d true, .d false, .d false, .d false, .d false, .d false, .d false] [⟨(rfl : false = false)⟩, ⟨(rfl : false = false)⟩, ⟨(rfl : false = false)⟩, ⟨c12⟩, ⟨c12⟩, ⟨c12⟩, ⟨c10⟩, ⟨c10⟩, ⟨(ok_lock_Holds k x5.1 1 5 _ e11)⟩, ⟨c10⟩, ⟨c10⟩, ⟨c9⟩, ⟨c9⟩, ⟨c9⟩, ⟨c8⟩, ⟨c8⟩, ⟨c8⟩, ⟨c7⟩, ⟨c7⟩, ⟨(len_map e_u8_i64_b x2.1)⟩, ⟨c7⟩, ⟨c7⟩, ⟨c6⟩, ⟨c6⟩, ⟨c6⟩, ⟨(ok_lock_Take k x5.1 2 5 false _ e5)⟩, ⟨(ok_lock_Take k x4 1 5 true _ e4)⟩, ⟨(ok_lock_Free k x2.1 2 _ e3)⟩, ⟨(ok_lock_Take k x2.1 1 5 true _ e2)⟩, ⟨(ok_lock_Take k x1.1 2 5 false _ e1)⟩, ⟨(ok_lock_Take k [] 1 5 false _ e0)⟩] (by kernel_rfl)
            · rw [if_neg c10] at h
              replace c10 := eqf c10
              obtain rfl := Option.some.inj h
              exact Tri.of (x := X10) mixed facts10 [.call ⟨true, [[(0, 3)]]⟩ (.tup [(.sl 3 (List.map e_u8_i64_b x1.1)), (.int .i64 x1.2)]) [], .call ⟨true, []⟩ (.tup [(.sl 3 (List.map e_u8_i64_b x2.1)), (.int .i64 x2.2)]) [], .call ⟨true, []⟩ (.tup [(.sl 3 (List.map e_u8_i64_b x3.1)), (.int .i64 x3.2)]) [], .call ⟨true, []⟩ (.sl 3 (List.map e_u8_i64_b x4)) [], .call ⟨true, []⟩ (.tup [(.sl 3 (List.map e_u8_i64_b x5.1)), (.int .i64 x5.2)]) [], .call ⟨true, []⟩ (.tup [(.sl 3 (List.map e_u8_i64_b x6.1)), (.int .i64 x6.2)]) [], .d true, .d true, .d true, .d true, .d true, .n x2.1.length, .d true, .d true, .d true, .d true, .d true, .d true, .d true, .d true, .d false, .d false, .d false, .d false, .d false, .d false, .d false, .d false, .d false, .d false] [⟨(rfl : false = false)⟩, ⟨(rfl : false = false)⟩, ⟨(rfl : false = false)⟩, ⟨(rfl : false = false)⟩, ⟨(rfl : false = false)⟩, ⟨(rfl : false = false)⟩, ⟨c10⟩, ⟨c10⟩, ⟨c10⟩, ⟨c10⟩, ⟨c9⟩, ⟨c9⟩, ⟨c9⟩, ⟨c8⟩, ⟨c8⟩, ⟨c8⟩, ⟨c7⟩, ⟨c7⟩, ⟨(len_map e_u8_i64_b x2.1)⟩, ⟨c7⟩, ⟨c7⟩, ⟨c6⟩, ⟨c6⟩, ⟨c6⟩, ⟨(ok_lock_Take k x5.1 2 5 false _ e5)⟩, ⟨(ok_lock_Take k x4 1 5 true _ e4)⟩, ⟨(ok_lock_Free k x2.1 2 _ e3)⟩, ⟨(ok_lock_Take k x2.1 1 5 true _ e2)⟩, ⟨(ok_lock_Take k x1.1 2 5 false _ e1)⟩, ⟨(ok_lock_Take k [] 1 5 false _ e0)⟩] (by kernel_rfl)
          · rw [if_neg c9] at h
            replace c9 := eqf c9
            obtain rfl := Option.some.inj h
            exact Tri.of (x := X10) mixed facts10 [.call ⟨true, [[(0, 3)]]⟩ (.tup [(.sl 3 (List.map e_u8_i64_b x1.1)), (.int .i64 x1.2)]) [], .call ⟨true, []⟩ (.tup [(.sl 3 (List.map e_u8_i64_b x2.1)), (.int .i64 x2.2)]) [], .call ⟨true, []⟩ (.tup [(.sl 3 (List.map e_u8_i64_b x3.1)), (.int .i64 x3.2)]) [], .call ⟨true, []⟩ (.sl 3 (List.map e_u8_i64_b x4)) [], .call ⟨true, []⟩ (.tup [(.sl 3 (List.map e_u8_i64_b x5.1)), (.int .i64 x5.2)]) [], .call ⟨true, []⟩ (.tup [(.sl 3 (List.map e_u8_i64_b x6.1)), (.int .i64 x6.2)]) [], .d true, .d true, .d true, .d true, .d true, .n x2.1.length, .d true, .d true, .d true, .d true, .d true, .d false, .d false, .d false, .d false, .d false, .d false, .d false, .d false, .d false, .d false, .d false, .d false, .d false] [⟨(rfl : false = false)⟩, ⟨(rfl : false = false)⟩, ⟨(rfl : false = false)⟩, ⟨(rfl : false = false)⟩, ⟨(rfl : false = false)⟩, ⟨(rfl : false = false)⟩, ⟨(rfl : false = false)⟩, ⟨(rfl : false = false)⟩, ⟨(rfl : false = false)⟩, ⟨(rfl : false = false)⟩, ⟨c9⟩, ⟨c9⟩, ⟨c9⟩, ⟨c8⟩, ⟨c8⟩, ⟨c8⟩, ⟨c7⟩, ⟨c7⟩, ⟨(len_map e_u8_i64_b x2.1)⟩, ⟨c7⟩, ⟨c7⟩, ⟨c6⟩, ⟨c6⟩, ⟨c6⟩, ⟨(ok_lock_Take k x5.1 2 5 false _ e5)⟩, ⟨(ok_lock_Take k x4 1 5 true _ e4)⟩, ⟨(ok_lock_Free k x2.1 2 _ e3)⟩, ⟨(ok_lock_Take k x2.1 1 5 true _ e2)⟩, ⟨(ok_lock_Take k x1.1 2 5 false _ e1)⟩, ⟨(ok_lock_Take k [] 1 5 false _ e0)⟩] (by kernel_rfl)
        · rw [if_neg c8] at h
          replace c8 := eqf c8
          obtain rfl := Option.some.inj h
          exact Tri.of (x := X10) mixed facts10 [.call ⟨true, [[(0, 3)]]⟩ (.tup [(.sl 3 (List.map e_u8_i64_b x1.1)), (.int .i64 x1.2)]) [], .call ⟨true, []⟩ (.tup [(.sl 3 (List.map e_u8_i64_b x2.1)), (.int .i64 x2.2)]) [], .call ⟨true, []⟩ (.tup [(.sl 3 (List.map e_u8_i64_b x3.1)), (.int .i64 x3.2)]) [], .call ⟨true, []⟩ (.sl 3 (List.map e_u8_i64_b x4)) [], .call ⟨true, []⟩ (.tup [(.sl 3 (List.map e_u8_i64_b x5.1)), (.int .i64 x5.2)]) [], .call ⟨true, []⟩ (.tup [(.sl 3 (List.map e_u8_i64_b x6.1)), (.int .i64 x6.2)]) [], .d true, .d true, .d true, .d true, .d true, .n x2.1.length, .d true, .d true, .d false, .d false, .d false, .d false, .d false, .d false, .d false, .d false, .d false, .d false, .d false, .d false, .d false, .d false, .d false, .d false] [⟨(rfl : false = false)⟩, ⟨(rfl : false = false)⟩, ⟨(rfl : false = false)⟩, ⟨(rfl : false = false)⟩, ⟨(rfl : false = false)⟩, ⟨(rfl : false = false)⟩, ⟨(rfl : false = false)⟩, ⟨(rfl : false = false)⟩, ⟨(rfl : false = false)⟩, ⟨(rfl : false = false)⟩, ⟨(rfl : false = false)⟩, ⟨(rfl : false = false)⟩, ⟨(rfl : false = false)⟩, ⟨c8⟩, ⟨c8⟩, ⟨c8⟩, ⟨c7⟩, ⟨c7⟩, ⟨(len_map e_u8_i64_b x2.1)⟩, ⟨c7⟩, ⟨c7⟩, ⟨c6⟩, ⟨c6⟩, ⟨c6⟩, ⟨(ok_lock_Take k x5.1 2 5 false _ e5)⟩, ⟨(ok_lock_Take k x4 1 5 true _ e4)⟩, ⟨(ok_lock_Free k x2.1 2 _ e3)⟩, ⟨(ok_lock_Take k x2.1 1 5 true _ e2)⟩, ⟨(ok_lock_Take k x1.1 2 5 false _ e1)⟩, ⟨(ok_lock_Take k [] 1 5 false _ e0)⟩] (by kernel_rfl)
      · rw [if_neg c7] at h
        replace c7 := eqf c7
        obtain rfl := Option.some.inj h
        exact Tri.of (x := X10) mixed facts10 [.call ⟨true, [[(0, 3)]]⟩ (.tup [(.sl 3 (List.map e_u8_i64_b x1.1)), (.int .i64 x1.2)]) [], .call ⟨true, []⟩ (.tup [(.sl 3 (List.map e_u8_i64_b x2.1)), (.int .i64 x2.2)]) [], .call ⟨true, []⟩ (.tup [(.sl 3 (List.map e_u8_i64_b x3.1)), (.int .i64 x3.2)]) [], .call ⟨true, []⟩ (.sl 3 (List.map e_u8_i64_b x4)) [], .call ⟨true, []⟩ (.tup [(.sl 3 (List.map e_u8_i64_b x5.1)), (.int .i64 x5.2)]) [], .call ⟨true, []⟩ (.tup [(.sl 3 (List.map e_u8_i64_b x6.1)), (.int .i64 x6.2)]) [], .d true, .d true, .d true, .d false, .d false, .d false, .d false, .d false, .d false, .d false, .d false, .d false, .d false, .d false, .d false, .d false, .d false, .d false, .d false, .d false, .d false, .d false, .d false] [⟨(rfl : false = false)⟩, ⟨(rfl : false = false)⟩, ⟨(rfl : false = false)⟩, ⟨(rfl : false = false)⟩, ⟨(rfl : false = false)⟩, ⟨(rfl : false = false)⟩, ⟨(rfl : false = false)⟩, ⟨(rfl : false = false)⟩, ⟨(rfl : false = false)⟩, ⟨(rfl : false = false)⟩, ⟨(rfl : false = false)⟩, ⟨(rfl : false = false)⟩, ⟨(rfl : false = false)⟩, ⟨(rfl : false = false)⟩, ⟨(rfl : false = false)⟩, ⟨(rfl : false = false)⟩, ⟨c7⟩, ⟨c7⟩, ⟨c7⟩, ⟨c7⟩, ⟨c6⟩, ⟨c6⟩, ⟨c6⟩, ⟨(ok_lock_Take k x5.1 2 5 false _ e5)⟩, ⟨(ok_lock_Take k x4 1 5 true _ e4)⟩, ⟨(ok_lock_Free k x2.1 2 _ e3)⟩, ⟨(ok_lock_Take k x2.1 1 5 true _ e2)⟩, ⟨(ok_lock_Take k x1.1 2 5 false _ e1)⟩, ⟨(ok_lock_Take k [] 1 5 false _ e0)⟩] (by kernel_rfl)
    · rw [if_neg c6] at h
      replace c6 := eqf c6
      obtain rfl := Option.some.inj h
      exact Tri.of (x := X10) mixed facts10 [.call ⟨true, [[(0, 3)]]⟩ (.tup [(.sl 3 (List.map e_u8_i64_b x1.1)), (.int .i64 x1.2)]) [], .call ⟨true, []⟩ (.tup [(.sl 3 (List.map e_u8_i64_b x2.1)), (.int .i64 x2.2)]) [], .call ⟨true, []⟩ (.tup [(.sl 3 (List.map e_u8_i64_b x3.1)), (.int .i64 x3.2)]) [], .call ⟨true, []⟩ (.sl 3 (List.map e_u8_i64_b x4)) [], .call ⟨true, []⟩ (.tup [(.sl 3 (List.map e_u8_i64_b x5.1)), (.int .i64 x5.2)]) [], .call ⟨true, []⟩ (.tup [(.sl 3 (List.map e_u8_i64_b x6.1)), (.int .i64 x6.2)]) [], .d false, .d false, .d false, .d false, .d false, .d false, .d false, .d false, .d false, .d false, .d false, .d false, .d false, .d false, .d false, .d false, .d false, .d false, .d false, .d false, .d false, .d false, .d false] [⟨(rfl : false = false)⟩, ⟨(rfl : false = false)⟩, ⟨(rfl : false = false)⟩, ⟨(rfl : false = false)⟩, ⟨(rfl : false = false)⟩, ⟨(rfl : false = false)⟩, ⟨(rfl : false = false)⟩, ⟨(rfl : false = false)⟩, ⟨(rfl : false = false)⟩, ⟨(rfl : false = false)⟩, ⟨(rfl : false = false)⟩, ⟨(rfl : false = false)⟩, ⟨(rfl : false = false)⟩, ⟨(rfl : false = false)⟩, ⟨(rfl : false = false)⟩, ⟨(rfl : false = false)⟩, ⟨(rfl : false = false)⟩, ⟨(rfl : false = false)⟩, ⟨(rfl : false = false)⟩, ⟨(rfl : false = false)⟩, ⟨c6⟩, ⟨c6⟩, ⟨c6⟩, ⟨(ok_lock_Take k x5.1 2 5 false _ e5)⟩, ⟨(ok_lock_Take k x4 1 5 true _ e4)⟩, ⟨(ok_lock_Free k x2.1 2 _ e3)⟩, ⟨(ok_lock_Take k x2.1 1 5 true _ e2)⟩, ⟨(ok_lock_Take k x1.1 2 5 false _ e1)⟩, ⟨(ok_lock_Take k [] 1 5 false _ e0)⟩] (by kernel_rfl)
end Go.Ws
