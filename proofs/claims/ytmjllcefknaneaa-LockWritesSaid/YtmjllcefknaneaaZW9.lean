/-
  law07_LockWrites: what the machine makes of it. (Printed by my own program.)
  Conditions: none.
-/
import Derived.Test.YtmjllcefknaneaaZPre
import Derived.Test.YtmjllcefknaneaaZPure
import Derived.Test.YtmjllcefknaneaaZW10
import Derived.Test.YtmjllcefknaneaaZW11
import Derived.Test.YtmjllcefknaneaaZW18
set_option linter.unusedVariables false
set_option linter.unusedSimpArgs false
namespace Go.Ws
open Go.Proofs
set_option linter.unusedSimpArgs false
set_option linter.unusedVariables false
set_option maxRecDepth 1000000
set_option maxHeartbeats 4000000
noncomputable def X9 : Ctx := ⟨Try.f9, [], true⟩
theorem ok_law07_LockWrites (k : Nat) (x1 : Int) (x2 : Int) (x3 : Int) (r : Bool) (h : law07_LockWrites k x1 x2 x3 = some r) : Tri Try.prog 9 [(.agg [(.int .u16 x1), (.int .u16 x2)]), (.int .u8 x3)] [] (.bool r) [] := by
    unfold law07_LockWrites at h
    obtain ⟨x4, e0, h⟩ := Option.bind_eq_some_iff.1 h
    by_cases c1 : x4 = true
    · rw [if_pos c1] at h
      obtain ⟨x5, e2, h⟩ := Option.bind_eq_some_iff.1 h
      obtain ⟨x6, e3, h⟩ := Option.bind_eq_some_iff.1 h
      obtain ⟨x7, e4, h⟩ := Option.bind_eq_some_iff.1 h
      obtain ⟨x8, e5, h⟩ := Option.bind_eq_some_iff.1 h
      obtain ⟨x9, e6, h⟩ := Option.bind_eq_some_iff.1 h
      by_cases c7 : eqI (irem .i64 (conv .i64 x1) 1000) (irem .i64 (conv .i64 x2) 1000) = true
      · rw [if_pos c7] at h
        by_cases c8 : eqI x5.2 0 = true
        · rw [if_pos c8] at h
          by_cases c9 : eqI x6.2 0 = true
          · rw [if_pos c9] at h
            obtain rfl := Option.some.inj h
            exact Tri.of (x := X9) mixed facts9 [.call ⟨true, []⟩ (.bool x4) [], .d false, .d false, .d false, .d false, .call ⟨true, [[(0, 3)]]⟩ (.tup [(.sl 3 (List.map e_u8_i64_b x5.1)), (.int .i64 x5.2)]) [], .call ⟨true, []⟩ (.tup [(.sl 3 (List.map e_u8_i64_b x6.1)), (.int .i64 x6.2)]) [], .call ⟨true, []⟩ (.tup [(.sl 3 (List.map e_u8_i64_b x7.1)), (.int .i64 x7.2)]) [], .call ⟨true, []⟩ (.sl 3 (List.map e_u8_i64_b x8)) [], .call ⟨true, []⟩ (.tup [(.sl 3 (List.map e_u8_i64_b x9.1)), (.int .i64 x9.2)]) [], .d true, .d true, .d true, .d true, .d true, .d true, .d true] [⟨c9⟩, ⟨c9⟩, ⟨c9⟩, ⟨c8⟩, ⟨c8⟩, ⟨c8⟩, ⟨c7⟩, ⟨(ok_lock_Take k x8 (irem .i64 (conv .i64 x2) 1000) (irem .u8 x3 64) true _ e6)⟩, ⟨(ok_lock_Free k x5.1 (irem .i64 (conv .i64 x1) 1000) _ e5)⟩, ⟨(ok_lock_Take k x5.1 (irem .i64 (conv .i64 x2) 1000) (irem .u8 x3 64) true _ e4)⟩, ⟨(ok_lock_Take k x5.1 (irem .i64 (conv .i64 x2) 1000) (irem .u8 x3 64) false _ e3)⟩, ⟨(ok_lock_Take k [] (irem .i64 (conv .i64 x1) 1000) (irem .u8 x3 64) true _ e2)⟩, ⟨(rfl : eqI 64 0 = false)⟩, ⟨(rfl : eqI 1000 0 = false)⟩, ⟨(rfl : eqI 1000 0 = false)⟩, ⟨(nF c1)⟩, ⟨(ok_law07_alive k _ e0)⟩] (by kernel_rfl)
          · rw [if_neg c9] at h
            replace c9 := eqf c9
            obtain rfl := Option.some.inj h
            exact Tri.of (x := X9) mixed facts9 [.call ⟨true, []⟩ (.bool x4) [], .d false, .d false, .d false, .d false, .call ⟨true, [[(0, 3)]]⟩ (.tup [(.sl 3 (List.map e_u8_i64_b x5.1)), (.int .i64 x5.2)]) [], .call ⟨true, []⟩ (.tup [(.sl 3 (List.map e_u8_i64_b x6.1)), (.int .i64 x6.2)]) [], .call ⟨true, []⟩ (.tup [(.sl 3 (List.map e_u8_i64_b x7.1)), (.int .i64 x7.2)]) [], .call ⟨true, []⟩ (.sl 3 (List.map e_u8_i64_b x8)) [], .call ⟨true, []⟩ (.tup [(.sl 3 (List.map e_u8_i64_b x9.1)), (.int .i64 x9.2)]) [], .d true, .d true, .d true, .d true, .d false, .d false, .d false] [⟨c9⟩, ⟨c9⟩, ⟨c9⟩, ⟨c8⟩, ⟨c8⟩, ⟨c8⟩, ⟨c7⟩, ⟨(ok_lock_Take k x8 (irem .i64 (conv .i64 x2) 1000) (irem .u8 x3 64) true _ e6)⟩, ⟨(ok_lock_Free k x5.1 (irem .i64 (conv .i64 x1) 1000) _ e5)⟩, ⟨(ok_lock_Take k x5.1 (irem .i64 (conv .i64 x2) 1000) (irem .u8 x3 64) true _ e4)⟩, ⟨(ok_lock_Take k x5.1 (irem .i64 (conv .i64 x2) 1000) (irem .u8 x3 64) false _ e3)⟩, ⟨(ok_lock_Take k [] (irem .i64 (conv .i64 x1) 1000) (irem .u8 x3 64) true _ e2)⟩, ⟨(rfl : eqI 64 0 = false)⟩, ⟨(rfl : eqI 1000 0 = false)⟩, ⟨(rfl : eqI 1000 0 = false)⟩, ⟨(nF c1)⟩, ⟨(ok_law07_alive k _ e0)⟩] (by kernel_rfl)
        · rw [if_neg c8] at h
          replace c8 := eqf c8
          obtain rfl := Option.some.inj h
          exact Tri.of (x := X9) mixed facts9 [.call ⟨true, []⟩ (.bool x4) [], .d false, .d false, .d false, .d false, .call ⟨true, [[(0, 3)]]⟩ (.tup [(.sl 3 (List.map e_u8_i64_b x5.1)), (.int .i64 x5.2)]) [], .call ⟨true, []⟩ (.tup [(.sl 3 (List.map e_u8_i64_b x6.1)), (.int .i64 x6.2)]) [], .call ⟨true, []⟩ (.tup [(.sl 3 (List.map e_u8_i64_b x7.1)), (.int .i64 x7.2)]) [], .call ⟨true, []⟩ (.sl 3 (List.map e_u8_i64_b x8)) [], .call ⟨true, []⟩ (.tup [(.sl 3 (List.map e_u8_i64_b x9.1)), (.int .i64 x9.2)]) [], .d true, .d false, .d false, .d false, .d false, .d false, .d false] [⟨(rfl : false = false)⟩, ⟨(rfl : false = false)⟩, ⟨(rfl : false = false)⟩, ⟨c8⟩, ⟨c8⟩, ⟨c8⟩, ⟨c7⟩, ⟨(ok_lock_Take k x8 (irem .i64 (conv .i64 x2) 1000) (irem .u8 x3 64) true _ e6)⟩, ⟨(ok_lock_Free k x5.1 (irem .i64 (conv .i64 x1) 1000) _ e5)⟩, ⟨(ok_lock_Take k x5.1 (irem .i64 (conv .i64 x2) 1000) (irem .u8 x3 64) true _ e4)⟩, ⟨(ok_lock_Take k x5.1 (irem .i64 (conv .i64 x2) 1000) (irem .u8 x3 64) false _ e3)⟩, ⟨(ok_lock_Take k [] (irem .i64 (conv .i64 x1) 1000) (irem .u8 x3 64) true _ e2)⟩, ⟨(rfl : eqI 64 0 = false)⟩, ⟨(rfl : eqI 1000 0 = false)⟩, ⟨(rfl : eqI 1000 0 = false)⟩, ⟨(nF c1)⟩, ⟨(ok_law07_alive k _ e0)⟩] (by kernel_rfl)
      · rw [if_neg c7] at h
        replace c7 := eqf c7
        by_cases c8 : eqI x5.2 0 = true
        · rw [if_pos c8] at h
          by_cases c9 : eqI x6.2 9 = true
          · rw [if_pos c9] at h
            by_cases c10 : eqI x7.2 9 = true
            · rw [if_pos c10] at h
              by_cases c11 : eqI x9.2 0 = true
              · rw [if_pos c11] at h
                obtain rfl := Option.some.inj h
                exact Tri.of (x := X9) mixed facts9 [.call ⟨true, []⟩ (.bool x4) [], .d false, .d false, .d false, .d false, .call ⟨true, [[(0, 3)]]⟩ (.tup [(.sl 3 (List.map e_u8_i64_b x5.1)), (.int .i64 x5.2)]) [], .call ⟨true, []⟩ (.tup [(.sl 3 (List.map e_u8_i64_b x6.1)), (.int .i64 x6.2)]) [], .call ⟨true, []⟩ (.tup [(.sl 3 (List.map e_u8_i64_b x7.1)), (.int .i64 x7.2)]) [], .call ⟨true, []⟩ (.sl 3 (List.map e_u8_i64_b x8)) [], .call ⟨true, []⟩ (.tup [(.sl 3 (List.map e_u8_i64_b x9.1)), (.int .i64 x9.2)]) [], .d false, .d true, .d true, .d true, .d true, .d true, .d true, .d true, .d true, .d true, .d true, .d true, .n x5.1.length, .d true, .d true] [⟨c11⟩, ⟨c11⟩, ⟨(len_map e_u8_i64_b x5.1)⟩, ⟨c11⟩, ⟨c11⟩, ⟨c10⟩, ⟨c10⟩, ⟨c10⟩, ⟨c9⟩, ⟨c9⟩, ⟨c9⟩, ⟨c8⟩, ⟨c8⟩, ⟨c8⟩, ⟨c7⟩, ⟨(ok_lock_Take k x8 (irem .i64 (conv .i64 x2) 1000) (irem .u8 x3 64) true _ e6)⟩, ⟨(ok_lock_Free k x5.1 (irem .i64 (conv .i64 x1) 1000) _ e5)⟩, ⟨(ok_lock_Take k x5.1 (irem .i64 (conv .i64 x2) 1000) (irem .u8 x3 64) true _ e4)⟩, ⟨(ok_lock_Take k x5.1 (irem .i64 (conv .i64 x2) 1000) (irem .u8 x3 64) false _ e3)⟩, ⟨(ok_lock_Take k [] (irem .i64 (conv .i64 x1) 1000) (irem .u8 x3 64) true _ e2)⟩, ⟨(rfl : eqI 64 0 = false)⟩, ⟨(rfl : eqI 1000 0 = false)⟩, ⟨(rfl : eqI 1000 0 = false)⟩, ⟨(nF c1)⟩, ⟨(ok_law07_alive k _ e0)⟩] (by kernel_rfl)
              · rw [if_neg c11] at h
                replace c11 := eqf c11
                obtain rfl := Option.some.inj h
                exact Tri.of (x := X9) mixed facts9 [.call ⟨true, []⟩ (.bool x4) [], .d false, .d false, .d false, .d false, .call ⟨true, [[(0, 3)]]⟩ (.tup [(.sl 3 (List.map e_u8_i64_b x5.1)), (.int .i64 x5.2)]) [], .call ⟨true, []⟩ (.tup [(.sl 3 (List.map e_u8_i64_b x6.1)), (.int .i64 x6.2)]) [], .call ⟨true, []⟩ (.tup [(.sl 3 (List.map e_u8_i64_b x7.1)), (.int .i64 x7.2)]) [], .call ⟨true, []⟩ (.sl 3 (List.map e_u8_i64_b x8)) [], .call ⟨true, []⟩ (.tup [(.sl 3 (List.map e_u8_i64_b x9.1)), (.int .i64 x9.2)]) [], .d false, .d true, .d true, .d true, .d true, .d true, .d true, .d true, .d true, .d true, .d false, .d false, .d false, .d false] [⟨c11⟩, ⟨c11⟩, ⟨c11⟩, ⟨c11⟩, ⟨c10⟩, ⟨c10⟩, ⟨c10⟩, ⟨c9⟩, ⟨c9⟩, ⟨c9⟩, ⟨c8⟩, ⟨c8⟩, ⟨c8⟩, ⟨c7⟩, ⟨(ok_lock_Take k x8 (irem .i64 (conv .i64 x2) 1000) (irem .u8 x3 64) true _ e6)⟩, ⟨(ok_lock_Free k x5.1 (irem .i64 (conv .i64 x1) 1000) _ e5)⟩, ⟨(ok_lock_Take k x5.1 (irem .i64 (conv .i64 x2) 1000) (irem .u8 x3 64) true _ e4)⟩, ⟨(ok_lock_Take k x5.1 (irem .i64 (conv .i64 x2) 1000) (irem .u8 x3 64) false _ e3)⟩, ⟨(ok_lock_Take k [] (irem .i64 (conv .i64 x1) 1000) (irem .u8 x3 64) true _ e2)⟩, ⟨(rfl : eqI 64 0 = false)⟩, ⟨(rfl : eqI 1000 0 = false)⟩, ⟨(rfl : eqI 1000 0 = false)⟩, ⟨(nF c1)⟩, ⟨(ok_law07_alive k _ e0)⟩] (by kernel_rfl)
            · rw [if_neg c10] at h
              replace c10 := eqf c10
              obtain rfl := Option.some.inj h
              exact Tri.of (x := X9) mixed facts9 [.call ⟨true, []⟩ (.bool x4) [], .d false, .d false, .d false, .d false, .call ⟨true, [[(0, 3)]]⟩ (.tup [(.sl 3 (List.map e_u8_i64_b x5.1)), (.int .i64 x5.2)]) [], .call ⟨true, []⟩ (.tup [(.sl 3 (List.map e_u8_i64_b x6.1)), (.int .i64 x6.2)]) [], .call ⟨true, []⟩ (.tup [(.sl 3 (List.map e_u8_i64_b x7.1)), (.int .i64 x7.2)]) [], .call ⟨true, []⟩ (.sl 3 (List.map e_u8_i64_b x8)) [], .call ⟨true, []⟩ (.tup [(.sl 3 (List.map e_u8_i64_b x9.1)), (.int .i64 x9.2)]) [], .d false, .d true, .d true, .d true, .d true, .d true, .d true, .d false, .d false, .d false, .d false, .d false, .d false, .d false] [⟨(rfl : false = false)⟩, ⟨(rfl : false = false)⟩, ⟨(rfl : false = false)⟩, ⟨(rfl : false = false)⟩, ⟨c10⟩, ⟨c10⟩, ⟨c10⟩, ⟨c9⟩, ⟨c9⟩, ⟨c9⟩, ⟨c8⟩, ⟨c8⟩, ⟨c8⟩, ⟨c7⟩, ⟨(ok_lock_Take k x8 (irem .i64 (conv .i64 x2) 1000) (irem .u8 x3 64) true _ e6)⟩, ⟨(ok_lock_Free k x5.1 (irem .i64 (conv .i64 x1) 1000) _ e5)⟩, ⟨(ok_lock_Take k x5.1 (irem .i64 (conv .i64 x2) 1000) (irem .u8 x3 64) true _ e4)⟩, ⟨(ok_lock_Take k x5.1 (irem .i64 (conv .i64 x2) 1000) (irem .u8 x3 64) false _ e3)⟩, ⟨(ok_lock_Take k [] (irem .i64 (conv .i64 x1) 1000) (irem .u8 x3 64) true _ e2)⟩, ⟨(rfl : eqI 64 0 = false)⟩, ⟨(rfl : eqI 1000 0 = false)⟩, ⟨(rfl : eqI 1000 0 = false)⟩, ⟨(nF c1)⟩, ⟨(ok_law07_alive k _ e0)⟩] (by kernel_rfl)
          · rw [if_neg c9] at h
            replace c9 := eqf c9
            obtain rfl := Option.some.inj h
            exact Tri.of (x := X9) mixed facts9 [.call ⟨true, []⟩ (.bool x4) [], .d false, .d false, .d false, .d false, .call ⟨true, [[(0, 3)]]⟩ (.tup [(.sl 3 (List.map e_u8_i64_b x5.1)), (.int .i64 x5.2)]) [], .call ⟨true, []⟩ (.tup [(.sl 3 (List.map e_u8_i64_b x6.1)), (.int .i64 x6.2)]) [], .call ⟨true, []⟩ (.tup [(.sl 3 (List.map e_u8_i64_b x7.1)), (.int .i64 x7.2)]) [], .call ⟨true, []⟩ (.sl 3 (List.map e_u8_i64_b x8)) [], .call ⟨true, []⟩ (.tup [(.sl 3 (List.map e_u8_i64_b x9.1)), (.int .i64 x9.2)]) [], .d false, .d true, .d true, .d true, .d false, .d false, .d false, .d false, .d false, .d false, .d false, .d false, .d false, .d false] [⟨(rfl : false = false)⟩, ⟨(rfl : false = false)⟩, ⟨(rfl : false = false)⟩, ⟨(rfl : false = false)⟩, ⟨(rfl : false = false)⟩, ⟨(rfl : false = false)⟩, ⟨(rfl : false = false)⟩, ⟨c9⟩, ⟨c9⟩, ⟨c9⟩, ⟨c8⟩, ⟨c8⟩, ⟨c8⟩, ⟨c7⟩, ⟨(ok_lock_Take k x8 (irem .i64 (conv .i64 x2) 1000) (irem .u8 x3 64) true _ e6)⟩, ⟨(ok_lock_Free k x5.1 (irem .i64 (conv .i64 x1) 1000) _ e5)⟩, ⟨(ok_lock_Take k x5.1 (irem .i64 (conv .i64 x2) 1000) (irem .u8 x3 64) true _ e4)⟩, ⟨(ok_lock_Take k x5.1 (irem .i64 (conv .i64 x2) 1000) (irem .u8 x3 64) false _ e3)⟩, ⟨(ok_lock_Take k [] (irem .i64 (conv .i64 x1) 1000) (irem .u8 x3 64) true _ e2)⟩, ⟨(rfl : eqI 64 0 = false)⟩, ⟨(rfl : eqI 1000 0 = false)⟩, ⟨(rfl : eqI 1000 0 = false)⟩, ⟨(nF c1)⟩, ⟨(ok_law07_alive k _ e0)⟩] (by kernel_rfl)
        · rw [if_neg c8] at h
          replace c8 := eqf c8
          obtain rfl := Option.some.inj h
          exact Tri.of (x := X9) mixed facts9 [.call ⟨true, []⟩ (.bool x4) [], .d false, .d false, .d false, .d false, .call ⟨true, [[(0, 3)]]⟩ (.tup [(.sl 3 (List.map e_u8_i64_b x5.1)), (.int .i64 x5.2)]) [], .call ⟨true, []⟩ (.tup [(.sl 3 (List.map e_u8_i64_b x6.1)), (.int .i64 x6.2)]) [], .call ⟨true, []⟩ (.tup [(.sl 3 (List.map e_u8_i64_b x7.1)), (.int .i64 x7.2)]) [], .call ⟨true, []⟩ (.sl 3 (List.map e_u8_i64_b x8)) [], .call ⟨true, []⟩ (.tup [(.sl 3 (List.map e_u8_i64_b x9.1)), (.int .i64 x9.2)]) [], .d false, .d false, .d false, .d false, .d false, .d false, .d false, .d false, .d false, .d false, .d false, .d false, .d false, .d false] [⟨(rfl : false = false)⟩, ⟨(rfl : false = false)⟩, ⟨(rfl : false = false)⟩, ⟨(rfl : false = false)⟩, ⟨(rfl : false = false)⟩, ⟨(rfl : false = false)⟩, ⟨(rfl : false = false)⟩, ⟨(rfl : false = false)⟩, ⟨(rfl : false = false)⟩, ⟨(rfl : false = false)⟩, ⟨c8⟩, ⟨c8⟩, ⟨c8⟩, ⟨c7⟩, ⟨(ok_lock_Take k x8 (irem .i64 (conv .i64 x2) 1000) (irem .u8 x3 64) true _ e6)⟩, ⟨(ok_lock_Free k x5.1 (irem .i64 (conv .i64 x1) 1000) _ e5)⟩, ⟨(ok_lock_Take k x5.1 (irem .i64 (conv .i64 x2) 1000) (irem .u8 x3 64) true _ e4)⟩, ⟨(ok_lock_Take k x5.1 (irem .i64 (conv .i64 x2) 1000) (irem .u8 x3 64) false _ e3)⟩, ⟨(ok_lock_Take k [] (irem .i64 (conv .i64 x1) 1000) (irem .u8 x3 64) true _ e2)⟩, ⟨(rfl : eqI 64 0 = false)⟩, ⟨(rfl : eqI 1000 0 = false)⟩, ⟨(rfl : eqI 1000 0 = false)⟩, ⟨(nF c1)⟩, ⟨(ok_law07_alive k _ e0)⟩] (by kernel_rfl)
    · rw [if_neg c1] at h
      replace c1 := eqf c1
      obtain rfl := Option.some.inj h
      exact Tri.of (x := X9) mixed facts9 [.call ⟨true, []⟩ (.bool x4) [], .d true] [⟨(nT c1)⟩, ⟨(ok_law07_alive k _ e0)⟩] (by kernel_rfl)
end Go.Ws
