/-
  law06_WheelNext: what the machine makes of it. (Printed by my own program.)
  Conditions: none.
-/
import Derived.Test.YtgaodljkmdafdaaZPre
import Derived.Test.YtgaodljkmdafdaaZPure
import Derived.Test.YtgaodljkmdafdaaZW10
import Derived.Test.YtgaodljkmdafdaaZW12
import Derived.Test.YtgaodljkmdafdaaZW16
import Derived.Test.YtgaodljkmdafdaaZW18
import Derived.Test.YtgaodljkmdafdaaZW19
set_option linter.unusedVariables false
set_option linter.unusedSimpArgs false
namespace Go.Ws
open Go.Proofs
set_option linter.unusedSimpArgs false
set_option linter.unusedVariables false
set_option maxRecDepth 1000000
set_option maxHeartbeats 4000000
noncomputable def X8 : Ctx := ⟨Try.f8, [], true⟩
theorem ok_law06_WheelNext (k : Nat) (x1 : Int) (x2 : List (Int × Int)) (r : Bool) (h : law06_WheelNext k x1 x2 = some r) : Tri Try.prog 8 [(.agg [(.int .i64 x1), (.sl 2 (List.map e_i64_i64 x2))])] [] (.bool r) [] := by
    unfold law06_WheelNext at h
    obtain ⟨x3, e0, h⟩ := Option.bind_eq_some_iff.1 h
    by_cases c1 : x3 = true
    · rw [if_pos c1] at h
      by_cases c2 : ltI 100 (nI x2.length) = true
      · rw [if_pos c2] at h
        obtain rfl := Option.some.inj h
        exact Tri.of (x := X8) mixed facts8 [.call ⟨true, []⟩ (.bool x3) [], .d false, .n x2.length, .d true, .d true, .d true, .d true, .d true] [⟨(rfl : true = true)⟩, ⟨c2⟩, ⟨c2⟩, ⟨c2⟩, ⟨c2⟩, ⟨(len_map e_i64_i64 x2)⟩, ⟨(nF c1)⟩, ⟨(ok_law06_alive k _ e0)⟩] (by kernel_rfl)
      · rw [if_neg c2] at h
        replace c2 := eqf c2
        obtain ⟨x4, e3, h⟩ := Option.bind_eq_some_iff.1 h
        by_cases c4 : x4 = true
        · rw [if_pos c4] at h
          obtain ⟨x5, e5, h⟩ := Option.bind_eq_some_iff.1 h
          obtain ⟨x6, e6, h⟩ := Option.bind_eq_some_iff.1 h
          by_cases c7 : x6.2 = true
          · rw [if_pos c7] at h
            obtain ⟨x7, e8, h⟩ := Option.bind_eq_some_iff.1 h
            obtain ⟨x8, e9, h⟩ := Option.bind_eq_some_iff.1 h
            obtain ⟨x9, e10, h⟩ := Option.bind_eq_some_iff.1 h
            by_cases c11 : ltI x6.1 1 = true
            · rw [if_pos c11] at h
              obtain rfl := Option.some.inj h
              exact Tri.of (x := X8) mixed facts8 [.call ⟨true, []⟩ (.bool x3) [], .d false, .n x2.length, .d false, .d false, .call ⟨true, []⟩ (.bool x4) [], .d false, .d false, .d false, .call ⟨true, []⟩ (.agg [(.int .i64 x5.1), (.sl 2 (List.map e_i64_i64 x5.2))]) [], .call ⟨true, []⟩ (.tup [(.int .i64 x6.1), (.bool x6.2)]) [], .d false, .call ⟨true, []⟩ (.agg [(.int .i64 x7.1), (.sl 2 (List.map e_i64_i64 x7.2))]) [], .call ⟨true, []⟩ (.tup [(.agg [(.int .i64 x8.1), (.sl 2 (List.map e_i64_i64 x8.2.1))]), (.sl 1 (List.map e_i64 x8.2.2.1)), (.int .i64 x8.2.2.2)]) [], .call ⟨true, []⟩ (.tup [(.agg [(.int .i64 x9.1), (.sl 2 (List.map e_i64_i64 x9.2.1))]), (.sl 1 (List.map e_i64 x9.2.2.1)), (.int .i64 x9.2.2.2)]) [], .d false, .d false, .d false, .d false, .d false, .d false, .d false, .d false, .d false, .d false, .d false, .d false, .d false, .d false] [⟨(rfl : false = false)⟩, ⟨(rfl : false = false)⟩, ⟨(rfl : false = false)⟩, ⟨(rfl : false = false)⟩, ⟨(rfl : false = false)⟩, ⟨(rfl : false = false)⟩, ⟨(rfl : false = false)⟩, ⟨(rfl : false = false)⟩, ⟨(rfl : false = false)⟩, ⟨(rfl : false = false)⟩, ⟨(rfl : false = false)⟩, ⟨(nF c11)⟩, ⟨(nF c11)⟩, ⟨(nF c11)⟩, ⟨(ok_wheel_Tick k x8.1 x8.2.1 1 _ e10)⟩, ⟨(ok_wheel_Tick k x7.1 x7.2 (isub .i64 x6.1 1) _ e9)⟩, ⟨(ok_law06_Theirs k x1 x2 _ e8)⟩, ⟨(nF c7)⟩, ⟨(ok_wheel_Next k x5.1 x5.2 _ e6)⟩, ⟨(ok_law06_Theirs k x1 x2 _ e5)⟩, ⟨(nF c4)⟩, ⟨c2⟩, ⟨c2⟩, ⟨(ok_ref06_Right k x1 x2 _ e3)⟩, ⟨c2⟩, ⟨c2⟩, ⟨(len_map e_i64_i64 x2)⟩, ⟨(nF c1)⟩, ⟨(ok_law06_alive k _ e0)⟩] (by kernel_rfl)
            · rw [if_neg c11] at h
              replace c11 := eqf c11
              by_cases c12 : eqI x8.2.2.2 0 = true
              · rw [if_pos c12] at h
                by_cases c13 : eqI (nI x8.2.2.1.length) 0 = true
                · rw [if_pos c13] at h
                  by_cases c14 : eqI x9.2.2.2 0 = true
                  · rw [if_pos c14] at h
                    obtain rfl := Option.some.inj h
                    exact Tri.of (x := X8) mixed facts8 [.call ⟨true, []⟩ (.bool x3) [], .d false, .n x2.length, .d false, .d false, .call ⟨true, []⟩ (.bool x4) [], .d false, .d false, .d false, .call ⟨true, []⟩ (.agg [(.int .i64 x5.1), (.sl 2 (List.map e_i64_i64 x5.2))]) [], .call ⟨true, []⟩ (.tup [(.int .i64 x6.1), (.bool x6.2)]) [], .d false, .call ⟨true, []⟩ (.agg [(.int .i64 x7.1), (.sl 2 (List.map e_i64_i64 x7.2))]) [], .call ⟨true, []⟩ (.tup [(.agg [(.int .i64 x8.1), (.sl 2 (List.map e_i64_i64 x8.2.1))]), (.sl 1 (List.map e_i64 x8.2.2.1)), (.int .i64 x8.2.2.2)]) [], .call ⟨true, []⟩ (.tup [(.agg [(.int .i64 x9.1), (.sl 2 (List.map e_i64_i64 x9.2.1))]), (.sl 1 (List.map e_i64 x9.2.2.1)), (.int .i64 x9.2.2.2)]) [], .d true, .d true, .d true, .d true, .d true, .n x8.2.2.1.length, .d true, .d true, .d true, .d true, .d true, .d true, .d true, .n x9.2.2.1.length, .d true, .d true] [⟨c14⟩, ⟨c14⟩, ⟨(len_map e_i64 x9.2.2.1)⟩, ⟨c14⟩, ⟨c14⟩, ⟨c13⟩, ⟨c13⟩, ⟨c13⟩, ⟨c12⟩, ⟨c12⟩, ⟨(len_map e_i64 x8.2.2.1)⟩, ⟨c12⟩, ⟨c12⟩, ⟨(nT c11)⟩, ⟨(nT c11)⟩, ⟨(nT c11)⟩, ⟨(ok_wheel_Tick k x8.1 x8.2.1 1 _ e10)⟩, ⟨(ok_wheel_Tick k x7.1 x7.2 (isub .i64 x6.1 1) _ e9)⟩, ⟨(ok_law06_Theirs k x1 x2 _ e8)⟩, ⟨(nF c7)⟩, ⟨(ok_wheel_Next k x5.1 x5.2 _ e6)⟩, ⟨(ok_law06_Theirs k x1 x2 _ e5)⟩, ⟨(nF c4)⟩, ⟨c2⟩, ⟨c2⟩, ⟨(ok_ref06_Right k x1 x2 _ e3)⟩, ⟨c2⟩, ⟨c2⟩, ⟨(len_map e_i64_i64 x2)⟩, ⟨(nF c1)⟩, ⟨(ok_law06_alive k _ e0)⟩] (by kernel_rfl)
                  · rw [if_neg c14] at h
                    replace c14 := eqf c14
                    obtain rfl := Option.some.inj h
                    exact Tri.of (x := X8) mixed facts8 [.call ⟨true, []⟩ (.bool x3) [], .d false, .n x2.length, .d false, .d false, .call ⟨true, []⟩ (.bool x4) [], .d false, .d false, .d false, .call ⟨true, []⟩ (.agg [(.int .i64 x5.1), (.sl 2 (List.map e_i64_i64 x5.2))]) [], .call ⟨true, []⟩ (.tup [(.int .i64 x6.1), (.bool x6.2)]) [], .d false, .call ⟨true, []⟩ (.agg [(.int .i64 x7.1), (.sl 2 (List.map e_i64_i64 x7.2))]) [], .call ⟨true, []⟩ (.tup [(.agg [(.int .i64 x8.1), (.sl 2 (List.map e_i64_i64 x8.2.1))]), (.sl 1 (List.map e_i64 x8.2.2.1)), (.int .i64 x8.2.2.2)]) [], .call ⟨true, []⟩ (.tup [(.agg [(.int .i64 x9.1), (.sl 2 (List.map e_i64_i64 x9.2.1))]), (.sl 1 (List.map e_i64 x9.2.2.1)), (.int .i64 x9.2.2.2)]) [], .d true, .d true, .d true, .d true, .d true, .n x8.2.2.1.length, .d true, .d true, .d true, .d true, .d true, .d false, .d false, .d false, .d false] [⟨c14⟩, ⟨c14⟩, ⟨c14⟩, ⟨c14⟩, ⟨c13⟩, ⟨c13⟩, ⟨c13⟩, ⟨c12⟩, ⟨c12⟩, ⟨(len_map e_i64 x8.2.2.1)⟩, ⟨c12⟩, ⟨c12⟩, ⟨(nT c11)⟩, ⟨(nT c11)⟩, ⟨(nT c11)⟩, ⟨(ok_wheel_Tick k x8.1 x8.2.1 1 _ e10)⟩, ⟨(ok_wheel_Tick k x7.1 x7.2 (isub .i64 x6.1 1) _ e9)⟩, ⟨(ok_law06_Theirs k x1 x2 _ e8)⟩, ⟨(nF c7)⟩, ⟨(ok_wheel_Next k x5.1 x5.2 _ e6)⟩, ⟨(ok_law06_Theirs k x1 x2 _ e5)⟩, ⟨(nF c4)⟩, ⟨c2⟩, ⟨c2⟩, ⟨(ok_ref06_Right k x1 x2 _ e3)⟩, ⟨c2⟩, ⟨c2⟩, ⟨(len_map e_i64_i64 x2)⟩, ⟨(nF c1)⟩, ⟨(ok_law06_alive k _ e0)⟩] (by kernel_rfl)
                · rw [if_neg c13] at h
                  replace c13 := eqf c13
                  obtain rfl := Option.some.inj h
                  exact Tri.of (x := X8) mixed facts8 [.call ⟨true, []⟩ (.bool x3) [], .d false, .n x2.length, .d false, .d false, .call ⟨true, []⟩ (.bool x4) [], .d false, .d false, .d false, .call ⟨true, []⟩ (.agg [(.int .i64 x5.1), (.sl 2 (List.map e_i64_i64 x5.2))]) [], .call ⟨true, []⟩ (.tup [(.int .i64 x6.1), (.bool x6.2)]) [], .d false, .call ⟨true, []⟩ (.agg [(.int .i64 x7.1), (.sl 2 (List.map e_i64_i64 x7.2))]) [], .call ⟨true, []⟩ (.tup [(.agg [(.int .i64 x8.1), (.sl 2 (List.map e_i64_i64 x8.2.1))]), (.sl 1 (List.map e_i64 x8.2.2.1)), (.int .i64 x8.2.2.2)]) [], .call ⟨true, []⟩ (.tup [(.agg [(.int .i64 x9.1), (.sl 2 (List.map e_i64_i64 x9.2.1))]), (.sl 1 (List.map e_i64 x9.2.2.1)), (.int .i64 x9.2.2.2)]) [], .d true, .d true, .d true, .d true, .d true, .n x8.2.2.1.length, .d true, .d true, .d false, .d false, .d false, .d false, .d false, .d false, .d false] [⟨(rfl : false = false)⟩, ⟨(rfl : false = false)⟩, ⟨(rfl : false = false)⟩, ⟨(rfl : false = false)⟩, ⟨c13⟩, ⟨c13⟩, ⟨c13⟩, ⟨c12⟩, ⟨c12⟩, ⟨(len_map e_i64 x8.2.2.1)⟩, ⟨c12⟩, ⟨c12⟩, ⟨(nT c11)⟩, ⟨(nT c11)⟩, ⟨(nT c11)⟩, ⟨(ok_wheel_Tick k x8.1 x8.2.1 1 _ e10)⟩, ⟨(ok_wheel_Tick k x7.1 x7.2 (isub .i64 x6.1 1) _ e9)⟩, ⟨(ok_law06_Theirs k x1 x2 _ e8)⟩, ⟨(nF c7)⟩, ⟨(ok_wheel_Next k x5.1 x5.2 _ e6)⟩, ⟨(ok_law06_Theirs k x1 x2 _ e5)⟩, ⟨(nF c4)⟩, ⟨c2⟩, ⟨c2⟩, ⟨(ok_ref06_Right k x1 x2 _ e3)⟩, ⟨c2⟩, ⟨c2⟩, ⟨(len_map e_i64_i64 x2)⟩, ⟨(nF c1)⟩, ⟨(ok_law06_alive k _ e0)⟩] (by kernel_rfl)
              · rw [if_neg c12] at h
                replace c12 := eqf c12
                obtain rfl := Option.some.inj h
                exact Tri.of (x := X8) mixed facts8 [.call ⟨true, []⟩ (.bool x3) [], .d false, .n x2.length, .d false, .d false, .call ⟨true, []⟩ (.bool x4) [], .d false, .d false, .d false, .call ⟨true, []⟩ (.agg [(.int .i64 x5.1), (.sl 2 (List.map e_i64_i64 x5.2))]) [], .call ⟨true, []⟩ (.tup [(.int .i64 x6.1), (.bool x6.2)]) [], .d false, .call ⟨true, []⟩ (.agg [(.int .i64 x7.1), (.sl 2 (List.map e_i64_i64 x7.2))]) [], .call ⟨true, []⟩ (.tup [(.agg [(.int .i64 x8.1), (.sl 2 (List.map e_i64_i64 x8.2.1))]), (.sl 1 (List.map e_i64 x8.2.2.1)), (.int .i64 x8.2.2.2)]) [], .call ⟨true, []⟩ (.tup [(.agg [(.int .i64 x9.1), (.sl 2 (List.map e_i64_i64 x9.2.1))]), (.sl 1 (List.map e_i64 x9.2.2.1)), (.int .i64 x9.2.2.2)]) [], .d true, .d true, .d true, .d false, .d false, .d false, .d false, .d false, .d false, .d false, .d false, .d false, .d false, .d false] [⟨(rfl : false = false)⟩, ⟨(rfl : false = false)⟩, ⟨(rfl : false = false)⟩, ⟨(rfl : false = false)⟩, ⟨(rfl : false = false)⟩, ⟨(rfl : false = false)⟩, ⟨(rfl : false = false)⟩, ⟨c12⟩, ⟨c12⟩, ⟨c12⟩, ⟨c12⟩, ⟨(nT c11)⟩, ⟨(nT c11)⟩, ⟨(nT c11)⟩, ⟨(ok_wheel_Tick k x8.1 x8.2.1 1 _ e10)⟩, ⟨(ok_wheel_Tick k x7.1 x7.2 (isub .i64 x6.1 1) _ e9)⟩, ⟨(ok_law06_Theirs k x1 x2 _ e8)⟩, ⟨(nF c7)⟩, ⟨(ok_wheel_Next k x5.1 x5.2 _ e6)⟩, ⟨(ok_law06_Theirs k x1 x2 _ e5)⟩, ⟨(nF c4)⟩, ⟨c2⟩, ⟨c2⟩, ⟨(ok_ref06_Right k x1 x2 _ e3)⟩, ⟨c2⟩, ⟨c2⟩, ⟨(len_map e_i64_i64 x2)⟩, ⟨(nF c1)⟩, ⟨(ok_law06_alive k _ e0)⟩] (by kernel_rfl)
          · rw [if_neg c7] at h
            replace c7 := eqf c7
            by_cases c8 : eqI (nI x2.length) 0 = true
            · rw [if_pos c8] at h
              obtain rfl := Option.some.inj h
              exact Tri.of (x := X8) mixed facts8 [.call ⟨true, []⟩ (.bool x3) [], .d false, .n x2.length, .d false, .d false, .call ⟨true, []⟩ (.bool x4) [], .d false, .d false, .d false, .call ⟨true, []⟩ (.agg [(.int .i64 x5.1), (.sl 2 (List.map e_i64_i64 x5.2))]) [], .call ⟨true, []⟩ (.tup [(.int .i64 x6.1), (.bool x6.2)]) [], .d true, .n x2.length, .d true, .d true, .d true] [⟨c8⟩, ⟨c8⟩, ⟨c8⟩, ⟨(len_map e_i64_i64 x2)⟩, ⟨(nT c7)⟩, ⟨(ok_wheel_Next k x5.1 x5.2 _ e6)⟩, ⟨(ok_law06_Theirs k x1 x2 _ e5)⟩, ⟨(nF c4)⟩, ⟨c2⟩, ⟨c2⟩, ⟨(ok_ref06_Right k x1 x2 _ e3)⟩, ⟨c2⟩, ⟨c2⟩, ⟨(len_map e_i64_i64 x2)⟩, ⟨(nF c1)⟩, ⟨(ok_law06_alive k _ e0)⟩] (by kernel_rfl)
            · rw [if_neg c8] at h
              replace c8 := eqf c8
              obtain rfl := Option.some.inj h
              exact Tri.of (x := X8) mixed facts8 [.call ⟨true, []⟩ (.bool x3) [], .d false, .n x2.length, .d false, .d false, .call ⟨true, []⟩ (.bool x4) [], .d false, .d false, .d false, .call ⟨true, []⟩ (.agg [(.int .i64 x5.1), (.sl 2 (List.map e_i64_i64 x5.2))]) [], .call ⟨true, []⟩ (.tup [(.int .i64 x6.1), (.bool x6.2)]) [], .d true, .n x2.length, .d false, .d false, .d false] [⟨c8⟩, ⟨c8⟩, ⟨c8⟩, ⟨(len_map e_i64_i64 x2)⟩, ⟨(nT c7)⟩, ⟨(ok_wheel_Next k x5.1 x5.2 _ e6)⟩, ⟨(ok_law06_Theirs k x1 x2 _ e5)⟩, ⟨(nF c4)⟩, ⟨c2⟩, ⟨c2⟩, ⟨(ok_ref06_Right k x1 x2 _ e3)⟩, ⟨c2⟩, ⟨c2⟩, ⟨(len_map e_i64_i64 x2)⟩, ⟨(nF c1)⟩, ⟨(ok_law06_alive k _ e0)⟩] (by kernel_rfl)
        · rw [if_neg c4] at h
          replace c4 := eqf c4
          obtain rfl := Option.some.inj h
          exact Tri.of (x := X8) mixed facts8 [.call ⟨true, []⟩ (.bool x3) [], .d false, .n x2.length, .d false, .d false, .call ⟨true, []⟩ (.bool x4) [], .d false, .d false, .d true] [⟨(nT c4)⟩, ⟨c2⟩, ⟨c2⟩, ⟨(ok_ref06_Right k x1 x2 _ e3)⟩, ⟨c2⟩, ⟨c2⟩, ⟨(len_map e_i64_i64 x2)⟩, ⟨(nF c1)⟩, ⟨(ok_law06_alive k _ e0)⟩] (by kernel_rfl)
    · rw [if_neg c1] at h
      replace c1 := eqf c1
      obtain rfl := Option.some.inj h
      exact Tri.of (x := X8) mixed facts8 [.call ⟨true, []⟩ (.bool x3) [], .d true] [⟨(nT c1)⟩, ⟨(ok_law06_alive k _ e0)⟩] (by kernel_rfl)
end Go.Ws
