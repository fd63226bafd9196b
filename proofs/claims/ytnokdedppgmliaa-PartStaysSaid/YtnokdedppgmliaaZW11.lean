/-
  ref09_Same: what the machine makes of it. (Printed by my own program.)
  Conditions: none.
-/
import Derived.Test.YtnokdedppgmliaaZPre
import Derived.Test.YtnokdedppgmliaaZPure
import Derived.Test.YtnokdedppgmliaaZW14
set_option linter.unusedVariables false
set_option linter.unusedSimpArgs false
namespace Go.Ws
open Go.Proofs
set_option linter.unusedSimpArgs false
set_option linter.unusedVariables false
set_option maxRecDepth 1000000
set_option maxHeartbeats 4000000
noncomputable def X11 : Ctx := ⟨Try.f11, [], true⟩
theorem ok_ref09_Same (k : Nat) (x1 : Int) (x2 : List (Int × Int)) (x3 : Bool) (x4 : Int) (x5 : Int) (x6 : List (Int × Int)) (x7 : Bool) (x8 : Int) (r : Bool) (h : ref09_Same k x1 x2 x3 x4 x5 x6 x7 x8 = some r) : Tri Try.prog 11 [(.agg [(.int .i64 x1), (.sl 2 (List.map e_u8_i64 x2)), (.bool x3), (.int .i64 x4)]), (.agg [(.int .i64 x5), (.sl 2 (List.map e_u8_i64 x6)), (.bool x7), (.int .i64 x8)])] [] (.bool r) [] := by
    unfold ref09_Same at h
    by_cases c0 : eqI x1 x5 = true
    · rw [if_pos c0] at h
      by_cases c1 : eqB x3 x7 = true
      · rw [if_pos c1] at h
        by_cases c2 : eqI x4 x8 = true
        · rw [if_pos c2] at h
          obtain ⟨x9, e3, h⟩ := Option.bind_eq_some_iff.1 h
          obtain rfl := Option.some.inj h
          exact Tri.of (x := X11) mixed facts11 [.d true, .d true, .d true, .d true, .d true, .d true, .d true, .d true, .d true, .d true, .d true, .d true, .d true, .d true, .d true, .d true, .d true, .call ⟨true, []⟩ (.bool x9) [], .d true] [⟨c2⟩, ⟨(ok_ref09_Deltas k x2 x6 _ e3)⟩, ⟨c2⟩, ⟨c2⟩, ⟨c2⟩, ⟨c2⟩, ⟨c2⟩, ⟨c1⟩, ⟨c1⟩, ⟨c1⟩, ⟨c1⟩, ⟨c1⟩, ⟨c1⟩, ⟨c0⟩, ⟨c0⟩, ⟨c0⟩, ⟨c0⟩, ⟨c0⟩, ⟨c0⟩] (by kernel_rfl)
        · rw [if_neg c2] at h
          replace c2 := eqf c2
          obtain rfl := Option.some.inj h
          exact Tri.of (x := X11) mixed facts11 [.d true, .d true, .d true, .d true, .d true, .d true, .d true, .d true, .d true, .d true, .d true, .d true, .d false, .d false, .d false, .d false, .d false, .d false] [⟨c2⟩, ⟨c2⟩, ⟨c2⟩, ⟨c2⟩, ⟨c2⟩, ⟨c2⟩, ⟨c1⟩, ⟨c1⟩, ⟨c1⟩, ⟨c1⟩, ⟨c1⟩, ⟨c1⟩, ⟨c0⟩, ⟨c0⟩, ⟨c0⟩, ⟨c0⟩, ⟨c0⟩, ⟨c0⟩] (by kernel_rfl)
      · rw [if_neg c1] at h
        replace c1 := eqf c1
        obtain rfl := Option.some.inj h
        exact Tri.of (x := X11) mixed facts11 [.d true, .d true, .d true, .d true, .d true, .d true, .d false, .d false, .d false, .d false, .d false, .d false, .d false, .d false, .d false, .d false, .d false, .d false] [⟨(rfl : false = false)⟩, ⟨(rfl : false = false)⟩, ⟨(rfl : false = false)⟩, ⟨(rfl : false = false)⟩, ⟨(rfl : false = false)⟩, ⟨(rfl : false = false)⟩, ⟨c1⟩, ⟨c1⟩, ⟨c1⟩, ⟨c1⟩, ⟨c1⟩, ⟨c1⟩, ⟨c0⟩, ⟨c0⟩, ⟨c0⟩, ⟨c0⟩, ⟨c0⟩, ⟨c0⟩] (by kernel_rfl)
    · rw [if_neg c0] at h
      replace c0 := eqf c0
      obtain rfl := Option.some.inj h
      exact Tri.of (x := X11) mixed facts11 [.d false, .d false, .d false, .d false, .d false, .d false, .d false, .d false, .d false, .d false, .d false, .d false, .d false, .d false, .d false, .d false, .d false, .d false] [⟨(rfl : false = false)⟩, ⟨(rfl : false = false)⟩, ⟨(rfl : false = false)⟩, ⟨(rfl : false = false)⟩, ⟨(rfl : false = false)⟩, ⟨(rfl : false = false)⟩, ⟨(rfl : false = false)⟩, ⟨(rfl : false = false)⟩, ⟨(rfl : false = false)⟩, ⟨(rfl : false = false)⟩, ⟨(rfl : false = false)⟩, ⟨(rfl : false = false)⟩, ⟨c0⟩, ⟨c0⟩, ⟨c0⟩, ⟨c0⟩, ⟨c0⟩, ⟨c0⟩] (by kernel_rfl)
end Go.Ws
