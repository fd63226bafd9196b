/-
  ref09_Decide: what the machine makes of it. (Printed by my own program.)
  Conditions: none.
-/
import Derived.Test.YtnokdedppgmliaaZPre
import Derived.Test.YtnokdedppgmliaaZPure
import Derived.Test.YtnokdedppgmliaaZW13
import Derived.Test.YtnokdedppgmliaaZW32
set_option linter.unusedVariables false
set_option linter.unusedSimpArgs false
namespace Go.Ws
open Go.Proofs
set_option linter.unusedSimpArgs false
set_option linter.unusedVariables false
set_option maxRecDepth 1000000
set_option maxHeartbeats 4000000
noncomputable def X25 : Ctx := ⟨Try.f25, [], true⟩
theorem ok_ref09_Decide (k : Nat) (x1 : Int) (x2 : List (Int × Int)) (x3 : Bool) (x4 : Int) (x5 : Int) (r : Int × (List (Int × Int)) × Bool × Int × (List (Int × Int)) × Int) (h : ref09_Decide k x1 x2 x3 x4 x5 = some r) : Tri Try.prog 25 [(.agg [(.int .i64 x1), (.sl 2 (List.map e_u8_i64 x2)), (.bool x3), (.int .i64 x4)]), (.int .i64 x5)] [] (.tup [(.agg [(.int .i64 r.1), (.sl 2 (List.map e_u8_i64 r.2.1)), (.bool r.2.2.1), (.int .i64 r.2.2.2.1)]), (.sl 2 (List.map e_u8_i64 r.2.2.2.2.1)), (.int .i64 r.2.2.2.2.2)]) [] := by
    unfold ref09_Decide at h
    obtain ⟨x6, e0, h⟩ := Option.bind_eq_some_iff.1 h
    by_cases c1 : x6 = true
    · rw [if_pos c1] at h
      by_cases c2 : eqI x5 1 = true
      · rw [if_pos c2] at h
        by_cases c3 : eqI x1 3 = true
        · rw [if_pos c3] at h
          by_cases c4 : eqI x4 x5 = true
          · rw [if_pos c4] at h
            obtain rfl := Option.some.inj h
            exact Tri.of (x := X25) mixed facts25 [.call ⟨true, []⟩ (.bool x6) [], .d false, .d false, .d false, .d false, .d false, .d false, .d false, .d false, .d false, .d true, .d true, .d true, .d true, .d true, .d true, .norm 0 ⟨[(4, []), (5, [(0, 2)]), (6, [])], [⟨.tmp 4, [], none⟩], false, [], []⟩] [⟨c4⟩, ⟨c3⟩, ⟨c3⟩, ⟨c3⟩, ⟨c3⟩, ⟨c3⟩, ⟨(rfl : false = false)⟩, ⟨(nF c1)⟩, ⟨(nF c2)⟩, ⟨(nF c1)⟩, ⟨(nF c2)⟩, ⟨(nF c2)⟩, ⟨(nF c1)⟩, ⟨(nF c1)⟩, ⟨(nF c1)⟩, ⟨(ok_ref09_Right k x1 x2 x3 x4 _ e0)⟩] (by kernel_rfl)
          · rw [if_neg c4] at h
            replace c4 := eqf c4
            obtain rfl := Option.some.inj h
            exact Tri.of (x := X25) mixed facts25 [.call ⟨true, []⟩ (.bool x6) [], .d false, .d false, .d false, .d false, .d false, .d false, .d false, .d false, .d false, .d true, .d true, .d true, .d true, .d true, .d false, .d true, .d true, .norm 0 ⟨[(4, []), (5, [(0, 2)]), (6, [])], [⟨.tmp 4, [], none⟩], false, [], []⟩] [⟨c3⟩, ⟨c3⟩, ⟨c4⟩, ⟨c3⟩, ⟨c3⟩, ⟨c3⟩, ⟨c3⟩, ⟨c3⟩, ⟨(rfl : false = false)⟩, ⟨(nF c1)⟩, ⟨(nF c2)⟩, ⟨(nF c1)⟩, ⟨(nF c2)⟩, ⟨(nF c2)⟩, ⟨(nF c1)⟩, ⟨(nF c1)⟩, ⟨(nF c1)⟩, ⟨(ok_ref09_Right k x1 x2 x3 x4 _ e0)⟩] (by kernel_rfl)
        · rw [if_neg c3] at h
          replace c3 := eqf c3
          by_cases c4 : eqI x1 1 = true
          · rw [if_pos c4] at h
            by_cases c5 : x3 = true
            · rw [if_pos c5] at h
              by_cases c6 : eqI x5 2 = true
              · rw [if_pos c6] at h
                obtain ⟨x7, e7, h⟩ := Option.bind_eq_some_iff.1 h
                obtain rfl := Option.some.inj h
                exact Tri.of (x := X25) mixed facts25 [.call ⟨true, []⟩ (.bool x6) [], .d false, .d false, .d false, .d false, .d false, .d false, .d false, .d false, .d false, .d false, .d false, .d false, .d false, .d false, .d false, .d false, .d true, .d true, .d true, .d true, .d false, .d true, .d true, .d true, .d true, .d false, .d true, .d true, .d true, .d true, .call ⟨true, []⟩ (.sl 2 (List.map e_u8_i64 x7)) []] [⟨(ok_ref09_opposites k x2 _ e7)⟩, ⟨c5⟩, ⟨c6⟩, ⟨c6⟩, ⟨c6⟩, ⟨(nF c5)⟩, ⟨c2⟩, ⟨c2⟩, ⟨c2⟩, ⟨c2⟩, ⟨(nF c4)⟩, ⟨c2⟩, ⟨c2⟩, ⟨c2⟩, ⟨c2⟩, ⟨c3⟩, ⟨(rfl : false = false)⟩, ⟨c3⟩, ⟨c3⟩, ⟨c3⟩, ⟨c3⟩, ⟨c3⟩, ⟨(rfl : false = false)⟩, ⟨(nF c1)⟩, ⟨(nF c2)⟩, ⟨(nF c1)⟩, ⟨(nF c2)⟩, ⟨(nF c2)⟩, ⟨(nF c1)⟩, ⟨(nF c1)⟩, ⟨(nF c1)⟩, ⟨(ok_ref09_Right k x1 x2 x3 x4 _ e0)⟩] (by kernel_rfl)
              · rw [if_neg c6] at h
                replace c6 := eqf c6
                obtain rfl := Option.some.inj h
                exact Tri.of (x := X25) mixed facts25 [.call ⟨true, []⟩ (.bool x6) [], .d false, .d false, .d false, .d false, .d false, .d false, .d false, .d false, .d false, .d false, .d false, .d false, .d false, .d false, .d false, .d false, .d true, .d true, .d true, .d true, .d false, .d true, .d true, .d true, .d true, .d false, .d false, .d false, .d false, .d false, .norm 0 ⟨[(4, []), (5, [(0, 2)]), (6, [])], [⟨.tmp 4, [], none⟩], false, [], []⟩] [⟨(rfl : false = false)⟩, ⟨c6⟩, ⟨c6⟩, ⟨c6⟩, ⟨(nF c5)⟩, ⟨c2⟩, ⟨c2⟩, ⟨c2⟩, ⟨c2⟩, ⟨(nF c4)⟩, ⟨c2⟩, ⟨c2⟩, ⟨c2⟩, ⟨c2⟩, ⟨c3⟩, ⟨(rfl : false = false)⟩, ⟨c3⟩, ⟨c3⟩, ⟨c3⟩, ⟨c3⟩, ⟨c3⟩, ⟨(rfl : false = false)⟩, ⟨(nF c1)⟩, ⟨(nF c2)⟩, ⟨(nF c1)⟩, ⟨(nF c2)⟩, ⟨(nF c2)⟩, ⟨(nF c1)⟩, ⟨(nF c1)⟩, ⟨(nF c1)⟩, ⟨(ok_ref09_Right k x1 x2 x3 x4 _ e0)⟩] (by kernel_rfl)
            · rw [if_neg c5] at h
              replace c5 := eqf c5
              obtain rfl := Option.some.inj h
              exact Tri.of (x := X25) mixed facts25 [.call ⟨true, []⟩ (.bool x6) [], .d false, .d false, .d false, .d false, .d false, .d false, .d false, .d false, .d false, .d false, .d false, .d false, .d false, .d false, .d false, .d false, .d true, .d true, .d true, .d true, .d false, .d true, .d true, .d true, .d true, .d true] [⟨(nT c5)⟩, ⟨c2⟩, ⟨c2⟩, ⟨c2⟩, ⟨c2⟩, ⟨(nF c4)⟩, ⟨c2⟩, ⟨c2⟩, ⟨c2⟩, ⟨c2⟩, ⟨c3⟩, ⟨(rfl : false = false)⟩, ⟨c3⟩, ⟨c3⟩, ⟨c3⟩, ⟨c3⟩, ⟨c3⟩, ⟨(rfl : false = false)⟩, ⟨(nF c1)⟩, ⟨(nF c2)⟩, ⟨(nF c1)⟩, ⟨(nF c2)⟩, ⟨(nF c2)⟩, ⟨(nF c1)⟩, ⟨(nF c1)⟩, ⟨(nF c1)⟩, ⟨(ok_ref09_Right k x1 x2 x3 x4 _ e0)⟩] (by kernel_rfl)
          · rw [if_neg c4] at h
            replace c4 := eqf c4
            obtain rfl := Option.some.inj h
            exact Tri.of (x := X25) mixed facts25 [.call ⟨true, []⟩ (.bool x6) [], .d false, .d false, .d false, .d false, .d false, .d false, .d false, .d false, .d false, .d false, .d false, .d false, .d false, .d false, .d false, .d false, .d true, .d true, .d true, .d true, .d true, .norm 0 ⟨[(4, []), (5, [(0, 2)]), (6, [])], [⟨.tmp 4, [], none⟩], false, [], []⟩] [⟨(nT c4)⟩, ⟨c2⟩, ⟨c2⟩, ⟨c2⟩, ⟨c2⟩, ⟨c3⟩, ⟨(rfl : false = false)⟩, ⟨c3⟩, ⟨c3⟩, ⟨c3⟩, ⟨c3⟩, ⟨c3⟩, ⟨(rfl : false = false)⟩, ⟨(nF c1)⟩, ⟨(nF c2)⟩, ⟨(nF c1)⟩, ⟨(nF c2)⟩, ⟨(nF c2)⟩, ⟨(nF c1)⟩, ⟨(nF c1)⟩, ⟨(nF c1)⟩, ⟨(ok_ref09_Right k x1 x2 x3 x4 _ e0)⟩] (by kernel_rfl)
      · rw [if_neg c2] at h
        replace c2 := eqf c2
        by_cases c3 : eqI x5 2 = true
        · rw [if_pos c3] at h
          by_cases c4 : eqI x1 3 = true
          · rw [if_pos c4] at h
            by_cases c5 : eqI x4 x5 = true
            · rw [if_pos c5] at h
              obtain rfl := Option.some.inj h
              exact Tri.of (x := X25) mixed facts25 [.call ⟨true, []⟩ (.bool x6) [], .d false, .d false, .d false, .d true, .d true, .d false, .d true, .d false, .d false, .d true, .d true, .d true, .d true, .d true, .d true, .norm 0 ⟨[(4, []), (5, [(0, 2)]), (6, [])], [⟨.tmp 4, [], none⟩], false, [], []⟩] [⟨c5⟩, ⟨c4⟩, ⟨c4⟩, ⟨c4⟩, ⟨c4⟩, ⟨c4⟩, ⟨(nF c3)⟩, ⟨(nF c1)⟩, ⟨(nT c2)⟩, ⟨(nF c1)⟩, ⟨(nT c2)⟩, ⟨(nT c2)⟩, ⟨(nF c1)⟩, ⟨(nF c1)⟩, ⟨(nF c1)⟩, ⟨(ok_ref09_Right k x1 x2 x3 x4 _ e0)⟩] (by kernel_rfl)
            · rw [if_neg c5] at h
              replace c5 := eqf c5
              obtain rfl := Option.some.inj h
              exact Tri.of (x := X25) mixed facts25 [.call ⟨true, []⟩ (.bool x6) [], .d false, .d false, .d false, .d true, .d true, .d false, .d true, .d false, .d false, .d true, .d true, .d true, .d true, .d true, .d false, .d true, .d true, .norm 0 ⟨[(4, []), (5, [(0, 2)]), (6, [])], [⟨.tmp 4, [], none⟩], false, [], []⟩] [⟨c4⟩, ⟨c4⟩, ⟨c5⟩, ⟨c4⟩, ⟨c4⟩, ⟨c4⟩, ⟨c4⟩, ⟨c4⟩, ⟨(nF c3)⟩, ⟨(nF c1)⟩, ⟨(nT c2)⟩, ⟨(nF c1)⟩, ⟨(nT c2)⟩, ⟨(nT c2)⟩, ⟨(nF c1)⟩, ⟨(nF c1)⟩, ⟨(nF c1)⟩, ⟨(ok_ref09_Right k x1 x2 x3 x4 _ e0)⟩] (by kernel_rfl)
          · rw [if_neg c4] at h
            replace c4 := eqf c4
            by_cases c5 : x3 = true
            · rw [if_pos c5] at h
              obtain ⟨x7, e6, h⟩ := Option.bind_eq_some_iff.1 h
              obtain rfl := Option.some.inj h
              exact Tri.of (x := X25) mixed facts25 [.call ⟨true, []⟩ (.bool x6) [], .d false, .d false, .d false, .d true, .d true, .d false, .d true, .d false, .d false, .d false, .d false, .d false, .d false, .d false, .d false, .d false, .d false, .d false, .d false, .d false, .d false, .d false, .d false, .d false, .d false, .d false, .d true, .d true, .d true, .d true, .call ⟨true, []⟩ (.sl 2 (List.map e_u8_i64 x7)) []] [⟨(ok_ref09_opposites k x2 _ e6)⟩, ⟨c5⟩, ⟨c3⟩, ⟨c3⟩, ⟨c3⟩, ⟨(rfl : false = false)⟩, ⟨c2⟩, ⟨c2⟩, ⟨c2⟩, ⟨c2⟩, ⟨(rfl : false = false)⟩, ⟨c2⟩, ⟨c2⟩, ⟨c2⟩, ⟨c2⟩, ⟨c4⟩, ⟨(rfl : false = false)⟩, ⟨c4⟩, ⟨c4⟩, ⟨c4⟩, ⟨c4⟩, ⟨c4⟩, ⟨(nF c3)⟩, ⟨(nF c1)⟩, ⟨(nT c2)⟩, ⟨(nF c1)⟩, ⟨(nT c2)⟩, ⟨(nT c2)⟩, ⟨(nF c1)⟩, ⟨(nF c1)⟩, ⟨(nF c1)⟩, ⟨(ok_ref09_Right k x1 x2 x3 x4 _ e0)⟩] (by kernel_rfl)
            · rw [if_neg c5] at h
              replace c5 := eqf c5
              obtain rfl := Option.some.inj h
              exact Tri.of (x := X25) mixed facts25 [.call ⟨true, []⟩ (.bool x6) [], .d false, .d false, .d false, .d true, .d true, .d false, .d true, .d false, .d false, .d false, .d false, .d false, .d false, .d false, .d false, .d false, .d false, .d false, .d false, .d false, .d false, .d false, .d false, .d false, .d false, .d false, .d true, .d true, .d true, .d false, .norm 0 ⟨[(4, []), (5, [(0, 2)]), (6, [])], [⟨.tmp 4, [], none⟩], false, [], []⟩] [⟨c5⟩, ⟨c3⟩, ⟨c3⟩, ⟨c3⟩, ⟨(rfl : false = false)⟩, ⟨c2⟩, ⟨c2⟩, ⟨c2⟩, ⟨c2⟩, ⟨(rfl : false = false)⟩, ⟨c2⟩, ⟨c2⟩, ⟨c2⟩, ⟨c2⟩, ⟨c4⟩, ⟨(rfl : false = false)⟩, ⟨c4⟩, ⟨c4⟩, ⟨c4⟩, ⟨c4⟩, ⟨c4⟩, ⟨(nF c3)⟩, ⟨(nF c1)⟩, ⟨(nT c2)⟩, ⟨(nF c1)⟩, ⟨(nT c2)⟩, ⟨(nT c2)⟩, ⟨(nF c1)⟩, ⟨(nF c1)⟩, ⟨(nF c1)⟩, ⟨(ok_ref09_Right k x1 x2 x3 x4 _ e0)⟩] (by kernel_rfl)
        · rw [if_neg c3] at h
          replace c3 := eqf c3
          obtain rfl := Option.some.inj h
          exact Tri.of (x := X25) mixed facts25 [.call ⟨true, []⟩ (.bool x6) [], .d false, .d false, .d false, .d true, .d true, .d false, .d true, .d false, .d true, .norm 0 ⟨[(4, []), (5, [(0, 2)]), (6, [])], [⟨.tmp 4, [], none⟩], false, [], []⟩] [⟨(nT c3)⟩, ⟨(nF c1)⟩, ⟨(nT c2)⟩, ⟨(nF c1)⟩, ⟨(nT c2)⟩, ⟨(nT c2)⟩, ⟨(nF c1)⟩, ⟨(nF c1)⟩, ⟨(nF c1)⟩, ⟨(ok_ref09_Right k x1 x2 x3 x4 _ e0)⟩] (by kernel_rfl)
    · rw [if_neg c1] at h
      replace c1 := eqf c1
      obtain rfl := Option.some.inj h
      exact Tri.of (x := X25) mixed facts25 [.call ⟨true, []⟩ (.bool x6) [], .d true, .d true, .d true, .d true, .d true, .d true, .norm 0 ⟨[(4, []), (5, [(0, 2)]), (6, [])], [⟨.tmp 4, [], none⟩], false, [], []⟩] [⟨(rfl : true = true)⟩, ⟨(nT c1)⟩, ⟨(nT c1)⟩, ⟨(nT c1)⟩, ⟨(nT c1)⟩, ⟨(nT c1)⟩, ⟨(ok_ref09_Right k x1 x2 x3 x4 _ e0)⟩] (by kernel_rfl)
end Go.Ws
