/-
  ref09_Effect: what the machine makes of it. (Printed by my own program.)
  Conditions: none.
-/
import Derived.Test.YtnokdedppgmliaaZPre
import Derived.Test.YtnokdedppgmliaaZPure
import Derived.Test.YtnokdedppgmliaaZW13
import Derived.Test.YtnokdedppgmliaaZW32
set_option linter.unusedVariables false
set_option linter.unusedSimpArgs false
namespace Go.Ws
open Go.Proofs
set_option linter.unusedSimpArgs false
set_option linter.unusedVariables false
set_option maxRecDepth 1000000
set_option maxHeartbeats 4000000
noncomputable def X16 : Ctx := ⟨Try.f16, [], true⟩
theorem ok_ref09_Effect (k : Nat) (x1 : Int) (x2 : List (Int × Int)) (x3 : Bool) (x4 : Int) (r : (List (Int × Int))) (h : ref09_Effect k x1 x2 x3 x4 = some r) : Tri Try.prog 16 [(.agg [(.int .i64 x1), (.sl 2 (List.map e_u8_i64 x2)), (.bool x3), (.int .i64 x4)])] [] (.sl 2 (List.map e_u8_i64 r)) [] := by
    unfold ref09_Effect at h
    obtain ⟨x5, e0, h⟩ := Option.bind_eq_some_iff.1 h
    by_cases c1 : x5 = true
    · rw [if_pos c1] at h
      by_cases c2 : eqI x1 3 = true
      · rw [if_pos c2] at h
        by_cases c3 : eqI x4 1 = true
        · rw [if_pos c3] at h
          obtain rfl := Option.some.inj h
          exact Tri.of (x := X16) mixed facts16 [.call ⟨true, []⟩ (.bool x5) [], .d false, .d true, .d true, .d true, .d true, .d true, .d true] [⟨c3⟩, ⟨c3⟩, ⟨c2⟩, ⟨c2⟩, ⟨c2⟩, ⟨c2⟩, ⟨(nF c1)⟩, ⟨(ok_ref09_Right k x1 x2 x3 x4 _ e0)⟩] (by kernel_rfl)
        · rw [if_neg c3] at h
          replace c3 := eqf c3
          by_cases c4 : eqI x1 1 = true
          · rw [if_pos c4] at h
            by_cases c5 : x3 = true
            · rw [if_pos c5] at h
              obtain rfl := Option.some.inj h
              exact Tri.of (x := X16) mixed facts16 [.call ⟨true, []⟩ (.bool x5) [], .d false, .d true, .d true, .d true, .d true, .d false, .d true, .d true, .d true, .d true] [⟨c5⟩, ⟨c4⟩, ⟨c4⟩, ⟨c4⟩, ⟨c3⟩, ⟨c2⟩, ⟨c2⟩, ⟨c2⟩, ⟨c2⟩, ⟨(nF c1)⟩, ⟨(ok_ref09_Right k x1 x2 x3 x4 _ e0)⟩] (by kernel_rfl)
            · rw [if_neg c5] at h
              replace c5 := eqf c5
              obtain rfl := Option.some.inj h
              exact Tri.of (x := X16) mixed facts16 [.call ⟨true, []⟩ (.bool x5) [], .d false, .d true, .d true, .d true, .d true, .d false, .d true, .d true, .d true, .d false, .d true, .d true, .d true, .d false, .norm 0 ⟨[(2, [(0, 2)])], [], false, [], []⟩] [⟨c5⟩, ⟨c2⟩, ⟨c2⟩, ⟨c2⟩, ⟨c5⟩, ⟨c4⟩, ⟨c4⟩, ⟨c4⟩, ⟨c3⟩, ⟨c2⟩, ⟨c2⟩, ⟨c2⟩, ⟨c2⟩, ⟨(nF c1)⟩, ⟨(ok_ref09_Right k x1 x2 x3 x4 _ e0)⟩] (by kernel_rfl)
          · rw [if_neg c4] at h
            replace c4 := eqf c4
            by_cases c5 : x3 = true
            · rw [if_pos c5] at h
              by_cases c6 : roomI (x2.length * 16) = true
              · rw [if_pos c6] at h
                obtain ⟨x6, e7, h⟩ := Option.bind_eq_some_iff.1 h
                by_cases c8 : roomI (((x2 ++ x6).length) * 16) = true
                · rw [if_pos c8] at h
                  obtain rfl := Option.some.inj h
                  exact Tri.of (x := X16) mixed facts16 [.call ⟨true, []⟩ (.bool x5) [], .d false, .d true, .d true, .d true, .d true, .d false, .d false, .d false, .d false, .d false, .d true, .d true, .d true, .d true, .n x2.length, .call ⟨true, []⟩ (.sl 2 (List.map e_u8_i64 x6)) [], .n ((x2 ++ x6).length), .n x2.length, .d true, .rows (List.map e_u8_i64 (x2 ++ x6)), .rows (List.map e_u8_i64 (x2 ++ x6))] [⟨(part_all e_u8_i64 (l := (x2 ++ x6)) (n := ((x2 ++ x6).length)) rfl)⟩, ⟨(le_map e_u8_i64 (Nat.le_refl ((x2 ++ x6).length)) : 0 + (x2 ++ x6).length ≤ (List.map e_u8_i64 (x2 ++ x6)).length)⟩, ⟨(app_map e_u8_i64 x2 x6)⟩, ⟨(eqN_self x2.length)⟩, ⟨(len_map e_u8_i64 x2)⟩, ⟨c8⟩, ⟨(by simp only [List.length_append, List.length_cons, List.length_nil, List.length_take, List.length_drop, List.length_set, List.length_replicate, List.length_map, List.map_nil, List.map_cons] <;> omega : x2.length + (List.map e_u8_i64 x6).length = (x2 ++ x6).length)⟩, ⟨(ok_ref09_opposites k x2 _ e7)⟩, ⟨c6⟩, ⟨(len_map e_u8_i64 x2)⟩, ⟨c5⟩, ⟨c2⟩, ⟨c2⟩, ⟨c2⟩, ⟨(rfl : false = false)⟩, ⟨c4⟩, ⟨c4⟩, ⟨c4⟩, ⟨c3⟩, ⟨c2⟩, ⟨c2⟩, ⟨c2⟩, ⟨c2⟩, ⟨(nF c1)⟩, ⟨(ok_ref09_Right k x1 x2 x3 x4 _ e0)⟩] (by kernel_rfl)
                · rw [if_neg c8] at h
                  replace c8 := eqf c8
                  cases h
              · rw [if_neg c6] at h
                replace c6 := eqf c6
                cases h
            · rw [if_neg c5] at h
              replace c5 := eqf c5
              obtain rfl := Option.some.inj h
              exact Tri.of (x := X16) mixed facts16 [.call ⟨true, []⟩ (.bool x5) [], .d false, .d true, .d true, .d true, .d true, .d false, .d false, .d false, .d false, .d false, .d true, .d true, .d true, .d false, .norm 0 ⟨[(2, [(0, 2)])], [], false, [], []⟩] [⟨c5⟩, ⟨c2⟩, ⟨c2⟩, ⟨c2⟩, ⟨(rfl : false = false)⟩, ⟨c4⟩, ⟨c4⟩, ⟨c4⟩, ⟨c3⟩, ⟨c2⟩, ⟨c2⟩, ⟨c2⟩, ⟨c2⟩, ⟨(nF c1)⟩, ⟨(ok_ref09_Right k x1 x2 x3 x4 _ e0)⟩] (by kernel_rfl)
      · rw [if_neg c2] at h
        replace c2 := eqf c2
        by_cases c3 : eqI x1 1 = true
        · rw [if_pos c3] at h
          by_cases c4 : x3 = true
          · rw [if_pos c4] at h
            obtain rfl := Option.some.inj h
            exact Tri.of (x := X16) mixed facts16 [.call ⟨true, []⟩ (.bool x5) [], .d false, .d false, .d false, .d false, .d false, .d false, .d true, .d true, .d true, .d true] [⟨c4⟩, ⟨c3⟩, ⟨c3⟩, ⟨c3⟩, ⟨(rfl : false = false)⟩, ⟨c2⟩, ⟨c2⟩, ⟨c2⟩, ⟨c2⟩, ⟨(nF c1)⟩, ⟨(ok_ref09_Right k x1 x2 x3 x4 _ e0)⟩] (by kernel_rfl)
          · rw [if_neg c4] at h
            replace c4 := eqf c4
            obtain rfl := Option.some.inj h
            exact Tri.of (x := X16) mixed facts16 [.call ⟨true, []⟩ (.bool x5) [], .d false, .d false, .d false, .d false, .d false, .d false, .d true, .d true, .d true, .d false, .d false, .d false, .d false, .d false, .norm 0 ⟨[(2, [(0, 2)])], [], false, [], []⟩] [⟨(rfl : false = false)⟩, ⟨c2⟩, ⟨c2⟩, ⟨c2⟩, ⟨c4⟩, ⟨c3⟩, ⟨c3⟩, ⟨c3⟩, ⟨(rfl : false = false)⟩, ⟨c2⟩, ⟨c2⟩, ⟨c2⟩, ⟨c2⟩, ⟨(nF c1)⟩, ⟨(ok_ref09_Right k x1 x2 x3 x4 _ e0)⟩] (by kernel_rfl)
        · rw [if_neg c3] at h
          replace c3 := eqf c3
          obtain rfl := Option.some.inj h
          exact Tri.of (x := X16) mixed facts16 [.call ⟨true, []⟩ (.bool x5) [], .d false, .d false, .d false, .d false, .d false, .d false, .d false, .d false, .d false, .d false, .d false, .d false, .d false, .d false, .norm 0 ⟨[(2, [(0, 2)])], [], false, [], []⟩] [⟨(rfl : false = false)⟩, ⟨c2⟩, ⟨c2⟩, ⟨c2⟩, ⟨(rfl : false = false)⟩, ⟨c3⟩, ⟨c3⟩, ⟨c3⟩, ⟨(rfl : false = false)⟩, ⟨c2⟩, ⟨c2⟩, ⟨c2⟩, ⟨c2⟩, ⟨(nF c1)⟩, ⟨(ok_ref09_Right k x1 x2 x3 x4 _ e0)⟩] (by kernel_rfl)
    · rw [if_neg c1] at h
      replace c1 := eqf c1
      obtain rfl := Option.some.inj h
      exact Tri.of (x := X16) mixed facts16 [.call ⟨true, []⟩ (.bool x5) [], .d true, .norm 0 ⟨[(2, [(0, 2)])], [], false, [], []⟩] [⟨(nT c1)⟩, ⟨(ok_ref09_Right k x1 x2 x3 x4 _ e0)⟩] (by kernel_rfl)
end Go.Ws
