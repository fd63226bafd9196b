/-
  part_Effect: what the machine makes of it. (Printed by my own program.)
  Conditions: none.
-/
import Derived.Test.YtnokdedppgmliaaZPre
import Derived.Test.YtnokdedppgmliaaZPure
import Derived.Test.YtnokdedppgmliaaZW12
import Derived.Test.YtnokdedppgmliaaZW29
import Derived.Test.YtnokdedppgmliaaZW30
import Derived.Test.YtnokdedppgmliaaZW31
set_option linter.unusedVariables false
set_option linter.unusedSimpArgs false
namespace Go.Ws
open Go.Proofs
set_option linter.unusedSimpArgs false
set_option linter.unusedVariables false
set_option maxRecDepth 1000000
set_option maxHeartbeats 4000000
noncomputable def X15 : Ctx := ⟨Try.f15, [], true⟩
theorem ok_part_Effect (k : Nat) (x1 : Int) (x2 : List (Int × Int)) (x3 : Bool) (x4 : Int) (r : (List (Int × Int))) (h : part_Effect k x1 x2 x3 x4 = some r) : Tri Try.prog 15 [(.agg [(.int .i64 x1), (.sl 2 (List.map e_u8_i64 x2)), (.bool x3), (.int .i64 x4)])] [] (.sl 2 (List.map e_u8_i64 r)) [] := by
    unfold part_Effect at h
    obtain ⟨x5, e0, h⟩ := Option.bind_eq_some_iff.1 h
    by_cases c1 : x5 = true
    · rw [if_pos c1] at h
      by_cases c2 : eqI x4 1 = true
      · rw [if_pos c2] at h
        obtain ⟨x6, e3, h⟩ := Option.bind_eq_some_iff.1 h
        obtain rfl := Option.some.inj h
        exact Tri.of (x := X15) mixed facts15 [.call ⟨true, []⟩ (.bool x5) [], .d false, .d true, .d true, .d true, .d true, .d true, .d true, .d true, .call ⟨true, []⟩ (.ref 2 0 0 0 x2.length .virt) [(.arr 2 (List.map e_u8_i64 x2) 0 0 false)], .rows (List.map e_u8_i64 x2)] [⟨(part_all e_u8_i64 (l := x2) (n := x2.length) rfl)⟩, ⟨(le_map e_u8_i64 (Nat.le_refl x2.length) : 0 + x2.length ≤ (List.map e_u8_i64 x2).length)⟩, ⟨(ok_slices_Clone k x2 _ e3)⟩, ⟨(rfl : true = true)⟩, ⟨c2⟩, ⟨c2⟩, ⟨c2⟩, ⟨c2⟩, ⟨c2⟩, ⟨c2⟩, ⟨(nF c1)⟩, ⟨(ok_part_Right k x1 x2 x3 x4 _ e0)⟩] (by kernel_rfl)
      · rw [if_neg c2] at h
        replace c2 := eqf c2
        by_cases c3 : eqI x1 1 = true
        · rw [if_pos c3] at h
          by_cases c4 : x3 = true
          · rw [if_pos c4] at h
            obtain ⟨x6, e5, h⟩ := Option.bind_eq_some_iff.1 h
            obtain rfl := Option.some.inj h
            exact Tri.of (x := X15) mixed facts15 [.call ⟨true, []⟩ (.bool x5) [], .d false, .d false, .d false, .d false, .d false, .d true, .d true, .d false, .d true, .d false, .d true, .call ⟨true, []⟩ (.ref 2 0 0 0 x2.length .virt) [(.arr 2 (List.map e_u8_i64 x2) 0 0 false)], .rows (List.map e_u8_i64 x2)] [⟨(part_all e_u8_i64 (l := x2) (n := x2.length) rfl)⟩, ⟨(le_map e_u8_i64 (Nat.le_refl x2.length) : 0 + x2.length ≤ (List.map e_u8_i64 x2).length)⟩, ⟨(ok_slices_Clone k x2 _ e5)⟩, ⟨c4⟩, ⟨c2⟩, ⟨c3⟩, ⟨c2⟩, ⟨c3⟩, ⟨c3⟩, ⟨c2⟩, ⟨c2⟩, ⟨c2⟩, ⟨c2⟩, ⟨(nF c1)⟩, ⟨(ok_part_Right k x1 x2 x3 x4 _ e0)⟩] (by kernel_rfl)
          · rw [if_neg c4] at h
            replace c4 := eqf c4
            by_cases c5 : eqI x1 3 = true
            · rw [if_pos c5] at h
              obtain rfl := Option.some.inj h
              exact Tri.of (x := X15) mixed facts15 [.call ⟨true, []⟩ (.bool x5) [], .d false, .d false, .d false, .d false, .d false, .d true, .d true, .d false, .d true, .d false, .d false, .d true, .d true, .d true, .d false, .norm 0 ⟨[(2, [(0, 2)])], [], false, [], []⟩] [⟨c4⟩, ⟨c5⟩, ⟨c5⟩, ⟨c5⟩, ⟨c4⟩, ⟨c2⟩, ⟨c3⟩, ⟨c2⟩, ⟨c3⟩, ⟨c3⟩, ⟨c2⟩, ⟨c2⟩, ⟨c2⟩, ⟨c2⟩, ⟨(nF c1)⟩, ⟨(ok_part_Right k x1 x2 x3 x4 _ e0)⟩] (by kernel_rfl)
            · rw [if_neg c5] at h
              replace c5 := eqf c5
              obtain rfl := Option.some.inj h
              exact Tri.of (x := X15) mixed facts15 [.call ⟨true, []⟩ (.bool x5) [], .d false, .d false, .d false, .d false, .d false, .d true, .d true, .d false, .d true, .d false, .d false, .d false, .d false, .d false, .d false, .norm 0 ⟨[(2, [(0, 2)])], [], false, [], []⟩] [⟨(rfl : false = false)⟩, ⟨c5⟩, ⟨c5⟩, ⟨c5⟩, ⟨c4⟩, ⟨c2⟩, ⟨c3⟩, ⟨c2⟩, ⟨c3⟩, ⟨c3⟩, ⟨c2⟩, ⟨c2⟩, ⟨c2⟩, ⟨c2⟩, ⟨(nF c1)⟩, ⟨(ok_part_Right k x1 x2 x3 x4 _ e0)⟩] (by kernel_rfl)
        · rw [if_neg c3] at h
          replace c3 := eqf c3
          by_cases c4 : eqI x1 3 = true
          · rw [if_pos c4] at h
            by_cases c5 : x3 = true
            · rw [if_pos c5] at h
              obtain ⟨x6, e6, h⟩ := Option.bind_eq_some_iff.1 h
              obtain ⟨x7, e7, h⟩ := Option.bind_eq_some_iff.1 h
              obtain rfl := Option.some.inj h
              exact Tri.of (x := X15) mixed facts15 [.call ⟨true, []⟩ (.bool x5) [], .d false, .d false, .d false, .d false, .d false, .d false, .d false, .d false, .d false, .d false, .d false, .d true, .d true, .d true, .d true, .call ⟨true, []⟩ (.sl 2 (List.map e_u8_i64 x6)) [], .call ⟨true, []⟩ (.sl 2 (List.map e_u8_i64 x7)) [], .rows (List.map e_Lu8i64E [x2, x6])] [⟨(ok_slices_Concat k [x2, x6] _ e7)⟩, ⟨(part_all e_Lu8i64E (l := [x2, x6]) (n := 2) rfl)⟩, ⟨(le_map e_Lu8i64E (Nat.le_refl 2) : 0 + 2 ≤ (List.map e_Lu8i64E [x2, x6]).length)⟩, ⟨(ok_part_opposites k x2 _ e6)⟩, ⟨c5⟩, ⟨c4⟩, ⟨c4⟩, ⟨c4⟩, ⟨(rfl : false = false)⟩, ⟨c2⟩, ⟨c3⟩, ⟨c2⟩, ⟨c3⟩, ⟨c3⟩, ⟨c2⟩, ⟨c2⟩, ⟨c2⟩, ⟨c2⟩, ⟨(nF c1)⟩, ⟨(ok_part_Right k x1 x2 x3 x4 _ e0)⟩] (by kernel_rfl)
            · rw [if_neg c5] at h
              replace c5 := eqf c5
              obtain rfl := Option.some.inj h
              exact Tri.of (x := X15) mixed facts15 [.call ⟨true, []⟩ (.bool x5) [], .d false, .d false, .d false, .d false, .d false, .d false, .d false, .d false, .d false, .d false, .d false, .d true, .d true, .d true, .d false, .norm 0 ⟨[(2, [(0, 2)])], [], false, [], []⟩] [⟨c5⟩, ⟨c4⟩, ⟨c4⟩, ⟨c4⟩, ⟨(rfl : false = false)⟩, ⟨c2⟩, ⟨c3⟩, ⟨c2⟩, ⟨c3⟩, ⟨c3⟩, ⟨c2⟩, ⟨c2⟩, ⟨c2⟩, ⟨c2⟩, ⟨(nF c1)⟩, ⟨(ok_part_Right k x1 x2 x3 x4 _ e0)⟩] (by kernel_rfl)
          · rw [if_neg c4] at h
            replace c4 := eqf c4
            obtain rfl := Option.some.inj h
            exact Tri.of (x := X15) mixed facts15 [.call ⟨true, []⟩ (.bool x5) [], .d false, .d false, .d false, .d false, .d false, .d false, .d false, .d false, .d false, .d false, .d false, .d false, .d false, .d false, .d false, .norm 0 ⟨[(2, [(0, 2)])], [], false, [], []⟩] [⟨(rfl : false = false)⟩, ⟨c4⟩, ⟨c4⟩, ⟨c4⟩, ⟨(rfl : false = false)⟩, ⟨c2⟩, ⟨c3⟩, ⟨c2⟩, ⟨c3⟩, ⟨c3⟩, ⟨c2⟩, ⟨c2⟩, ⟨c2⟩, ⟨c2⟩, ⟨(nF c1)⟩, ⟨(ok_part_Right k x1 x2 x3 x4 _ e0)⟩] (by kernel_rfl)
    · rw [if_neg c1] at h
      replace c1 := eqf c1
      obtain rfl := Option.some.inj h
      exact Tri.of (x := X15) mixed facts15 [.call ⟨true, []⟩ (.bool x5) [], .d true, .norm 0 ⟨[(2, [(0, 2)])], [], false, [], []⟩] [⟨(nT c1)⟩, ⟨(ok_part_Right k x1 x2 x3 x4 _ e0)⟩] (by kernel_rfl)
end Go.Ws
