/-
  part_Decide: what the machine makes of it. (Printed by my own program.)
  Conditions: none.
-/
import Derived.Test.YtnokdedppgmliaaZPre
import Derived.Test.YtnokdedppgmliaaZPure
import Derived.Test.YtnokdedppgmliaaZW12
import Derived.Test.YtnokdedppgmliaaZW29
import Derived.Test.YtnokdedppgmliaaZW31_1
import Derived.Test.YtnokdedppgmliaaZW34
set_option linter.unusedVariables false
set_option linter.unusedSimpArgs false
namespace Go.Ws
open Go.Proofs
set_option linter.unusedSimpArgs false
set_option linter.unusedVariables false
set_option maxRecDepth 1000000
set_option maxHeartbeats 4000000
noncomputable def X19 : Ctx := ⟨Try.f19, [], true⟩
theorem ok_part_Decide (k : Nat) (x1 : Int) (x2 : List (Int × Int)) (x3 : Bool) (x4 : Int) (x5 : Int) (r : Int × (List (Int × Int)) × Bool × Int × (List (Int × Int)) × Int) (h : part_Decide k x1 x2 x3 x4 x5 = some r) : Tri Try.prog 19 [(.agg [(.int .i64 x1), (.sl 2 (List.map e_u8_i64 x2)), (.bool x3), (.int .i64 x4)]), (.int .i64 x5)] [] (.tup [(.agg [(.int .i64 r.1), (.sl 2 (List.map e_u8_i64 r.2.1)), (.bool r.2.2.1), (.int .i64 r.2.2.2.1)]), (.sl 2 (List.map e_u8_i64 r.2.2.2.2.1)), (.int .i64 r.2.2.2.2.2)]) [] := by
    unfold part_Decide at h
    obtain ⟨x6, e0, h⟩ := Option.bind_eq_some_iff.1 h
    obtain ⟨x7, e1, h⟩ := Option.bind_eq_some_iff.1 h
    by_cases c2 : x7 = true
    · rw [if_pos c2] at h
      by_cases c3 : eqI x5 1 = true
      · rw [if_pos c3] at h
        by_cases c4 : eqI x6.2.2.2 x5 = true
        · rw [if_pos c4] at h
          obtain rfl := Option.some.inj h
          exact Tri.of (x := X19) mixed facts19 [.call ⟨true, []⟩ (.agg [(.int .i64 x6.1), (.sl 2 (List.map e_u8_i64 x6.2.1)), (.bool x6.2.2.1), (.int .i64 x6.2.2.2)]) [], .call ⟨true, []⟩ (.bool x7) [], .d false, .d false, .d false, .d false, .d false, .d false, .d false, .d false, .d false, .d true, .norm 0 ⟨[(4, []), (5, [(0, 2)]), (6, [])], [⟨.tmp 4, [], none⟩], false, [], []⟩] [⟨c4⟩, ⟨(rfl : false = false)⟩, ⟨(nF c2)⟩, ⟨(nF c3)⟩, ⟨(nF c2)⟩, ⟨(nF c3)⟩, ⟨(nF c3)⟩, ⟨(nF c2)⟩, ⟨(nF c2)⟩, ⟨(nF c2)⟩, ⟨(ok_part_Right k x6.1 x6.2.1 x6.2.2.1 x6.2.2.2 _ e1)⟩, ⟨(ok_part_Part_own k x1 x2 x3 x4 _ e0)⟩] (by kernel_rfl)
        · rw [if_neg c4] at h
          replace c4 := eqf c4
          by_cases c5 : eqI x6.1 3 = true
          · rw [if_pos c5] at h
            obtain rfl := Option.some.inj h
            exact Tri.of (x := X19) mixed facts19 [.call ⟨true, []⟩ (.agg [(.int .i64 x6.1), (.sl 2 (List.map e_u8_i64 x6.2.1)), (.bool x6.2.2.1), (.int .i64 x6.2.2.2)]) [], .call ⟨true, []⟩ (.bool x7) [], .d false, .d false, .d false, .d false, .d false, .d false, .d false, .d false, .d false, .d false, .d true, .d true, .d true, .d true, .d true, .d true, .norm 0 ⟨[(4, []), (5, [(0, 2)]), (6, [])], [⟨.tmp 4, [], none⟩], false, [], []⟩] [⟨(rfl : true = true)⟩, ⟨c5⟩, ⟨c5⟩, ⟨c5⟩, ⟨c5⟩, ⟨c5⟩, ⟨c4⟩, ⟨(rfl : false = false)⟩, ⟨(nF c2)⟩, ⟨(nF c3)⟩, ⟨(nF c2)⟩, ⟨(nF c3)⟩, ⟨(nF c3)⟩, ⟨(nF c2)⟩, ⟨(nF c2)⟩, ⟨(nF c2)⟩, ⟨(ok_part_Right k x6.1 x6.2.1 x6.2.2.1 x6.2.2.2 _ e1)⟩, ⟨(ok_part_Part_own k x1 x2 x3 x4 _ e0)⟩] (by kernel_rfl)
          · rw [if_neg c5] at h
            replace c5 := eqf c5
            by_cases c6 : eqI x6.1 1 = true
            · rw [if_pos c6] at h
              by_cases c7 : eqB (eqI x5 1) x6.2.2.1 = true
              · rw [if_pos c7] at h
                obtain rfl := Option.some.inj h
                exact Tri.of (x := X19) mixed facts19 [.call ⟨true, []⟩ (.agg [(.int .i64 x6.1), (.sl 2 (List.map e_u8_i64 x6.2.1)), (.bool x6.2.2.1), (.int .i64 x6.2.2.2)]) [], .call ⟨true, []⟩ (.bool x7) [], .d false, .d false, .d false, .d false, .d false, .d false, .d false, .d false, .d false, .d false, .d false, .d false, .d false, .d true, .d true, .d true, .d false, .d true, .d false, .d false, .d true, .norm 0 ⟨[(4, []), (5, [(0, 2)]), (6, [])], [⟨.tmp 4, [], none⟩], false, [], []⟩] [⟨c7⟩, ⟨(nF c6)⟩, ⟨c5⟩, ⟨c3⟩, ⟨c5⟩, ⟨c3⟩, ⟨c3⟩, ⟨c3⟩, ⟨c5⟩, ⟨c5⟩, ⟨c5⟩, ⟨c4⟩, ⟨(rfl : false = false)⟩, ⟨(nF c2)⟩, ⟨(nF c3)⟩, ⟨(nF c2)⟩, ⟨(nF c3)⟩, ⟨(nF c3)⟩, ⟨(nF c2)⟩, ⟨(nF c2)⟩, ⟨(nF c2)⟩, ⟨(ok_part_Right k x6.1 x6.2.1 x6.2.2.1 x6.2.2.2 _ e1)⟩, ⟨(ok_part_Part_own k x1 x2 x3 x4 _ e0)⟩] (by kernel_rfl)
              · rw [if_neg c7] at h
                replace c7 := eqf c7
                by_cases c8 : x6.2.2.1 = true
                · rw [if_pos c8] at h
                  obtain ⟨x8, e9, h⟩ := Option.bind_eq_some_iff.1 h
                  obtain rfl := Option.some.inj h
                  exact Tri.of (x := X19) mixed facts19 [.call ⟨true, []⟩ (.agg [(.int .i64 x6.1), (.sl 2 (List.map e_u8_i64 x6.2.1)), (.bool x6.2.2.1), (.int .i64 x6.2.2.2)]) [], .call ⟨true, []⟩ (.bool x7) [], .d false, .d false, .d false, .d false, .d false, .d false, .d false, .d false, .d false, .d false, .d false, .d false, .d false, .d true, .d true, .d true, .d false, .d true, .d false, .d false, .d false, .d true, .call ⟨true, []⟩ (.ref 2 0 0 0 x8.length .virt) [(.arr 2 (List.map e_u8_i64 x8) 0 0 false)], .rows (List.map e_u8_i64 x8)] [⟨(part_all e_u8_i64 (l := x8) (n := x8.length) rfl)⟩, ⟨(le_map e_u8_i64 (Nat.le_refl x8.length) : 0 + x8.length ≤ (List.map e_u8_i64 x8).length)⟩, ⟨(ok_part_opposites_1 k x6.2.1 _ e9)⟩, ⟨c8⟩, ⟨c7⟩, ⟨(nF c6)⟩, ⟨c5⟩, ⟨c3⟩, ⟨c5⟩, ⟨c3⟩, ⟨c3⟩, ⟨c3⟩, ⟨c5⟩, ⟨c5⟩, ⟨c5⟩, ⟨c4⟩, ⟨(rfl : false = false)⟩, ⟨(nF c2)⟩, ⟨(nF c3)⟩, ⟨(nF c2)⟩, ⟨(nF c3)⟩, ⟨(nF c3)⟩, ⟨(nF c2)⟩, ⟨(nF c2)⟩, ⟨(nF c2)⟩, ⟨(ok_part_Right k x6.1 x6.2.1 x6.2.2.1 x6.2.2.2 _ e1)⟩, ⟨(ok_part_Part_own k x1 x2 x3 x4 _ e0)⟩] (by kernel_rfl)
                · rw [if_neg c8] at h
                  replace c8 := eqf c8
                  obtain ⟨x8, e9, h⟩ := Option.bind_eq_some_iff.1 h
                  obtain rfl := Option.some.inj h
                  exact Tri.of (x := X19) mixed facts19 [.call ⟨true, []⟩ (.agg [(.int .i64 x6.1), (.sl 2 (List.map e_u8_i64 x6.2.1)), (.bool x6.2.2.1), (.int .i64 x6.2.2.2)]) [], .call ⟨true, []⟩ (.bool x7) [], .d false, .d false, .d false, .d false, .d false, .d false, .d false, .d false, .d false, .d false, .d false, .d false, .d false, .d true, .d true, .d true, .d false, .d true, .d false, .d false, .d false, .d false, .call ⟨true, []⟩ (.ref 2 0 0 0 x6.2.1.length .virt) [(.arr 2 (List.map e_u8_i64 x6.2.1) 0 0 false)], .rows (List.map e_u8_i64 x6.2.1)] [⟨(part_all e_u8_i64 (l := x6.2.1) (n := x6.2.1.length) rfl)⟩, ⟨(le_map e_u8_i64 (Nat.le_refl x6.2.1.length) : 0 + x6.2.1.length ≤ (List.map e_u8_i64 x6.2.1).length)⟩, ⟨(ok_slices_Clone k x6.2.1 _ e9)⟩, ⟨c8⟩, ⟨c7⟩, ⟨(nF c6)⟩, ⟨c5⟩, ⟨c3⟩, ⟨c5⟩, ⟨c3⟩, ⟨c3⟩, ⟨c3⟩, ⟨c5⟩, ⟨c5⟩, ⟨c5⟩, ⟨c4⟩, ⟨(rfl : false = false)⟩, ⟨(nF c2)⟩, ⟨(nF c3)⟩, ⟨(nF c2)⟩, ⟨(nF c3)⟩, ⟨(nF c3)⟩, ⟨(nF c2)⟩, ⟨(nF c2)⟩, ⟨(nF c2)⟩, ⟨(ok_part_Right k x6.1 x6.2.1 x6.2.2.1 x6.2.2.2 _ e1)⟩, ⟨(ok_part_Part_own k x1 x2 x3 x4 _ e0)⟩] (by kernel_rfl)
            · rw [if_neg c6] at h
              replace c6 := eqf c6
              obtain rfl := Option.some.inj h
              exact Tri.of (x := X19) mixed facts19 [.call ⟨true, []⟩ (.agg [(.int .i64 x6.1), (.sl 2 (List.map e_u8_i64 x6.2.1)), (.bool x6.2.2.1), (.int .i64 x6.2.2.2)]) [], .call ⟨true, []⟩ (.bool x7) [], .d false, .d false, .d false, .d false, .d false, .d false, .d false, .d false, .d false, .d false, .d false, .d false, .d false, .d true, .d true, .d true, .d false, .d true, .d false, .d true, .norm 0 ⟨[(4, []), (5, [(0, 2)]), (6, [])], [⟨.tmp 4, [], none⟩], false, [], []⟩] [⟨(nT c6)⟩, ⟨c5⟩, ⟨c3⟩, ⟨c5⟩, ⟨c3⟩, ⟨c3⟩, ⟨c3⟩, ⟨c5⟩, ⟨c5⟩, ⟨c5⟩, ⟨c4⟩, ⟨(rfl : false = false)⟩, ⟨(nF c2)⟩, ⟨(nF c3)⟩, ⟨(nF c2)⟩, ⟨(nF c3)⟩, ⟨(nF c3)⟩, ⟨(nF c2)⟩, ⟨(nF c2)⟩, ⟨(nF c2)⟩, ⟨(ok_part_Right k x6.1 x6.2.1 x6.2.2.1 x6.2.2.2 _ e1)⟩, ⟨(ok_part_Part_own k x1 x2 x3 x4 _ e0)⟩] (by kernel_rfl)
      · rw [if_neg c3] at h
        replace c3 := eqf c3
        by_cases c4 : eqI x5 2 = true
        · rw [if_pos c4] at h
          by_cases c5 : eqI x6.2.2.2 x5 = true
          · rw [if_pos c5] at h
            obtain rfl := Option.some.inj h
            exact Tri.of (x := X19) mixed facts19 [.call ⟨true, []⟩ (.agg [(.int .i64 x6.1), (.sl 2 (List.map e_u8_i64 x6.2.1)), (.bool x6.2.2.1), (.int .i64 x6.2.2.2)]) [], .call ⟨true, []⟩ (.bool x7) [], .d false, .d false, .d false, .d true, .d true, .d false, .d true, .d false, .d false, .d true, .norm 0 ⟨[(4, []), (5, [(0, 2)]), (6, [])], [⟨.tmp 4, [], none⟩], false, [], []⟩] [⟨c5⟩, ⟨(nF c4)⟩, ⟨(nF c2)⟩, ⟨(nT c3)⟩, ⟨(nF c2)⟩, ⟨(nT c3)⟩, ⟨(nT c3)⟩, ⟨(nF c2)⟩, ⟨(nF c2)⟩, ⟨(nF c2)⟩, ⟨(ok_part_Right k x6.1 x6.2.1 x6.2.2.1 x6.2.2.2 _ e1)⟩, ⟨(ok_part_Part_own k x1 x2 x3 x4 _ e0)⟩] (by kernel_rfl)
          · rw [if_neg c5] at h
            replace c5 := eqf c5
            by_cases c6 : eqI x6.1 3 = true
            · rw [if_pos c6] at h
              obtain rfl := Option.some.inj h
              exact Tri.of (x := X19) mixed facts19 [.call ⟨true, []⟩ (.agg [(.int .i64 x6.1), (.sl 2 (List.map e_u8_i64 x6.2.1)), (.bool x6.2.2.1), (.int .i64 x6.2.2.2)]) [], .call ⟨true, []⟩ (.bool x7) [], .d false, .d false, .d false, .d true, .d true, .d false, .d true, .d false, .d false, .d false, .d true, .d true, .d true, .d true, .d true, .d true, .norm 0 ⟨[(4, []), (5, [(0, 2)]), (6, [])], [⟨.tmp 4, [], none⟩], false, [], []⟩] [⟨(rfl : true = true)⟩, ⟨c6⟩, ⟨c6⟩, ⟨c6⟩, ⟨c6⟩, ⟨c6⟩, ⟨c5⟩, ⟨(nF c4)⟩, ⟨(nF c2)⟩, ⟨(nT c3)⟩, ⟨(nF c2)⟩, ⟨(nT c3)⟩, ⟨(nT c3)⟩, ⟨(nF c2)⟩, ⟨(nF c2)⟩, ⟨(nF c2)⟩, ⟨(ok_part_Right k x6.1 x6.2.1 x6.2.2.1 x6.2.2.2 _ e1)⟩, ⟨(ok_part_Part_own k x1 x2 x3 x4 _ e0)⟩] (by kernel_rfl)
            · rw [if_neg c6] at h
              replace c6 := eqf c6
              by_cases c7 : eqB (eqI x5 1) x6.2.2.1 = true
              · rw [if_pos c7] at h
                obtain rfl := Option.some.inj h
                exact Tri.of (x := X19) mixed facts19 [.call ⟨true, []⟩ (.agg [(.int .i64 x6.1), (.sl 2 (List.map e_u8_i64 x6.2.1)), (.bool x6.2.2.1), (.int .i64 x6.2.2.2)]) [], .call ⟨true, []⟩ (.bool x7) [], .d false, .d false, .d false, .d true, .d true, .d false, .d true, .d false, .d false, .d false, .d false, .d false, .d false, .d false, .d false, .d false, .d false, .d false, .d false, .d false, .d true, .norm 0 ⟨[(4, []), (5, [(0, 2)]), (6, [])], [⟨.tmp 4, [], none⟩], false, [], []⟩] [⟨c7⟩, ⟨(rfl : false = false)⟩, ⟨c6⟩, ⟨c3⟩, ⟨c6⟩, ⟨c3⟩, ⟨c3⟩, ⟨c3⟩, ⟨c6⟩, ⟨c6⟩, ⟨c6⟩, ⟨c5⟩, ⟨(nF c4)⟩, ⟨(nF c2)⟩, ⟨(nT c3)⟩, ⟨(nF c2)⟩, ⟨(nT c3)⟩, ⟨(nT c3)⟩, ⟨(nF c2)⟩, ⟨(nF c2)⟩, ⟨(nF c2)⟩, ⟨(ok_part_Right k x6.1 x6.2.1 x6.2.2.1 x6.2.2.2 _ e1)⟩, ⟨(ok_part_Part_own k x1 x2 x3 x4 _ e0)⟩] (by kernel_rfl)
              · rw [if_neg c7] at h
                replace c7 := eqf c7
                by_cases c8 : x6.2.2.1 = true
                · rw [if_pos c8] at h
                  obtain ⟨x8, e9, h⟩ := Option.bind_eq_some_iff.1 h
                  obtain rfl := Option.some.inj h
                  exact Tri.of (x := X19) mixed facts19 [.call ⟨true, []⟩ (.agg [(.int .i64 x6.1), (.sl 2 (List.map e_u8_i64 x6.2.1)), (.bool x6.2.2.1), (.int .i64 x6.2.2.2)]) [], .call ⟨true, []⟩ (.bool x7) [], .d false, .d false, .d false, .d true, .d true, .d false, .d true, .d false, .d false, .d false, .d false, .d false, .d false, .d false, .d false, .d false, .d false, .d false, .d false, .d false, .d false, .d true, .call ⟨true, []⟩ (.ref 2 0 0 0 x8.length .virt) [(.arr 2 (List.map e_u8_i64 x8) 0 0 false)], .rows (List.map e_u8_i64 x8)] [⟨(part_all e_u8_i64 (l := x8) (n := x8.length) rfl)⟩, ⟨(le_map e_u8_i64 (Nat.le_refl x8.length) : 0 + x8.length ≤ (List.map e_u8_i64 x8).length)⟩, ⟨(ok_part_opposites_1 k x6.2.1 _ e9)⟩, ⟨c8⟩, ⟨c7⟩, ⟨(rfl : false = false)⟩, ⟨c6⟩, ⟨c3⟩, ⟨c6⟩, ⟨c3⟩, ⟨c3⟩, ⟨c3⟩, ⟨c6⟩, ⟨c6⟩, ⟨c6⟩, ⟨c5⟩, ⟨(nF c4)⟩, ⟨(nF c2)⟩, ⟨(nT c3)⟩, ⟨(nF c2)⟩, ⟨(nT c3)⟩, ⟨(nT c3)⟩, ⟨(nF c2)⟩, ⟨(nF c2)⟩, ⟨(nF c2)⟩, ⟨(ok_part_Right k x6.1 x6.2.1 x6.2.2.1 x6.2.2.2 _ e1)⟩, ⟨(ok_part_Part_own k x1 x2 x3 x4 _ e0)⟩] (by kernel_rfl)
                · rw [if_neg c8] at h
                  replace c8 := eqf c8
                  obtain ⟨x8, e9, h⟩ := Option.bind_eq_some_iff.1 h
                  obtain rfl := Option.some.inj h
                  exact Tri.of (x := X19) mixed facts19 [.call ⟨true, []⟩ (.agg [(.int .i64 x6.1), (.sl 2 (List.map e_u8_i64 x6.2.1)), (.bool x6.2.2.1), (.int .i64 x6.2.2.2)]) [], .call ⟨true, []⟩ (.bool x7) [], .d false, .d false, .d false, .d true, .d true, .d false, .d true, .d false, .d false, .d false, .d false, .d false, .d false, .d false, .d false, .d false, .d false, .d false, .d false, .d false, .d false, .d false, .call ⟨true, []⟩ (.ref 2 0 0 0 x6.2.1.length .virt) [(.arr 2 (List.map e_u8_i64 x6.2.1) 0 0 false)], .rows (List.map e_u8_i64 x6.2.1)] [⟨(part_all e_u8_i64 (l := x6.2.1) (n := x6.2.1.length) rfl)⟩, ⟨(le_map e_u8_i64 (Nat.le_refl x6.2.1.length) : 0 + x6.2.1.length ≤ (List.map e_u8_i64 x6.2.1).length)⟩, ⟨(ok_slices_Clone k x6.2.1 _ e9)⟩, ⟨c8⟩, ⟨c7⟩, ⟨(rfl : false = false)⟩, ⟨c6⟩, ⟨c3⟩, ⟨c6⟩, ⟨c3⟩, ⟨c3⟩, ⟨c3⟩, ⟨c6⟩, ⟨c6⟩, ⟨c6⟩, ⟨c5⟩, ⟨(nF c4)⟩, ⟨(nF c2)⟩, ⟨(nT c3)⟩, ⟨(nF c2)⟩, ⟨(nT c3)⟩, ⟨(nT c3)⟩, ⟨(nF c2)⟩, ⟨(nF c2)⟩, ⟨(nF c2)⟩, ⟨(ok_part_Right k x6.1 x6.2.1 x6.2.2.1 x6.2.2.2 _ e1)⟩, ⟨(ok_part_Part_own k x1 x2 x3 x4 _ e0)⟩] (by kernel_rfl)
        · rw [if_neg c4] at h
          replace c4 := eqf c4
          obtain rfl := Option.some.inj h
          exact Tri.of (x := X19) mixed facts19 [.call ⟨true, []⟩ (.agg [(.int .i64 x6.1), (.sl 2 (List.map e_u8_i64 x6.2.1)), (.bool x6.2.2.1), (.int .i64 x6.2.2.2)]) [], .call ⟨true, []⟩ (.bool x7) [], .d false, .d false, .d false, .d true, .d true, .d false, .d true, .d false, .d true, .norm 0 ⟨[(4, []), (5, [(0, 2)]), (6, [])], [⟨.tmp 4, [], none⟩], false, [], []⟩] [⟨(nT c4)⟩, ⟨(nF c2)⟩, ⟨(nT c3)⟩, ⟨(nF c2)⟩, ⟨(nT c3)⟩, ⟨(nT c3)⟩, ⟨(nF c2)⟩, ⟨(nF c2)⟩, ⟨(nF c2)⟩, ⟨(ok_part_Right k x6.1 x6.2.1 x6.2.2.1 x6.2.2.2 _ e1)⟩, ⟨(ok_part_Part_own k x1 x2 x3 x4 _ e0)⟩] (by kernel_rfl)
    · rw [if_neg c2] at h
      replace c2 := eqf c2
      obtain rfl := Option.some.inj h
      exact Tri.of (x := X19) mixed facts19 [.call ⟨true, []⟩ (.agg [(.int .i64 x6.1), (.sl 2 (List.map e_u8_i64 x6.2.1)), (.bool x6.2.2.1), (.int .i64 x6.2.2.2)]) [], .call ⟨true, []⟩ (.bool x7) [], .d true, .d true, .d true, .d true, .d true, .d true, .norm 0 ⟨[(4, []), (5, [(0, 2)]), (6, [])], [⟨.tmp 4, [], none⟩], false, [], []⟩] [⟨(rfl : true = true)⟩, ⟨(nT c2)⟩, ⟨(nT c2)⟩, ⟨(nT c2)⟩, ⟨(nT c2)⟩, ⟨(nT c2)⟩, ⟨(ok_part_Right k x6.1 x6.2.1 x6.2.2.1 x6.2.2.2 _ e1)⟩, ⟨(ok_part_Part_own k x1 x2 x3 x4 _ e0)⟩] (by kernel_rfl)
end Go.Ws
