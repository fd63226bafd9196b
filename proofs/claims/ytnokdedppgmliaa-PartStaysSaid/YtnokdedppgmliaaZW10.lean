/-
  law09_does: what the machine makes of it. (Printed by my own program.)
  Conditions: none.
-/
import Derived.Test.YtnokdedppgmliaaZPre
import Derived.Test.YtnokdedppgmliaaZPure
import Derived.Test.YtnokdedppgmliaaZW14
import Derived.Test.YtnokdedppgmliaaZW19
import Derived.Test.YtnokdedppgmliaaZW20
import Derived.Test.YtnokdedppgmliaaZW21
import Derived.Test.YtnokdedppgmliaaZW22
import Derived.Test.YtnokdedppgmliaaZW23
import Derived.Test.YtnokdedppgmliaaZW24
import Derived.Test.YtnokdedppgmliaaZW25
import Derived.Test.YtnokdedppgmliaaZW26
set_option linter.unusedVariables false
set_option linter.unusedSimpArgs false
namespace Go.Ws
open Go.Proofs
set_option linter.unusedSimpArgs false
set_option linter.unusedVariables false
set_option maxRecDepth 1000000
set_option maxHeartbeats 4000000
noncomputable def X10 : Ctx := ⟨Try.f10, [], true⟩
theorem ok_law09_does (k : Nat) (x1 : Int) (x2 : List (Int × Int)) (x3 : Bool) (x4 : Int) (x5 : Int) (x6 : List (Int × Int)) (x7 : Bool) (x8 : Int) (x9 : Int) (x10 : Int) (x11 : Int) (x12 : Bool) (x13 : Int) (r : Int × (List (Int × Int)) × Bool × Int × Int × (List (Int × Int)) × Bool × Int × (List (Int × Int)) × Bool) (h : law09_does k x1 x2 x3 x4 x5 x6 x7 x8 x9 x10 x11 x12 x13 = some r) : Tri Try.prog 10 [(.agg [(.int .i64 x1), (.sl 2 (List.map e_u8_i64 x2)), (.bool x3), (.int .i64 x4)]), (.agg [(.int .i64 x5), (.sl 2 (List.map e_u8_i64 x6)), (.bool x7), (.int .i64 x8)]), (.agg [(.int .u8 x9), (.int .u8 x10), (.int .i64 x11), (.bool x12), (.int .i64 x13)])] [] (.tup [(.agg [(.int .i64 r.1), (.sl 2 (List.map e_u8_i64 r.2.1)), (.bool r.2.2.1), (.int .i64 r.2.2.2.1)]), (.agg [(.int .i64 r.2.2.2.2.1), (.sl 2 (List.map e_u8_i64 r.2.2.2.2.2.1)), (.bool r.2.2.2.2.2.2.1), (.int .i64 r.2.2.2.2.2.2.2.1)]), (.sl 2 (List.map e_u8_i64 r.2.2.2.2.2.2.2.2.1)), (.bool r.2.2.2.2.2.2.2.2.2)]) [] := by
    unfold law09_does at h
    by_cases c0 : eqI (irem .u8 x9 6) 2 = true
    · rw [if_pos c0] at h
      by_cases c1 : x12 = true
      · rw [if_pos c1] at h
        obtain ⟨x14, e2, h⟩ := Option.bind_eq_some_iff.1 h
        obtain ⟨x15, e3, h⟩ := Option.bind_eq_some_iff.1 h
        obtain rfl := Option.some.inj h
        exact Tri.of (x := X10) mixed facts10 [.d false, .d true, .d true, .d true, .d true, .d true, .d true, .d true, .call ⟨true, []⟩ (.tup [(.agg [(.int .i64 x14.1), (.sl 2 (List.map e_u8_i64 x14.2.1)), (.bool x14.2.2.1), (.int .i64 x14.2.2.2.1)]), (.int .i64 x14.2.2.2.2)]) [], .call ⟨true, []⟩ (.tup [(.agg [(.int .i64 x15.1), (.sl 2 (List.map e_u8_i64 x15.2.1)), (.bool x15.2.2.1), (.int .i64 x15.2.2.2.1)]), (.int .i64 x15.2.2.2.2)]) [], .norm 0 ⟨[(6, []), (7, []), (8, [(0, 2)]), (9, [])], [⟨.tmp 6, [], none⟩, ⟨.tmp 7, [], none⟩], false, [], []⟩] [⟨(ok_ref09_Vote k x5 x6 x7 x8 true _ e3)⟩, ⟨(ok_part_Vote k x1 x2 x3 x4 true _ e2)⟩, ⟨c1⟩, ⟨c1⟩, ⟨c1⟩, ⟨c1⟩, ⟨c1⟩, ⟨c0⟩, ⟨c0⟩, ⟨(rfl : eqI 6 0 = false)⟩] (by kernel_rfl)
      · rw [if_neg c1] at h
        replace c1 := eqf c1
        obtain ⟨x14, e2, h⟩ := Option.bind_eq_some_iff.1 h
        obtain ⟨x15, e3, h⟩ := Option.bind_eq_some_iff.1 h
        obtain rfl := Option.some.inj h
        exact Tri.of (x := X10) mixed facts10 [.d false, .d true, .d true, .d false, .d false, .d false, .d false, .d false, .d false, .call ⟨true, []⟩ (.tup [(.agg [(.int .i64 x14.1), (.sl 2 (List.map e_u8_i64 x14.2.1)), (.bool x14.2.2.1), (.int .i64 x14.2.2.2.1)]), (.int .i64 x14.2.2.2.2)]) [], .call ⟨true, []⟩ (.tup [(.agg [(.int .i64 x15.1), (.sl 2 (List.map e_u8_i64 x15.2.1)), (.bool x15.2.2.1), (.int .i64 x15.2.2.2.1)]), (.int .i64 x15.2.2.2.2)]) [], .norm 0 ⟨[(6, []), (7, []), (8, [(0, 2)]), (9, [])], [⟨.tmp 6, [], none⟩, ⟨.tmp 7, [], none⟩], false, [], []⟩] [⟨(ok_ref09_Vote k x5 x6 x7 x8 (eqI (irem .u8 x9 6) 5) _ e3)⟩, ⟨(ok_part_Vote k x1 x2 x3 x4 (eqI (irem .u8 x9 6) 5) _ e2)⟩, ⟨c1⟩, ⟨c1⟩, ⟨(rfl : eqI 6 0 = false)⟩, ⟨c1⟩, ⟨c1⟩, ⟨c1⟩, ⟨c0⟩, ⟨c0⟩, ⟨(rfl : eqI 6 0 = false)⟩] (by kernel_rfl)
    · rw [if_neg c0] at h
      replace c0 := eqf c0
      by_cases c1 : eqI (irem .u8 x9 6) 5 = true
      · rw [if_pos c1] at h
        by_cases c2 : x12 = true
        · rw [if_pos c2] at h
          obtain ⟨x14, e3, h⟩ := Option.bind_eq_some_iff.1 h
          obtain ⟨x15, e4, h⟩ := Option.bind_eq_some_iff.1 h
          obtain rfl := Option.some.inj h
          exact Tri.of (x := X10) mixed facts10 [.d false, .d false, .d true, .d true, .d true, .d true, .d true, .d true, .call ⟨true, []⟩ (.tup [(.agg [(.int .i64 x14.1), (.sl 2 (List.map e_u8_i64 x14.2.1)), (.bool x14.2.2.1), (.int .i64 x14.2.2.2.1)]), (.int .i64 x14.2.2.2.2)]) [], .call ⟨true, []⟩ (.tup [(.agg [(.int .i64 x15.1), (.sl 2 (List.map e_u8_i64 x15.2.1)), (.bool x15.2.2.1), (.int .i64 x15.2.2.2.1)]), (.int .i64 x15.2.2.2.2)]) [], .norm 0 ⟨[(6, []), (7, []), (8, [(0, 2)]), (9, [])], [⟨.tmp 6, [], none⟩, ⟨.tmp 7, [], none⟩], false, [], []⟩] [⟨(ok_ref09_Vote k x5 x6 x7 x8 true _ e4)⟩, ⟨(ok_part_Vote k x1 x2 x3 x4 true _ e3)⟩, ⟨c2⟩, ⟨c2⟩, ⟨c2⟩, ⟨c2⟩, ⟨c2⟩, ⟨c1⟩, ⟨c0⟩, ⟨(rfl : eqI 6 0 = false)⟩] (by kernel_rfl)
        · rw [if_neg c2] at h
          replace c2 := eqf c2
          obtain ⟨x14, e3, h⟩ := Option.bind_eq_some_iff.1 h
          obtain ⟨x15, e4, h⟩ := Option.bind_eq_some_iff.1 h
          obtain rfl := Option.some.inj h
          exact Tri.of (x := X10) mixed facts10 [.d false, .d false, .d true, .d false, .d false, .d false, .d false, .d false, .d false, .call ⟨true, []⟩ (.tup [(.agg [(.int .i64 x14.1), (.sl 2 (List.map e_u8_i64 x14.2.1)), (.bool x14.2.2.1), (.int .i64 x14.2.2.2.1)]), (.int .i64 x14.2.2.2.2)]) [], .call ⟨true, []⟩ (.tup [(.agg [(.int .i64 x15.1), (.sl 2 (List.map e_u8_i64 x15.2.1)), (.bool x15.2.2.1), (.int .i64 x15.2.2.2.1)]), (.int .i64 x15.2.2.2.2)]) [], .norm 0 ⟨[(6, []), (7, []), (8, [(0, 2)]), (9, [])], [⟨.tmp 6, [], none⟩, ⟨.tmp 7, [], none⟩], false, [], []⟩] [⟨(ok_ref09_Vote k x5 x6 x7 x8 (eqI (irem .u8 x9 6) 5) _ e4)⟩, ⟨(ok_part_Vote k x1 x2 x3 x4 (eqI (irem .u8 x9 6) 5) _ e3)⟩, ⟨c2⟩, ⟨c2⟩, ⟨(rfl : eqI 6 0 = false)⟩, ⟨c2⟩, ⟨c2⟩, ⟨c2⟩, ⟨c1⟩, ⟨c0⟩, ⟨(rfl : eqI 6 0 = false)⟩] (by kernel_rfl)
      · rw [if_neg c1] at h
        replace c1 := eqf c1
        by_cases c2 : eqI (irem .u8 x9 6) 3 = true
        · rw [if_pos c2] at h
          obtain ⟨x14, e3, h⟩ := Option.bind_eq_some_iff.1 h
          obtain ⟨x15, e4, h⟩ := Option.bind_eq_some_iff.1 h
          by_cases c5 : eqI x14.2.2.2.2.2 x15.2.2.2.2.2 = true
          · rw [if_pos c5] at h
            obtain ⟨x16, e6, h⟩ := Option.bind_eq_some_iff.1 h
            obtain rfl := Option.some.inj h
            exact Tri.of (x := X10) mixed facts10 [.d false, .d false, .d false, .d true, .call ⟨true, []⟩ (.tup [(.agg [(.int .i64 x14.1), (.sl 2 (List.map e_u8_i64 x14.2.1)), (.bool x14.2.2.1), (.int .i64 x14.2.2.2.1)]), (.sl 2 (List.map e_u8_i64 x14.2.2.2.2.1)), (.int .i64 x14.2.2.2.2.2)]) [], .call ⟨true, []⟩ (.tup [(.agg [(.int .i64 x15.1), (.sl 2 (List.map e_u8_i64 x15.2.1)), (.bool x15.2.2.1), (.int .i64 x15.2.2.2.1)]), (.sl 2 (List.map e_u8_i64 x15.2.2.2.2.1)), (.int .i64 x15.2.2.2.2.2)]) [], .d true, .d true, .d true, .call ⟨true, []⟩ (.bool x16) [], .d true] [⟨c5⟩, ⟨(ok_ref09_Deltas k x14.2.2.2.2.1 x15.2.2.2.2.1 _ e6)⟩, ⟨c5⟩, ⟨c5⟩, ⟨c5⟩, ⟨(ok_ref09_Local k x5 x6 x7 x8 _ e4)⟩, ⟨(ok_part_Local k x1 x2 x3 x4 _ e3)⟩, ⟨c2⟩, ⟨c1⟩, ⟨c0⟩, ⟨(rfl : eqI 6 0 = false)⟩] (by kernel_rfl)
          · rw [if_neg c5] at h
            replace c5 := eqf c5
            obtain rfl := Option.some.inj h
            exact Tri.of (x := X10) mixed facts10 [.d false, .d false, .d false, .d true, .call ⟨true, []⟩ (.tup [(.agg [(.int .i64 x14.1), (.sl 2 (List.map e_u8_i64 x14.2.1)), (.bool x14.2.2.1), (.int .i64 x14.2.2.2.1)]), (.sl 2 (List.map e_u8_i64 x14.2.2.2.2.1)), (.int .i64 x14.2.2.2.2.2)]) [], .call ⟨true, []⟩ (.tup [(.agg [(.int .i64 x15.1), (.sl 2 (List.map e_u8_i64 x15.2.1)), (.bool x15.2.2.1), (.int .i64 x15.2.2.2.1)]), (.sl 2 (List.map e_u8_i64 x15.2.2.2.2.1)), (.int .i64 x15.2.2.2.2.2)]) [], .d false, .d false, .d false, .d false] [⟨c5⟩, ⟨c5⟩, ⟨c5⟩, ⟨c5⟩, ⟨(ok_ref09_Local k x5 x6 x7 x8 _ e4)⟩, ⟨(ok_part_Local k x1 x2 x3 x4 _ e3)⟩, ⟨c2⟩, ⟨c1⟩, ⟨c0⟩, ⟨(rfl : eqI 6 0 = false)⟩] (by kernel_rfl)
        · rw [if_neg c2] at h
          replace c2 := eqf c2
          by_cases c3 : eqI (irem .u8 x9 6) 4 = true
          · rw [if_pos c3] at h
            obtain ⟨x14, e4, h⟩ := Option.bind_eq_some_iff.1 h
            obtain ⟨x15, e5, h⟩ := Option.bind_eq_some_iff.1 h
            by_cases c6 : eqI x14.2.2.2.2.2 x15.2.2.2.2.2 = true
            · rw [if_pos c6] at h
              obtain ⟨x16, e7, h⟩ := Option.bind_eq_some_iff.1 h
              obtain rfl := Option.some.inj h
              exact Tri.of (x := X10) mixed facts10 [.d false, .d false, .d false, .d false, .d true, .call ⟨true, []⟩ (.tup [(.agg [(.int .i64 x14.1), (.sl 2 (List.map e_u8_i64 x14.2.1)), (.bool x14.2.2.1), (.int .i64 x14.2.2.2.1)]), (.sl 2 (List.map e_u8_i64 x14.2.2.2.2.1)), (.int .i64 x14.2.2.2.2.2)]) [], .call ⟨true, []⟩ (.tup [(.agg [(.int .i64 x15.1), (.sl 2 (List.map e_u8_i64 x15.2.1)), (.bool x15.2.2.1), (.int .i64 x15.2.2.2.1)]), (.sl 2 (List.map e_u8_i64 x15.2.2.2.2.1)), (.int .i64 x15.2.2.2.2.2)]) [], .d true, .d true, .d true, .call ⟨true, []⟩ (.bool x16) [], .d true] [⟨c6⟩, ⟨(ok_ref09_Deltas k x14.2.2.2.2.1 x15.2.2.2.2.1 _ e7)⟩, ⟨c6⟩, ⟨c6⟩, ⟨c6⟩, ⟨(ok_ref09_Decide k x5 x6 x7 x8 x13 _ e5)⟩, ⟨(ok_part_Decide k x1 x2 x3 x4 x13 _ e4)⟩, ⟨c3⟩, ⟨c2⟩, ⟨c1⟩, ⟨c0⟩, ⟨(rfl : eqI 6 0 = false)⟩] (by kernel_rfl)
            · rw [if_neg c6] at h
              replace c6 := eqf c6
              obtain rfl := Option.some.inj h
              exact Tri.of (x := X10) mixed facts10 [.d false, .d false, .d false, .d false, .d true, .call ⟨true, []⟩ (.tup [(.agg [(.int .i64 x14.1), (.sl 2 (List.map e_u8_i64 x14.2.1)), (.bool x14.2.2.1), (.int .i64 x14.2.2.2.1)]), (.sl 2 (List.map e_u8_i64 x14.2.2.2.2.1)), (.int .i64 x14.2.2.2.2.2)]) [], .call ⟨true, []⟩ (.tup [(.agg [(.int .i64 x15.1), (.sl 2 (List.map e_u8_i64 x15.2.1)), (.bool x15.2.2.1), (.int .i64 x15.2.2.2.1)]), (.sl 2 (List.map e_u8_i64 x15.2.2.2.2.1)), (.int .i64 x15.2.2.2.2.2)]) [], .d false, .d false, .d false, .d false] [⟨c6⟩, ⟨c6⟩, ⟨c6⟩, ⟨c6⟩, ⟨(ok_ref09_Decide k x5 x6 x7 x8 x13 _ e5)⟩, ⟨(ok_part_Decide k x1 x2 x3 x4 x13 _ e4)⟩, ⟨c3⟩, ⟨c2⟩, ⟨c1⟩, ⟨c0⟩, ⟨(rfl : eqI 6 0 = false)⟩] (by kernel_rfl)
          · rw [if_neg c3] at h
            replace c3 := eqf c3
            obtain ⟨x14, e4, h⟩ := Option.bind_eq_some_iff.1 h
            obtain ⟨x15, e5, h⟩ := Option.bind_eq_some_iff.1 h
            obtain rfl := Option.some.inj h
            exact Tri.of (x := X10) mixed facts10 [.d false, .d false, .d false, .d false, .d false, .call ⟨true, []⟩ (.tup [(.agg [(.int .i64 x14.1), (.sl 2 (List.map e_u8_i64 x14.2.1)), (.bool x14.2.2.1), (.int .i64 x14.2.2.2.1)]), (.int .i64 x14.2.2.2.2)]) [], .call ⟨true, []⟩ (.tup [(.agg [(.int .i64 x15.1), (.sl 2 (List.map e_u8_i64 x15.2.1)), (.bool x15.2.2.1), (.int .i64 x15.2.2.2.1)]), (.int .i64 x15.2.2.2.2)]) [], .norm 0 ⟨[(6, []), (7, []), (8, [(0, 2)]), (9, [])], [⟨.tmp 6, [], none⟩, ⟨.tmp 7, [], none⟩], false, [], []⟩] [⟨(ok_ref09_Add k x5 x6 x7 x8 x10 x11 _ e5)⟩, ⟨(ok_part_Add k x1 x2 x3 x4 x10 x11 _ e4)⟩, ⟨c3⟩, ⟨c2⟩, ⟨c1⟩, ⟨c0⟩, ⟨(rfl : eqI 6 0 = false)⟩] (by kernel_rfl)
end Go.Ws
