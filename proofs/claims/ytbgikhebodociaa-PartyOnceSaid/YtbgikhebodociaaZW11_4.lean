/-
  law16_talk_step_4: what the machine makes of it. (Printed by my own program.)
  Conditions: none.
-/
import Derived.Test.YtbgikhebodociaaZPre
import Derived.Test.YtbgikhebodociaaZPure
import Derived.Test.YtbgikhebodociaaZW14_1
import Derived.Test.YtbgikhebodociaaZW15
import Derived.Test.YtbgikhebodociaaZW16
set_option linter.unusedVariables false
set_option linter.unusedSimpArgs false
namespace Go.Ws
open Go.Proofs
set_option linter.unusedSimpArgs false
set_option linter.unusedVariables false
set_option maxRecDepth 1000000
set_option maxHeartbeats 4000000
noncomputable def X11_4 (x4 : Int) (x5 : List (Int × ByteArray)) (x6 : Int) (x7 : Int) (x8 : List ByteArray) (x9 : List ByteArray) (x10 : List (Int × ByteArray)) : Ctx := ⟨Try.f11, [(.row [(.int .i64 x4), (.sl 2 (List.map e_i64_s x5)), (.int .i64 x6), (.int .i64 x7), (.ref 1 1 0 0 x8.length .virt), (.ref 1 2 0 0 x9.length .virt), (.ref 2 3 0 0 x10.length .virt)]), (.arr 1 (List.map e_str x8) 0 0 false), (.arr 1 (List.map e_str x9) 0 0 false), (.arr 2 (List.map e_i64_s x10) 0 0 false)], false⟩
theorem ok_law16_talk_step_4 (k : Nat) (x1 : Int) (x2 : ByteArray) (x3 : Int) (x4 : Int) (x5 : List (Int × ByteArray)) (x6 : Int) (x7 : Int) (x8 : List ByteArray) (x9 : List ByteArray) (x10 : List (Int × ByteArray)) (r : Int × (List (Int × ByteArray)) × Int × (List (Int × ByteArray)) × (List ByteArray) × Bool × Int × (List ByteArray)) (h : law16_talk_step_4 k x1 x2 x3 x4 x5 x6 x7 x8 x9 x10 = some r) : Tri Try.prog 11 [(.hp 0 0), (.agg [(.int .u8 x1), (.str x2), (.int .u16 x3)])] [(.row [(.int .i64 x4), (.sl 2 (List.map e_i64_s x5)), (.int .i64 x6), (.int .i64 x7), (.ref 1 1 0 0 x8.length .virt), (.ref 1 2 0 0 x9.length .virt), (.ref 2 3 0 0 x10.length .virt)]), (.arr 1 (List.map e_str x8) 0 0 false), (.arr 1 (List.map e_str x9) 0 0 false), (.arr 2 (List.map e_i64_s x10) 0 0 false)] (.bool r.2.2.2.2.2.1) [(.row [(.int .i64 r.1), (.sl 2 (List.map e_i64_s r.2.1)), (.int .i64 r.2.2.1), (.int .i64 r.2.2.2.2.2.2.1), (.ref 1 1 1 0 r.2.2.2.2.1.length .virt), (.ref 1 2 1 0 r.2.2.2.2.2.2.2.length .virt), (.ref 2 3 1 0 r.2.2.2.1.length .virt)]), (.arr 1 (List.map e_str r.2.2.2.2.1) 1 1 false), (.arr 1 (List.map e_str r.2.2.2.2.2.2.2) 1 1 false), (.arr 2 (List.map e_i64_s r.2.2.2.1) 1 1 false)] := by
    unfold law16_talk_step_4 at h
    by_cases c0 : eqI (irem .u8 x1 4) 0 = true
    · rw [if_pos c0] at h
      obtain ⟨x11, e1, h⟩ := Option.bind_eq_some_iff.1 h
      by_cases c2 : eqI x11.2.2.2.2.2 0 = true
      · rw [if_pos c2] at h
        by_cases c3 : roomI (((x8 ++ [x2]).length) * 16) = true
        · rw [if_pos c3] at h
          by_cases c4 : roomI (((x10 ++ [(x11.2.2.2.1, x11.2.2.2.2.1)]).length) * 24) = true
          · rw [if_pos c4] at h
            obtain rfl := Option.some.inj h
            exact Tri.of (x := (X11_4 x4 x5 x6 x7 x8 x9 x10)) mixed facts11 [.d false, .d true, .call ⟨true, []⟩ (.tup [(.agg [(.int .i64 x11.1), (.sl 2 (List.map e_i64_s x11.2.1)), (.int .i64 x11.2.2.1)]), (.agg [(.int .i64 x11.2.2.2.1), (.str x11.2.2.2.2.1)]), (.int .i64 x11.2.2.2.2.2)]) [], .d true, .rows (List.map e_str [x2]), .n ((x8 ++ [x2]).length), .n x8.length, .d true, .rows (List.map e_str (x8 ++ [x2])), .rows (List.map e_i64_s [(x11.2.2.2.1, x11.2.2.2.2.1)]), .n ((x10 ++ [(x11.2.2.2.1, x11.2.2.2.2.1)]).length), .n x10.length, .d true, .rows (List.map e_i64_s (x10 ++ [(x11.2.2.2.1, x11.2.2.2.2.1)])), .norm 0 ⟨[(4, [])], [], false, [], [none, some 1, some 1, some 1]⟩] [⟨(app_map e_i64_s x10 [(x11.2.2.2.1, x11.2.2.2.2.1)])⟩, ⟨(eqN_self x10.length)⟩, ⟨(len_map e_i64_s x10)⟩, ⟨c4⟩, ⟨(by simp only [List.length_append, List.length_cons, List.length_nil, List.length_take, List.length_drop, List.length_set, List.length_replicate, List.length_map, List.map_nil, List.map_cons] <;> omega : x10.length + (List.map e_i64_s [(x11.2.2.2.1, x11.2.2.2.2.1)]).length = (x10 ++ [(x11.2.2.2.1, x11.2.2.2.2.1)]).length)⟩, ⟨(part_all e_i64_s (l := [(x11.2.2.2.1, x11.2.2.2.2.1)]) (n := 1) rfl)⟩, ⟨(le_map e_i64_s (Nat.le_refl 1) : 0 + 1 ≤ (List.map e_i64_s [(x11.2.2.2.1, x11.2.2.2.2.1)]).length)⟩, ⟨(app_map e_str x8 [x2])⟩, ⟨(eqN_self x8.length)⟩, ⟨(len_map e_str x8)⟩, ⟨c3⟩, ⟨(by simp only [List.length_append, List.length_cons, List.length_nil, List.length_take, List.length_drop, List.length_set, List.length_replicate, List.length_map, List.map_nil, List.map_cons] <;> omega : x8.length + (List.map e_str [x2]).length = (x8 ++ [x2]).length)⟩, ⟨(part_all e_str (l := [x2]) (n := 1) rfl)⟩, ⟨(le_map e_str (Nat.le_refl 1) : 0 + 1 ≤ (List.map e_str [x2]).length)⟩, ⟨c2⟩, ⟨(ok_party_Say k x4 x5 x6 x2 _ e1)⟩, ⟨c0⟩, ⟨(rfl : eqI 4 0 = false)⟩] (by kernel_rfl)
          · rw [if_neg c4] at h
            replace c4 := eqf c4
            cases h
        · rw [if_neg c3] at h
          replace c3 := eqf c3
          cases h
      · rw [if_neg c2] at h
        replace c2 := eqf c2
        obtain rfl := Option.some.inj h
        exact Tri.of (x := (X11_4 x4 x5 x6 x7 x8 x9 x10)) mixed facts11 [.d false, .d true, .call ⟨true, []⟩ (.tup [(.agg [(.int .i64 x11.1), (.sl 2 (List.map e_i64_s x11.2.1)), (.int .i64 x11.2.2.1)]), (.agg [(.int .i64 x11.2.2.2.1), (.str x11.2.2.2.2.1)]), (.int .i64 x11.2.2.2.2.2)]) [], .d false, .norm 0 ⟨[(4, [])], [], false, [], [none, some 1, some 1, some 1]⟩] [⟨c2⟩, ⟨(ok_party_Say k x4 x5 x6 x2 _ e1)⟩, ⟨c0⟩, ⟨(rfl : eqI 4 0 = false)⟩] (by kernel_rfl)
    · rw [if_neg c0] at h
      replace c0 := eqf c0
      by_cases c1 : eqI (irem .u8 x1 4) 3 = true
      · rw [if_pos c1] at h
        obtain ⟨x11, e2, h⟩ := Option.bind_eq_some_iff.1 h
        obtain rfl := Option.some.inj h
        exact Tri.of (x := (X11_4 x4 x5 x6 x7 x8 x9 x10)) mixed facts11 [.d false, .d false, .d true, .call ⟨true, []⟩ (.tup [(.agg [(.int .i64 x11.1), (.sl 2 (List.map e_i64_s x11.2.1)), (.int .i64 x11.2.2.1)]), (.int .i64 x11.2.2.2)]) [], .norm 0 ⟨[(4, [])], [], false, [], [none, some 1, some 1, some 1]⟩] [⟨(ok_party_Acked k x4 x5 x6 x7 _ e2)⟩, ⟨c1⟩, ⟨c0⟩, ⟨(rfl : eqI 4 0 = false)⟩] (by kernel_rfl)
      · rw [if_neg c1] at h
        replace c1 := eqf c1
        by_cases c2 : ltI 0 (nI x10.length) = true
        · rw [if_pos c2] at h
          by_cases c3 : eqI (nI x10.length) 0 = true
          · rw [if_pos c3] at h
            cases h
          · rw [if_neg c3] at h
            replace c3 := eqf c3
            by_cases c4 : inI (irem .i64 (conv .i64 x3) (nI x10.length)) x10.length = true
            · rw [if_pos c4] at h
              obtain ⟨x11, e5, h⟩ := Option.bind_eq_some_iff.1 h
              obtain ⟨x12, e6, h⟩ := Option.bind_eq_some_iff.1 h
              obtain rfl := Option.some.inj h
              exact Tri.of (x := (X11_4 x4 x5 x6 x7 x8 x9 x10)) mixed facts11 [.d false, .d false, .d false, .d true, .d false, .row [(.int .i64 x11.1), (.str x11.2)], .call ⟨true, []⟩ (.tup []) [(.row [(.int .i64 x4), (.sl 2 (List.map e_i64_s x5)), (.int .i64 x6), (.int .i64 ((party_Hear x7 x11.1 x11.2).1)), (.ref 1 1 0 0 x8.length .virt), (.ref 1 2 1 0 x12.length .virt), (.ref 2 3 0 0 x10.length .virt)]), (.arr 1 (List.map e_str x8) 0 0 false), (.arr 1 (List.map e_str x12) 1 1 false), (.arr 2 (List.map e_i64_s x10) 0 0 false)], .norm 0 ⟨[(4, [])], [], false, [], [none, some 1, some 1, some 1]⟩] [⟨(ok_law16_talk_hear_1 k x11.1 x11.2 x4 x5 x6 x7 x8 x9 x10 _ e6)⟩, ⟨(cells_map (e := e_i64_s) e5 2 0 2 (by decide))⟩, ⟨c4⟩, ⟨c3⟩, ⟨c2⟩, ⟨c1⟩, ⟨c0⟩, ⟨(rfl : eqI 4 0 = false)⟩] (by kernel_rfl)
            · rw [if_neg c4] at h
              replace c4 := eqf c4
              cases h
        · rw [if_neg c2] at h
          replace c2 := eqf c2
          obtain rfl := Option.some.inj h
          exact Tri.of (x := (X11_4 x4 x5 x6 x7 x8 x9 x10)) mixed facts11 [.d false, .d false, .d false, .d false, .norm 0 ⟨[(4, [])], [], false, [], [none, some 1, some 1, some 1]⟩] [⟨c2⟩, ⟨c1⟩, ⟨c0⟩, ⟨(rfl : eqI 4 0 = false)⟩] (by kernel_rfl)
end Go.Ws
