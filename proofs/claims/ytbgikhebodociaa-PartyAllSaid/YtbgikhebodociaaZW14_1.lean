/-
  law16_talk_hear_1: what the machine makes of it. (Printed by my own program.)
  Conditions: none.
-/
import Derived.Test.YtbgikhebodociaaZPre
import Derived.Test.YtbgikhebodociaaZPure
import Derived.Test.YtbgikhebodociaaZW9
set_option linter.unusedVariables false
set_option linter.unusedSimpArgs false
namespace Go.Ws
open Go.Proofs
set_option linter.unusedSimpArgs false
set_option linter.unusedVariables false
set_option maxRecDepth 1000000
set_option maxHeartbeats 4000000
noncomputable def X14_1 (x3 : Int) (x4 : List (Int × ByteArray)) (x5 : Int) (x6 : Int) (x7 : List ByteArray) (x8 : List ByteArray) (x9 : List (Int × ByteArray)) : Ctx := ⟨Try.f14, [(.row [(.int .i64 x3), (.sl 2 (List.map e_i64_s x4)), (.int .i64 x5), (.int .i64 x6), (.ref 1 1 0 0 x7.length .virt), (.ref 1 2 0 0 x8.length .virt), (.ref 2 3 0 0 x9.length .virt)]), (.arr 1 (List.map e_str x7) 0 0 false), (.arr 1 (List.map e_str x8) 0 0 false), (.arr 2 (List.map e_i64_s x9) 0 0 false)], false⟩
theorem ok_law16_talk_hear_1 (k : Nat) (x1 : Int) (x2 : ByteArray) (x3 : Int) (x4 : List (Int × ByteArray)) (x5 : Int) (x6 : Int) (x7 : List ByteArray) (x8 : List ByteArray) (x9 : List (Int × ByteArray)) (r : (List ByteArray)) (h : law16_talk_hear_1 k x1 x2 x3 x4 x5 x6 x7 x8 x9 = some r) : Tri Try.prog 14 [(.hp 0 0), (.agg [(.int .i64 x1), (.str x2)])] [(.row [(.int .i64 x3), (.sl 2 (List.map e_i64_s x4)), (.int .i64 x5), (.int .i64 x6), (.ref 1 1 0 0 x7.length .virt), (.ref 1 2 0 0 x8.length .virt), (.ref 2 3 0 0 x9.length .virt)]), (.arr 1 (List.map e_str x7) 0 0 false), (.arr 1 (List.map e_str x8) 0 0 false), (.arr 2 (List.map e_i64_s x9) 0 0 false)] (.tup []) [(.row [(.int .i64 x3), (.sl 2 (List.map e_i64_s x4)), (.int .i64 x5), (.int .i64 ((party_Hear x6 x1 x2).1)), (.ref 1 1 0 0 x7.length .virt), (.ref 1 2 1 0 r.length .virt), (.ref 2 3 0 0 x9.length .virt)]), (.arr 1 (List.map e_str x7) 0 0 false), (.arr 1 (List.map e_str r) 1 1 false), (.arr 2 (List.map e_i64_s x9) 0 0 false)] := by
    unfold law16_talk_hear_1 at h
    by_cases c0 : eqI ((party_Hear x6 x1 x2).2.2) 0 = true
    · rw [if_pos c0] at h
      by_cases c1 : roomI (((x8 ++ [(party_Hear x6 x1 x2).2.1]).length) * 16) = true
      · rw [if_pos c1] at h
        obtain rfl := Option.some.inj h
        exact Tri.of (x := (X14_1 x3 x4 x5 x6 x7 x8 x9)) mixed facts14 [.call ⟨true, []⟩ (.tup [(.agg [(.int .i64 ((party_Hear x6 x1 x2).1))]), (.str ((party_Hear x6 x1 x2).2.1)), (.int .i64 ((party_Hear x6 x1 x2).2.2))]) [], .d true, .rows (List.map e_str [(party_Hear x6 x1 x2).2.1]), .n ((x8 ++ [(party_Hear x6 x1 x2).2.1]).length), .n x8.length, .d true, .rows (List.map e_str (x8 ++ [(party_Hear x6 x1 x2).2.1])), .norm 0 ⟨[], [], false, [], [none, none, some 1]⟩] [⟨(app_map e_str x8 [(party_Hear x6 x1 x2).2.1])⟩, ⟨(eqN_self x8.length)⟩, ⟨(len_map e_str x8)⟩, ⟨c1⟩, ⟨(by simp only [List.length_append, List.length_cons, List.length_nil, List.length_take, List.length_drop, List.length_set, List.length_replicate, List.length_map, List.map_nil, List.map_cons] <;> omega : x8.length + (List.map e_str [(party_Hear x6 x1 x2).2.1]).length = (x8 ++ [(party_Hear x6 x1 x2).2.1]).length)⟩, ⟨(part_all e_str (l := [(party_Hear x6 x1 x2).2.1]) (n := 1) rfl)⟩, ⟨(le_map e_str (Nat.le_refl 1) : 0 + 1 ≤ (List.map e_str [(party_Hear x6 x1 x2).2.1]).length)⟩, ⟨c0⟩, ⟨(ok_party_Hear x6 x1 x2)⟩] (by kernel_rfl)
      · rw [if_neg c1] at h
        replace c1 := eqf c1
        cases h
    · rw [if_neg c0] at h
      replace c0 := eqf c0
      obtain rfl := Option.some.inj h
      exact Tri.of (x := (X14_1 x3 x4 x5 x6 x7 x8 x9)) mixed facts14 [.call ⟨true, []⟩ (.tup [(.agg [(.int .i64 ((party_Hear x6 x1 x2).1))]), (.str ((party_Hear x6 x1 x2).2.1)), (.int .i64 ((party_Hear x6 x1 x2).2.2))]) [], .d false, .norm 0 ⟨[], [], false, [], [none, none, some 1]⟩] [⟨c0⟩, ⟨(ok_party_Hear x6 x1 x2)⟩] (by kernel_rfl)
end Go.Ws
