/-
  ref04_Append: what the machine makes of it. (Printed by my own program.)
  Conditions: none.
-/
import Derived.Test.YtaddlnmhjlmneaaZPre
import Derived.Test.YtaddlnmhjlmneaaZPure
import Derived.Test.YtaddlnmhjlmneaaZW28
set_option linter.unusedVariables false
set_option linter.unusedSimpArgs false
namespace Go.Ws
open Go.Proofs
set_option linter.unusedSimpArgs false
set_option linter.unusedVariables false
set_option maxRecDepth 1000000
set_option maxHeartbeats 4000000
noncomputable def X12 : Ctx := ⟨Try.f12, [], true⟩
theorem ok_ref04_Append (k : Nat) (x1 : List Int) (x2 : Int) (x3 : Int) (x4 : List Int) (r : (List Int) × Int × Int × Int) (h : ref04_Append k x1 x2 x3 x4 = some r) : Tri Try.prog 12 [(.agg [(.sl 1 (List.map e_u8 x1)), (.int .i64 x2), (.int .i64 x3)]), (.sl 1 (List.map e_u8 x4))] [] (.tup [(.agg [(.sl 1 (List.map e_u8 r.1)), (.int .i64 r.2.1), (.int .i64 r.2.2.1)]), (.int .i64 r.2.2.2)]) [] := by
    unfold ref04_Append at h
    obtain ⟨x5, e0, h⟩ := Option.bind_eq_some_iff.1 h
    by_cases c1 : eqI x5.2 0 = true
    · rw [if_pos c1] at h
      by_cases c2 : ltI x3 (iadd .i64 (nI x1.length) (nI x5.1.length)) = true
      · rw [if_pos c2] at h
        obtain rfl := Option.some.inj h
        exact Tri.of (x := X12) mixed facts12 [.call ⟨true, []⟩ (.tup [(.sl 1 (List.map e_u8 x5.1)), (.int .i64 x5.2)]) [], .d false, .n x1.length, .n x5.1.length, .d true] [⟨c2⟩, ⟨(len_map e_u8 x5.1)⟩, ⟨(len_map e_u8 x1)⟩, ⟨(nF c1)⟩, ⟨(ok_ref03_Frame k x4 _ e0)⟩] (by kernel_rfl)
      · rw [if_neg c2] at h
        replace c2 := eqf c2
        by_cases c3 : roomI (x1.length * 1) = true
        · rw [if_pos c3] at h
          by_cases c4 : roomI (((x1 ++ x5.1).length) * 1) = true
          · rw [if_pos c4] at h
            obtain rfl := Option.some.inj h
            exact Tri.of (x := X12) mixed facts12 [.call ⟨true, []⟩ (.tup [(.sl 1 (List.map e_u8 x5.1)), (.int .i64 x5.2)]) [], .d false, .n x1.length, .n x5.1.length, .d false, .n x1.length, .n ((x1 ++ x5.1).length), .n x1.length, .d true, .rows (List.map e_u8 (x1 ++ x5.1)), .rows (List.map e_u8 (x1 ++ x5.1))] [⟨(part_all e_u8 (l := (x1 ++ x5.1)) (n := ((x1 ++ x5.1).length)) rfl)⟩, ⟨(le_map e_u8 (Nat.le_refl ((x1 ++ x5.1).length)) : 0 + (x1 ++ x5.1).length ≤ (List.map e_u8 (x1 ++ x5.1)).length)⟩, ⟨(app_map e_u8 x1 x5.1)⟩, ⟨(eqN_self x1.length)⟩, ⟨(len_map e_u8 x1)⟩, ⟨c4⟩, ⟨(by simp only [List.length_append, List.length_cons, List.length_nil, List.length_take, List.length_drop, List.length_set, List.length_replicate, List.length_map, List.map_nil, List.map_cons] <;> omega : x1.length + (List.map e_u8 x5.1).length = (x1 ++ x5.1).length)⟩, ⟨c3⟩, ⟨(len_map e_u8 x1)⟩, ⟨c2⟩, ⟨(len_map e_u8 x5.1)⟩, ⟨(len_map e_u8 x1)⟩, ⟨(nF c1)⟩, ⟨(ok_ref03_Frame k x4 _ e0)⟩] (by kernel_rfl)
          · rw [if_neg c4] at h
            replace c4 := eqf c4
            cases h
        · rw [if_neg c3] at h
          replace c3 := eqf c3
          cases h
    · rw [if_neg c1] at h
      replace c1 := eqf c1
      obtain rfl := Option.some.inj h
      exact Tri.of (x := X12) mixed facts12 [.call ⟨true, []⟩ (.tup [(.sl 1 (List.map e_u8 x5.1)), (.int .i64 x5.2)]) [], .d true] [⟨(nT c1)⟩, ⟨(ok_ref03_Frame k x4 _ e0)⟩] (by kernel_rfl)
end Go.Ws
