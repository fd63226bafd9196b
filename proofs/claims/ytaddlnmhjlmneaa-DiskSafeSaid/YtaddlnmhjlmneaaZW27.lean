/-
  sum_Frame: what the machine makes of it. (Printed by my own program.)
  Conditions: none.
-/
import Derived.Test.YtaddlnmhjlmneaaZPre
import Derived.Test.YtaddlnmhjlmneaaZPure
import Derived.Test.YtaddlnmhjlmneaaZW32
set_option linter.unusedVariables false
set_option linter.unusedSimpArgs false
namespace Go.Ws
open Go.Proofs
set_option linter.unusedSimpArgs false
set_option linter.unusedVariables false
set_option maxRecDepth 1000000
set_option maxHeartbeats 4000000
noncomputable def X27 : Ctx := ⟨Try.f27, [], true⟩
theorem ok_sum_Frame (k : Nat) (x1 : List Int) (r : (List Int) × Int) (h : sum_Frame k x1 = some r) : Tri Try.prog 27 [(.sl 1 (List.map e_u8 x1))] [] (.tup [(.sl 1 (List.map e_u8 r.1)), (.int .i64 r.2)]) [] := by
    unfold sum_Frame at h
    by_cases c0 : ltI 4000 (nI x1.length) = true
    · rw [if_pos c0] at h
      obtain rfl := Option.some.inj h
      exact Tri.of (x := X27) mixed facts27 [.n x1.length, .d true, .norm 0 ⟨[(2, [(0, 1)]), (3, [])], [], false, [], []⟩] [⟨c0⟩, ⟨(len_map e_u8 x1)⟩] (by kernel_rfl)
    · rw [if_neg c0] at h
      replace c0 := eqf c0
      by_cases c1 : roomI ((([1, conv .u8 (ishr .i64 (nI x1.length) 8), conv .u8 (nI x1.length)] ++ x1).length) * 1) = true
      · rw [if_pos c1] at h
        obtain ⟨x2, e2, h⟩ := Option.bind_eq_some_iff.1 h
        by_cases c3 : roomI (((([1, conv .u8 (ishr .i64 (nI x1.length) 8), conv .u8 (nI x1.length)] ++ x1) ++ [conv .u8 (ishr .u32 x2 24), conv .u8 (ishr .u32 x2 16), conv .u8 (ishr .u32 x2 8), conv .u8 x2]).length) * 1) = true
        · rw [if_pos c3] at h
          obtain rfl := Option.some.inj h
          exact Tri.of (x := X27) mixed facts27 [.n x1.length, .d false, .n (([1, conv .u8 (ishr .i64 (nI x1.length) 8), conv .u8 (nI x1.length)] ++ x1).length), .n 3, .d true, .rows (List.map e_u8 ([1, conv .u8 (ishr .i64 (nI x1.length) 8), conv .u8 (nI x1.length)] ++ x1)), .call ⟨true, []⟩ (.int .u32 x2) [], .rows (List.map e_u8 ([1, conv .u8 (ishr .i64 (nI x1.length) 8), conv .u8 (nI x1.length)] ++ x1)), .rows (List.map e_u8 [conv .u8 (ishr .u32 x2 24), conv .u8 (ishr .u32 x2 16), conv .u8 (ishr .u32 x2 8), conv .u8 x2]), .n ((([1, conv .u8 (ishr .i64 (nI x1.length) 8), conv .u8 (nI x1.length)] ++ x1) ++ [conv .u8 (ishr .u32 x2 24), conv .u8 (ishr .u32 x2 16), conv .u8 (ishr .u32 x2 8), conv .u8 x2]).length), .n (([1, conv .u8 (ishr .i64 (nI x1.length) 8), conv .u8 (nI x1.length)] ++ x1).length), .d true, .rows (List.map e_u8 (([1, conv .u8 (ishr .i64 (nI x1.length) 8), conv .u8 (nI x1.length)] ++ x1) ++ [conv .u8 (ishr .u32 x2 24), conv .u8 (ishr .u32 x2 16), conv .u8 (ishr .u32 x2 8), conv .u8 x2])), .rows (List.map e_u8 (([1, conv .u8 (ishr .i64 (nI x1.length) 8), conv .u8 (nI x1.length)] ++ x1) ++ [conv .u8 (ishr .u32 x2 24), conv .u8 (ishr .u32 x2 16), conv .u8 (ishr .u32 x2 8), conv .u8 x2]))] [⟨(part_all e_u8 (l := (([1, conv .u8 (ishr .i64 (nI x1.length) 8), conv .u8 (nI x1.length)] ++ x1) ++ [conv .u8 (ishr .u32 x2 24), conv .u8 (ishr .u32 x2 16), conv .u8 (ishr .u32 x2 8), conv .u8 x2])) (n := ((([1, conv .u8 (ishr .i64 (nI x1.length) 8), conv .u8 (nI x1.length)] ++ x1) ++ [conv .u8 (ishr .u32 x2 24), conv .u8 (ishr .u32 x2 16), conv .u8 (ishr .u32 x2 8), conv .u8 x2]).length)) rfl)⟩, ⟨(le_map e_u8 (Nat.le_refl ((([1, conv .u8 (ishr .i64 (nI x1.length) 8), conv .u8 (nI x1.length)] ++ x1) ++ [conv .u8 (ishr .u32 x2 24), conv .u8 (ishr .u32 x2 16), conv .u8 (ishr .u32 x2 8), conv .u8 x2]).length)) : 0 + (([1, conv .u8 (ishr .i64 (nI x1.length) 8), conv .u8 (nI x1.length)] ++ x1) ++ [conv .u8 (ishr .u32 x2 24), conv .u8 (ishr .u32 x2 16), conv .u8 (ishr .u32 x2 8), conv .u8 x2]).length ≤ (List.map e_u8 (([1, conv .u8 (ishr .i64 (nI x1.length) 8), conv .u8 (nI x1.length)] ++ x1) ++ [conv .u8 (ishr .u32 x2 24), conv .u8 (ishr .u32 x2 16), conv .u8 (ishr .u32 x2 8), conv .u8 x2])).length)⟩, ⟨(app_map e_u8 ([1, conv .u8 (ishr .i64 (nI x1.length) 8), conv .u8 (nI x1.length)] ++ x1) [conv .u8 (ishr .u32 x2 24), conv .u8 (ishr .u32 x2 16), conv .u8 (ishr .u32 x2 8), conv .u8 x2])⟩, ⟨(eqN_self (([1, conv .u8 (ishr .i64 (nI x1.length) 8), conv .u8 (nI x1.length)] ++ x1).length))⟩, ⟨(len_map e_u8 ([1, conv .u8 (ishr .i64 (nI x1.length) 8), conv .u8 (nI x1.length)] ++ x1))⟩, ⟨c3⟩, ⟨(by simp only [List.length_append, List.length_cons, List.length_nil, List.length_take, List.length_drop, List.length_set, List.length_replicate, List.length_map, List.map_nil, List.map_cons] <;> omega : (([1, conv .u8 (ishr .i64 (nI x1.length) 8), conv .u8 (nI x1.length)] ++ x1).length) + (List.map e_u8 [conv .u8 (ishr .u32 x2 24), conv .u8 (ishr .u32 x2 16), conv .u8 (ishr .u32 x2 8), conv .u8 x2]).length = (([1, conv .u8 (ishr .i64 (nI x1.length) 8), conv .u8 (nI x1.length)] ++ x1) ++ [conv .u8 (ishr .u32 x2 24), conv .u8 (ishr .u32 x2 16), conv .u8 (ishr .u32 x2 8), conv .u8 x2]).length)⟩, ⟨(part_all e_u8 (l := [conv .u8 (ishr .u32 x2 24), conv .u8 (ishr .u32 x2 16), conv .u8 (ishr .u32 x2 8), conv .u8 x2]) (n := 4) rfl)⟩, ⟨(le_map e_u8 (Nat.le_refl 4) : 0 + 4 ≤ (List.map e_u8 [conv .u8 (ishr .u32 x2 24), conv .u8 (ishr .u32 x2 16), conv .u8 (ishr .u32 x2 8), conv .u8 x2]).length)⟩, ⟨(ok_sum_Sum k ([1, conv .u8 (ishr .i64 (nI x1.length) 8), conv .u8 (nI x1.length)] ++ x1) _ e2)⟩, ⟨(part_all e_u8 (l := ([1, conv .u8 (ishr .i64 (nI x1.length) 8), conv .u8 (nI x1.length)] ++ x1)) (n := (([1, conv .u8 (ishr .i64 (nI x1.length) 8), conv .u8 (nI x1.length)] ++ x1).length)) rfl)⟩, ⟨(le_map e_u8 (Nat.le_refl (([1, conv .u8 (ishr .i64 (nI x1.length) 8), conv .u8 (nI x1.length)] ++ x1).length)) : 0 + ([1, conv .u8 (ishr .i64 (nI x1.length) 8), conv .u8 (nI x1.length)] ++ x1).length ≤ (List.map e_u8 ([1, conv .u8 (ishr .i64 (nI x1.length) 8), conv .u8 (nI x1.length)] ++ x1)).length)⟩, ⟨(app_map e_u8 [1, conv .u8 (ishr .i64 (nI x1.length) 8), conv .u8 (nI x1.length)] x1)⟩, ⟨(rfl : eqN 3 3 = true)⟩, ⟨(rfl : (List.map e_u8 [1, conv .u8 (ishr .i64 (nI x1.length) 8), conv .u8 (nI x1.length)]).length = 3)⟩, ⟨c1⟩, ⟨(by simp only [List.length_append, List.length_cons, List.length_nil, List.length_take, List.length_drop, List.length_set, List.length_replicate, List.length_map, List.map_nil, List.map_cons] <;> omega : 3 + (List.map e_u8 x1).length = ([1, conv .u8 (ishr .i64 (nI x1.length) 8), conv .u8 (nI x1.length)] ++ x1).length)⟩, ⟨c0⟩, ⟨(len_map e_u8 x1)⟩] (by kernel_rfl)
        · rw [if_neg c3] at h
          replace c3 := eqf c3
          cases h
      · rw [if_neg c1] at h
        replace c1 := eqf c1
        cases h
end Go.Ws
