/-
  disk_Append: what the machine makes of it. (Printed by my own program.)
  Conditions: none.
-/
import Derived.Test.YtaddlnmhjlmneaaZPre
import Derived.Test.YtaddlnmhjlmneaaZPure
import Derived.Test.YtaddlnmhjlmneaaZW26
import Derived.Test.YtaddlnmhjlmneaaZW27
set_option linter.unusedVariables false
set_option linter.unusedSimpArgs false
namespace Go.Ws
open Go.Proofs
set_option linter.unusedSimpArgs false
set_option linter.unusedVariables false
set_option maxRecDepth 1000000
set_option maxHeartbeats 4000000
noncomputable def X11 : Ctx := ⟨Try.f11, [], true⟩
theorem ok_disk_Append (k : Nat) (x1 : List Int) (x2 : Int) (x3 : Int) (x4 : List Int) (r : (List Int) × Int × Int × Int) (h : disk_Append k x1 x2 x3 x4 = some r) : Tri Try.prog 11 [(.agg [(.sl 1 (List.map e_u8 x1)), (.int .i64 x2), (.int .i64 x3)]), (.sl 1 (List.map e_u8 x4))] [] (.tup [(.agg [(.sl 1 (List.map e_u8 r.1)), (.int .i64 r.2.1), (.int .i64 r.2.2.1)]), (.int .i64 r.2.2.2)]) [] := by
    unfold disk_Append at h
    obtain ⟨x5, e0, h⟩ := Option.bind_eq_some_iff.1 h
    obtain ⟨x6, e1, h⟩ := Option.bind_eq_some_iff.1 h
    by_cases c2 : eqI x6.2 0 = true
    · rw [if_pos c2] at h
      by_cases c3 : ltI x3 (iadd .i64 (nI ((List.take (tN (imax 0 (imin (nI x1.length) (nI x1.length)))) x1).length)) (nI x6.1.length)) = true
      · rw [if_pos c3] at h
        obtain rfl := Option.some.inj h
        exact Tri.of (x := X11) mixed facts11 [.n x1.length, .call ⟨true, []⟩ (.agg [(.ref 1 0 0 0 ((List.take (tN (imax 0 (imin (nI x1.length) (nI x1.length)))) x1).length) .virt), (.int .i64 (imin x2 (imax 0 (imin (nI x1.length) (nI x1.length))))), (.int .i64 x3)]) [(.arr 1 (List.map e_u8 (List.take (tN (imax 0 (imin (nI x1.length) (nI x1.length)))) x1)) 0 0 false)], .call ⟨true, []⟩ (.tup [(.sl 1 (List.map e_u8 x6.1)), (.int .i64 x6.2)]) [], .d false, .n x6.1.length, .d true, .rows (List.map e_u8 (List.take (tN (imax 0 (imin (nI x1.length) (nI x1.length)))) x1))] [⟨(part_all e_u8 (l := (List.take (tN (imax 0 (imin (nI x1.length) (nI x1.length)))) x1)) (n := ((List.take (tN (imax 0 (imin (nI x1.length) (nI x1.length)))) x1).length)) rfl)⟩, ⟨(le_map e_u8 (Nat.le_refl ((List.take (tN (imax 0 (imin (nI x1.length) (nI x1.length)))) x1).length)) : 0 + (List.take (tN (imax 0 (imin (nI x1.length) (nI x1.length)))) x1).length ≤ (List.map e_u8 (List.take (tN (imax 0 (imin (nI x1.length) (nI x1.length)))) x1)).length)⟩, ⟨c3⟩, ⟨(len_map e_u8 x6.1)⟩, ⟨(nF c2)⟩, ⟨(ok_sum_Frame k x4 _ e1)⟩, ⟨(ok_disk_Disk_own k x1 x2 x3 (nI x1.length) _ e0)⟩, ⟨(len_map e_u8 x1)⟩] (by kernel_rfl)
      · rw [if_neg c3] at h
        replace c3 := eqf c3
        by_cases c4 : roomI ((((List.take (tN (imax 0 (imin (nI x1.length) (nI x1.length)))) x1) ++ x6.1).length) * 1) = true
        · rw [if_pos c4] at h
          obtain rfl := Option.some.inj h
          exact Tri.of (x := X11) mixed facts11 [.n x1.length, .call ⟨true, []⟩ (.agg [(.ref 1 0 0 0 ((List.take (tN (imax 0 (imin (nI x1.length) (nI x1.length)))) x1).length) .virt), (.int .i64 (imin x2 (imax 0 (imin (nI x1.length) (nI x1.length))))), (.int .i64 x3)]) [(.arr 1 (List.map e_u8 (List.take (tN (imax 0 (imin (nI x1.length) (nI x1.length)))) x1)) 0 0 false)], .call ⟨true, []⟩ (.tup [(.sl 1 (List.map e_u8 x6.1)), (.int .i64 x6.2)]) [], .d false, .n x6.1.length, .d false, .n (((List.take (tN (imax 0 (imin (nI x1.length) (nI x1.length)))) x1) ++ x6.1).length), .n ((List.take (tN (imax 0 (imin (nI x1.length) (nI x1.length)))) x1).length), .d true, .rows (List.map e_u8 ((List.take (tN (imax 0 (imin (nI x1.length) (nI x1.length)))) x1) ++ x6.1)), .rows (List.map e_u8 ((List.take (tN (imax 0 (imin (nI x1.length) (nI x1.length)))) x1) ++ x6.1))] [⟨(part_all e_u8 (l := ((List.take (tN (imax 0 (imin (nI x1.length) (nI x1.length)))) x1) ++ x6.1)) (n := (((List.take (tN (imax 0 (imin (nI x1.length) (nI x1.length)))) x1) ++ x6.1).length)) rfl)⟩, ⟨(le_map e_u8 (Nat.le_refl (((List.take (tN (imax 0 (imin (nI x1.length) (nI x1.length)))) x1) ++ x6.1).length)) : 0 + ((List.take (tN (imax 0 (imin (nI x1.length) (nI x1.length)))) x1) ++ x6.1).length ≤ (List.map e_u8 ((List.take (tN (imax 0 (imin (nI x1.length) (nI x1.length)))) x1) ++ x6.1)).length)⟩, ⟨(app_map e_u8 (List.take (tN (imax 0 (imin (nI x1.length) (nI x1.length)))) x1) x6.1)⟩, ⟨(eqN_self ((List.take (tN (imax 0 (imin (nI x1.length) (nI x1.length)))) x1).length))⟩, ⟨(len_map e_u8 (List.take (tN (imax 0 (imin (nI x1.length) (nI x1.length)))) x1))⟩, ⟨c4⟩, ⟨(by simp only [List.length_append, List.length_cons, List.length_nil, List.length_take, List.length_drop, List.length_set, List.length_replicate, List.length_map, List.map_nil, List.map_cons] <;> omega : ((List.take (tN (imax 0 (imin (nI x1.length) (nI x1.length)))) x1).length) + (List.map e_u8 x6.1).length = ((List.take (tN (imax 0 (imin (nI x1.length) (nI x1.length)))) x1) ++ x6.1).length)⟩, ⟨c3⟩, ⟨(len_map e_u8 x6.1)⟩, ⟨(nF c2)⟩, ⟨(ok_sum_Frame k x4 _ e1)⟩, ⟨(ok_disk_Disk_own k x1 x2 x3 (nI x1.length) _ e0)⟩, ⟨(len_map e_u8 x1)⟩] (by kernel_rfl)
        · rw [if_neg c4] at h
          replace c4 := eqf c4
          cases h
    · rw [if_neg c2] at h
      replace c2 := eqf c2
      obtain rfl := Option.some.inj h
      exact Tri.of (x := X11) mixed facts11 [.n x1.length, .call ⟨true, []⟩ (.agg [(.ref 1 0 0 0 ((List.take (tN (imax 0 (imin (nI x1.length) (nI x1.length)))) x1).length) .virt), (.int .i64 (imin x2 (imax 0 (imin (nI x1.length) (nI x1.length))))), (.int .i64 x3)]) [(.arr 1 (List.map e_u8 (List.take (tN (imax 0 (imin (nI x1.length) (nI x1.length)))) x1)) 0 0 false)], .call ⟨true, []⟩ (.tup [(.sl 1 (List.map e_u8 x6.1)), (.int .i64 x6.2)]) [], .d true, .rows (List.map e_u8 (List.take (tN (imax 0 (imin (nI x1.length) (nI x1.length)))) x1))] [⟨(part_all e_u8 (l := (List.take (tN (imax 0 (imin (nI x1.length) (nI x1.length)))) x1)) (n := ((List.take (tN (imax 0 (imin (nI x1.length) (nI x1.length)))) x1).length)) rfl)⟩, ⟨(le_map e_u8 (Nat.le_refl ((List.take (tN (imax 0 (imin (nI x1.length) (nI x1.length)))) x1).length)) : 0 + (List.take (tN (imax 0 (imin (nI x1.length) (nI x1.length)))) x1).length ≤ (List.map e_u8 (List.take (tN (imax 0 (imin (nI x1.length) (nI x1.length)))) x1)).length)⟩, ⟨(nT c2)⟩, ⟨(ok_sum_Frame k x4 _ e1)⟩, ⟨(ok_disk_Disk_own k x1 x2 x3 (nI x1.length) _ e0)⟩, ⟨(len_map e_u8 x1)⟩] (by kernel_rfl)
end Go.Ws
