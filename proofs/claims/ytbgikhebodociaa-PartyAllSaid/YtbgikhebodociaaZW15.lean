/-
  party_Say: what the machine makes of it. (Printed by my own program.)
  Conditions: none.
-/
import Derived.Test.YtbgikhebodociaaZPre
import Derived.Test.YtbgikhebodociaaZPure
import Derived.Test.YtbgikhebodociaaZW13
import Derived.Test.YtbgikhebodociaaZW18
set_option linter.unusedVariables false
set_option linter.unusedSimpArgs false
namespace Go.Ws
open Go.Proofs
set_option linter.unusedSimpArgs false
set_option linter.unusedVariables false
set_option maxRecDepth 1000000
set_option maxHeartbeats 4000000
noncomputable def X15 : Ctx := ⟨Try.f15, [], true⟩
theorem ok_party_Say (k : Nat) (x1 : Int) (x2 : List (Int × ByteArray)) (x3 : Int) (x4 : ByteArray) (r : Int × (List (Int × ByteArray)) × Int × Int × ByteArray × Int) (h : party_Say k x1 x2 x3 x4 = some r) : Tri Try.prog 15 [(.agg [(.int .i64 x1), (.sl 2 (List.map e_i64_s x2)), (.int .i64 x3)]), (.str x4)] [] (.tup [(.agg [(.int .i64 r.1), (.sl 2 (List.map e_i64_s r.2.1)), (.int .i64 r.2.2.1)]), (.agg [(.int .i64 r.2.2.2.1), (.str r.2.2.2.2.1)]), (.int .i64 r.2.2.2.2.2)]) [] := by
    unfold party_Say at h
    obtain ⟨x5, e0, h⟩ := Option.bind_eq_some_iff.1 h
    obtain ⟨x6, e1, h⟩ := Option.bind_eq_some_iff.1 h
    by_cases c2 : x6 = true
    · rw [if_pos c2] at h
      by_cases c3 : ltI 500 (ssz x4) = true
      · rw [if_pos c3] at h
        obtain rfl := Option.some.inj h
        exact Tri.of (x := X15) mixed facts15 [.call ⟨true, []⟩ (.ref 2 0 0 0 x2.length .virt) [(.arr 2 (List.map e_i64_s x2) 0 0 false)], .call ⟨true, []⟩ (.bool x6) [], .rows (List.map e_i64_s x2), .d false, .d true, .d true, .d true, .d true, .d true, .rows (List.map e_i64_s x2)] [⟨(part_all e_i64_s (l := x2) (n := x2.length) rfl)⟩, ⟨(le_map e_i64_s (Nat.le_refl x2.length) : 0 + x2.length ≤ (List.map e_i64_s x2).length)⟩, ⟨(rfl : true = true)⟩, ⟨c3⟩, ⟨c3⟩, ⟨c3⟩, ⟨c3⟩, ⟨(nF c2)⟩, ⟨(ok_party_Right k x1 x2 x3 _ e1)⟩, ⟨(part_all e_i64_s (l := x2) (n := x2.length) rfl)⟩, ⟨(le_map e_i64_s (Nat.le_refl x2.length) : 0 + x2.length ≤ (List.map e_i64_s x2).length)⟩, ⟨(ok_slices_Clone k x2 _ e0)⟩] (by kernel_rfl)
      · rw [if_neg c3] at h
        replace c3 := eqf c3
        by_cases c4 : eqI x1 1048576 = true
        · rw [if_pos c4] at h
          obtain rfl := Option.some.inj h
          exact Tri.of (x := X15) mixed facts15 [.call ⟨true, []⟩ (.ref 2 0 0 0 x2.length .virt) [(.arr 2 (List.map e_i64_s x2) 0 0 false)], .call ⟨true, []⟩ (.bool x6) [], .rows (List.map e_i64_s x2), .d false, .d false, .d false, .d false, .d false, .d true, .rows (List.map e_i64_s x2)] [⟨(part_all e_i64_s (l := x2) (n := x2.length) rfl)⟩, ⟨(le_map e_i64_s (Nat.le_refl x2.length) : 0 + x2.length ≤ (List.map e_i64_s x2).length)⟩, ⟨c4⟩, ⟨c3⟩, ⟨c3⟩, ⟨c3⟩, ⟨c3⟩, ⟨(nF c2)⟩, ⟨(ok_party_Right k x1 x2 x3 _ e1)⟩, ⟨(part_all e_i64_s (l := x2) (n := x2.length) rfl)⟩, ⟨(le_map e_i64_s (Nat.le_refl x2.length) : 0 + x2.length ≤ (List.map e_i64_s x2).length)⟩, ⟨(ok_slices_Clone k x2 _ e0)⟩] (by kernel_rfl)
        · rw [if_neg c4] at h
          replace c4 := eqf c4
          by_cases c5 : ltI (nI x2.length) x3 = true
          · rw [if_pos c5] at h
            by_cases c6 : roomI (((x2 ++ [(x1, x4)]).length) * 24) = true
            · rw [if_pos c6] at h
              obtain rfl := Option.some.inj h
              exact Tri.of (x := X15) mixed facts15 [.call ⟨true, []⟩ (.ref 2 0 0 0 x2.length .virt) [(.arr 2 (List.map e_i64_s x2) 0 0 false)], .call ⟨true, []⟩ (.bool x6) [], .rows (List.map e_i64_s x2), .d false, .d false, .d false, .d false, .d false, .d false, .d false, .rows (List.map e_i64_s [(x1, x4)]), .n ((x2 ++ [(x1, x4)]).length), .n x2.length, .d true, .rows (List.map e_i64_s (x2 ++ [(x1, x4)])), .rows (List.map e_i64_s (x2 ++ [(x1, x4)]))] [⟨(part_all e_i64_s (l := (x2 ++ [(x1, x4)])) (n := ((x2 ++ [(x1, x4)]).length)) rfl)⟩, ⟨(le_map e_i64_s (Nat.le_refl ((x2 ++ [(x1, x4)]).length)) : 0 + (x2 ++ [(x1, x4)]).length ≤ (List.map e_i64_s (x2 ++ [(x1, x4)])).length)⟩, ⟨(app_map e_i64_s x2 [(x1, x4)])⟩, ⟨(eqN_self x2.length)⟩, ⟨(len_map e_i64_s x2)⟩, ⟨c6⟩, ⟨(by simp only [List.length_append, List.length_cons, List.length_nil, List.length_take, List.length_drop, List.length_set, List.length_replicate, List.length_map, List.map_nil, List.map_cons] <;> omega : x2.length + (List.map e_i64_s [(x1, x4)]).length = (x2 ++ [(x1, x4)]).length)⟩, ⟨(part_all e_i64_s (l := [(x1, x4)]) (n := 1) rfl)⟩, ⟨(le_map e_i64_s (Nat.le_refl 1) : 0 + 1 ≤ (List.map e_i64_s [(x1, x4)]).length)⟩, ⟨(nF c5)⟩, ⟨c4⟩, ⟨c3⟩, ⟨c3⟩, ⟨c3⟩, ⟨c3⟩, ⟨(nF c2)⟩, ⟨(ok_party_Right k x1 x2 x3 _ e1)⟩, ⟨(part_all e_i64_s (l := x2) (n := x2.length) rfl)⟩, ⟨(le_map e_i64_s (Nat.le_refl x2.length) : 0 + x2.length ≤ (List.map e_i64_s x2).length)⟩, ⟨(ok_slices_Clone k x2 _ e0)⟩] (by kernel_rfl)
            · rw [if_neg c6] at h
              replace c6 := eqf c6
              cases h
          · rw [if_neg c5] at h
            replace c5 := eqf c5
            obtain rfl := Option.some.inj h
            exact Tri.of (x := X15) mixed facts15 [.call ⟨true, []⟩ (.ref 2 0 0 0 x2.length .virt) [(.arr 2 (List.map e_i64_s x2) 0 0 false)], .call ⟨true, []⟩ (.bool x6) [], .rows (List.map e_i64_s x2), .d false, .d false, .d false, .d false, .d false, .d false, .d true, .rows (List.map e_i64_s x2)] [⟨(part_all e_i64_s (l := x2) (n := x2.length) rfl)⟩, ⟨(le_map e_i64_s (Nat.le_refl x2.length) : 0 + x2.length ≤ (List.map e_i64_s x2).length)⟩, ⟨(nT c5)⟩, ⟨c4⟩, ⟨c3⟩, ⟨c3⟩, ⟨c3⟩, ⟨c3⟩, ⟨(nF c2)⟩, ⟨(ok_party_Right k x1 x2 x3 _ e1)⟩, ⟨(part_all e_i64_s (l := x2) (n := x2.length) rfl)⟩, ⟨(le_map e_i64_s (Nat.le_refl x2.length) : 0 + x2.length ≤ (List.map e_i64_s x2).length)⟩, ⟨(ok_slices_Clone k x2 _ e0)⟩] (by kernel_rfl)
    · rw [if_neg c2] at h
      replace c2 := eqf c2
      obtain rfl := Option.some.inj h
      exact Tri.of (x := X15) mixed facts15 [.call ⟨true, []⟩ (.ref 2 0 0 0 x2.length .virt) [(.arr 2 (List.map e_i64_s x2) 0 0 false)], .call ⟨true, []⟩ (.bool x6) [], .rows (List.map e_i64_s x2), .d true, .rows (List.map e_i64_s x2)] [⟨(part_all e_i64_s (l := x2) (n := x2.length) rfl)⟩, ⟨(le_map e_i64_s (Nat.le_refl x2.length) : 0 + x2.length ≤ (List.map e_i64_s x2).length)⟩, ⟨(nT c2)⟩, ⟨(ok_party_Right k x1 x2 x3 _ e1)⟩, ⟨(part_all e_i64_s (l := x2) (n := x2.length) rfl)⟩, ⟨(le_map e_i64_s (Nat.le_refl x2.length) : 0 + x2.length ≤ (List.map e_i64_s x2).length)⟩, ⟨(ok_slices_Clone k x2 _ e0)⟩] (by kernel_rfl)
end Go.Ws
