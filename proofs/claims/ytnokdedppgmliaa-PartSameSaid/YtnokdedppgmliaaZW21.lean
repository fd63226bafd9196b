/-
  part_Add: what the machine makes of it. (Printed by my own program.)
  Conditions: none.
-/
import Derived.Test.YtnokdedppgmliaaZPre
import Derived.Test.YtnokdedppgmliaaZPure
import Derived.Test.YtnokdedppgmliaaZW12
import Derived.Test.YtnokdedppgmliaaZW28
import Derived.Test.YtnokdedppgmliaaZW34_1
set_option linter.unusedVariables false
set_option linter.unusedSimpArgs false
namespace Go.Ws
open Go.Proofs
set_option linter.unusedSimpArgs false
set_option linter.unusedVariables false
set_option maxRecDepth 1000000
set_option maxHeartbeats 4000000
noncomputable def X21 : Ctx := ⟨Try.f21, [], true⟩
theorem ok_part_Add (k : Nat) (x1 : Int) (x2 : List (Int × Int)) (x3 : Bool) (x4 : Int) (x5 : Int) (x6 : Int) (r : Int × (List (Int × Int)) × Bool × Int × Int) (h : part_Add k x1 x2 x3 x4 x5 x6 = some r) : Tri Try.prog 21 [(.agg [(.int .i64 x1), (.sl 2 (List.map e_u8_i64 x2)), (.bool x3), (.int .i64 x4)]), (.agg [(.int .u8 x5), (.int .i64 x6)])] [] (.tup [(.agg [(.int .i64 r.1), (.sl 2 (List.map e_u8_i64 r.2.1)), (.bool r.2.2.1), (.int .i64 r.2.2.2.1)]), (.int .i64 r.2.2.2.2)]) [] := by
    unfold part_Add at h
    obtain ⟨x7, e0, h⟩ := Option.bind_eq_some_iff.1 h
    obtain ⟨x8, e1, h⟩ := Option.bind_eq_some_iff.1 h
    by_cases c2 : x8 = true
    · rw [if_pos c2] at h
      by_cases c3 : (part_wide x5 x6) = true
      · rw [if_pos c3] at h
        obtain rfl := Option.some.inj h
        exact Tri.of (x := X21) mixed facts21 [.call ⟨true, []⟩ (.agg [(.int .i64 x1), (.ref 2 0 0 0 x2.length .virt), (.bool x3), (.int .i64 x4)]) [(.arr 2 (List.map e_u8_i64 x2) 0 0 false)], .call ⟨true, []⟩ (.bool x8) [], .rows (List.map e_u8_i64 x2), .d false, .d false, .call ⟨true, []⟩ (.bool (part_wide x5 x6)) [], .d false, .d true, .rows (List.map e_u8_i64 x2)] [⟨(part_all e_u8_i64 (l := x2) (n := x2.length) rfl)⟩, ⟨(le_map e_u8_i64 (Nat.le_refl x2.length) : 0 + x2.length ≤ (List.map e_u8_i64 x2).length)⟩, ⟨c3⟩, ⟨(nF c2)⟩, ⟨(ok_part_wide x5 x6)⟩, ⟨(nF c2)⟩, ⟨(nF c2)⟩, ⟨(ok_part_Right k x1 x2 x3 x4 _ e1)⟩, ⟨(part_all e_u8_i64 (l := x2) (n := x2.length) rfl)⟩, ⟨(le_map e_u8_i64 (Nat.le_refl x2.length) : 0 + x2.length ≤ (List.map e_u8_i64 x2).length)⟩, ⟨(ok_part_Part_own_1 k x1 x2 x3 x4 _ e0)⟩] (by kernel_rfl)
      · rw [if_neg c3] at h
        replace c3 := eqf c3
        by_cases c4 : eqI x1 0 = true
        · rw [if_pos c4] at h
          by_cases c5 : ltI (nI x2.length) 50 = true
          · rw [if_pos c5] at h
            by_cases c6 : roomI (((x2 ++ [(x5, x6)]).length) * 16) = true
            · rw [if_pos c6] at h
              obtain rfl := Option.some.inj h
              exact Tri.of (x := X21) mixed facts21 [.call ⟨true, []⟩ (.agg [(.int .i64 x1), (.ref 2 0 0 0 x2.length .virt), (.bool x3), (.int .i64 x4)]) [(.arr 2 (List.map e_u8_i64 x2) 0 0 false)], .call ⟨true, []⟩ (.bool x8) [], .rows (List.map e_u8_i64 x2), .d false, .d false, .call ⟨true, []⟩ (.bool (part_wide x5 x6)) [], .d false, .d false, .d false, .d false, .rows (List.map e_u8_i64 [(x5, x6)]), .n ((x2 ++ [(x5, x6)]).length), .n x2.length, .d true, .rows (List.map e_u8_i64 (x2 ++ [(x5, x6)])), .rows (List.map e_u8_i64 (x2 ++ [(x5, x6)]))] [⟨(part_all e_u8_i64 (l := (x2 ++ [(x5, x6)])) (n := ((x2 ++ [(x5, x6)]).length)) rfl)⟩, ⟨(le_map e_u8_i64 (Nat.le_refl ((x2 ++ [(x5, x6)]).length)) : 0 + (x2 ++ [(x5, x6)]).length ≤ (List.map e_u8_i64 (x2 ++ [(x5, x6)])).length)⟩, ⟨(app_map e_u8_i64 x2 [(x5, x6)])⟩, ⟨(eqN_self x2.length)⟩, ⟨(len_map e_u8_i64 x2)⟩, ⟨c6⟩, ⟨(by simp only [List.length_append, List.length_cons, List.length_nil, List.length_take, List.length_drop, List.length_set, List.length_replicate, List.length_map, List.map_nil, List.map_cons] <;> omega : x2.length + (List.map e_u8_i64 [(x5, x6)]).length = (x2 ++ [(x5, x6)]).length)⟩, ⟨(part_all e_u8_i64 (l := [(x5, x6)]) (n := 1) rfl)⟩, ⟨(le_map e_u8_i64 (Nat.le_refl 1) : 0 + 1 ≤ (List.map e_u8_i64 [(x5, x6)]).length)⟩, ⟨(nF c5)⟩, ⟨(nF c4)⟩, ⟨c3⟩, ⟨(nF c2)⟩, ⟨(ok_part_wide x5 x6)⟩, ⟨(nF c2)⟩, ⟨(nF c2)⟩, ⟨(ok_part_Right k x1 x2 x3 x4 _ e1)⟩, ⟨(part_all e_u8_i64 (l := x2) (n := x2.length) rfl)⟩, ⟨(le_map e_u8_i64 (Nat.le_refl x2.length) : 0 + x2.length ≤ (List.map e_u8_i64 x2).length)⟩, ⟨(ok_part_Part_own_1 k x1 x2 x3 x4 _ e0)⟩] (by kernel_rfl)
            · rw [if_neg c6] at h
              replace c6 := eqf c6
              cases h
          · rw [if_neg c5] at h
            replace c5 := eqf c5
            obtain rfl := Option.some.inj h
            exact Tri.of (x := X21) mixed facts21 [.call ⟨true, []⟩ (.agg [(.int .i64 x1), (.ref 2 0 0 0 x2.length .virt), (.bool x3), (.int .i64 x4)]) [(.arr 2 (List.map e_u8_i64 x2) 0 0 false)], .call ⟨true, []⟩ (.bool x8) [], .rows (List.map e_u8_i64 x2), .d false, .d false, .call ⟨true, []⟩ (.bool (part_wide x5 x6)) [], .d false, .d false, .d false, .d true, .rows (List.map e_u8_i64 x2)] [⟨(part_all e_u8_i64 (l := x2) (n := x2.length) rfl)⟩, ⟨(le_map e_u8_i64 (Nat.le_refl x2.length) : 0 + x2.length ≤ (List.map e_u8_i64 x2).length)⟩, ⟨(nT c5)⟩, ⟨(nF c4)⟩, ⟨c3⟩, ⟨(nF c2)⟩, ⟨(ok_part_wide x5 x6)⟩, ⟨(nF c2)⟩, ⟨(nF c2)⟩, ⟨(ok_part_Right k x1 x2 x3 x4 _ e1)⟩, ⟨(part_all e_u8_i64 (l := x2) (n := x2.length) rfl)⟩, ⟨(le_map e_u8_i64 (Nat.le_refl x2.length) : 0 + x2.length ≤ (List.map e_u8_i64 x2).length)⟩, ⟨(ok_part_Part_own_1 k x1 x2 x3 x4 _ e0)⟩] (by kernel_rfl)
        · rw [if_neg c4] at h
          replace c4 := eqf c4
          obtain rfl := Option.some.inj h
          exact Tri.of (x := X21) mixed facts21 [.call ⟨true, []⟩ (.agg [(.int .i64 x1), (.ref 2 0 0 0 x2.length .virt), (.bool x3), (.int .i64 x4)]) [(.arr 2 (List.map e_u8_i64 x2) 0 0 false)], .call ⟨true, []⟩ (.bool x8) [], .rows (List.map e_u8_i64 x2), .d false, .d false, .call ⟨true, []⟩ (.bool (part_wide x5 x6)) [], .d false, .d false, .d true, .rows (List.map e_u8_i64 x2)] [⟨(part_all e_u8_i64 (l := x2) (n := x2.length) rfl)⟩, ⟨(le_map e_u8_i64 (Nat.le_refl x2.length) : 0 + x2.length ≤ (List.map e_u8_i64 x2).length)⟩, ⟨(nT c4)⟩, ⟨c3⟩, ⟨(nF c2)⟩, ⟨(ok_part_wide x5 x6)⟩, ⟨(nF c2)⟩, ⟨(nF c2)⟩, ⟨(ok_part_Right k x1 x2 x3 x4 _ e1)⟩, ⟨(part_all e_u8_i64 (l := x2) (n := x2.length) rfl)⟩, ⟨(le_map e_u8_i64 (Nat.le_refl x2.length) : 0 + x2.length ≤ (List.map e_u8_i64 x2).length)⟩, ⟨(ok_part_Part_own_1 k x1 x2 x3 x4 _ e0)⟩] (by kernel_rfl)
    · rw [if_neg c2] at h
      replace c2 := eqf c2
      obtain rfl := Option.some.inj h
      exact Tri.of (x := X21) mixed facts21 [.call ⟨true, []⟩ (.agg [(.int .i64 x1), (.ref 2 0 0 0 x2.length .virt), (.bool x3), (.int .i64 x4)]) [(.arr 2 (List.map e_u8_i64 x2) 0 0 false)], .call ⟨true, []⟩ (.bool x8) [], .rows (List.map e_u8_i64 x2), .d true, .d true, .d true, .d true, .rows (List.map e_u8_i64 x2)] [⟨(part_all e_u8_i64 (l := x2) (n := x2.length) rfl)⟩, ⟨(le_map e_u8_i64 (Nat.le_refl x2.length) : 0 + x2.length ≤ (List.map e_u8_i64 x2).length)⟩, ⟨(rfl : true = true)⟩, ⟨(nT c2)⟩, ⟨(nT c2)⟩, ⟨(nT c2)⟩, ⟨(ok_part_Right k x1 x2 x3 x4 _ e1)⟩, ⟨(part_all e_u8_i64 (l := x2) (n := x2.length) rfl)⟩, ⟨(le_map e_u8_i64 (Nat.le_refl x2.length) : 0 + x2.length ≤ (List.map e_u8_i64 x2).length)⟩, ⟨(ok_part_Part_own_1 k x1 x2 x3 x4 _ e0)⟩] (by kernel_rfl)
end Go.Ws
