/-
  ref09_Add: what the machine makes of it. (Printed by my own program.)
  Conditions: none.
-/
import Derived.Test.YtnokdedppgmliaaZPre
import Derived.Test.YtnokdedppgmliaaZPure
import Derived.Test.YtnokdedppgmliaaZW13
set_option linter.unusedVariables false
set_option linter.unusedSimpArgs false
namespace Go.Ws
open Go.Proofs
set_option linter.unusedSimpArgs false
set_option linter.unusedVariables false
set_option maxRecDepth 1000000
set_option maxHeartbeats 4000000
noncomputable def X26 : Ctx := ⟨Try.f26, [], true⟩
theorem ok_ref09_Add (k : Nat) (x1 : Int) (x2 : List (Int × Int)) (x3 : Bool) (x4 : Int) (x5 : Int) (x6 : Int) (r : Int × (List (Int × Int)) × Bool × Int × Int) (h : ref09_Add k x1 x2 x3 x4 x5 x6 = some r) : Tri Try.prog 26 [(.agg [(.int .i64 x1), (.sl 2 (List.map e_u8_i64 x2)), (.bool x3), (.int .i64 x4)]), (.agg [(.int .u8 x5), (.int .i64 x6)])] [] (.tup [(.agg [(.int .i64 r.1), (.sl 2 (List.map e_u8_i64 r.2.1)), (.bool r.2.2.1), (.int .i64 r.2.2.2.1)]), (.int .i64 r.2.2.2.2)]) [] := by
    unfold ref09_Add at h
    obtain ⟨x7, e0, h⟩ := Option.bind_eq_some_iff.1 h
    by_cases c1 : x7 = true
    · rw [if_pos c1] at h
      by_cases c2 : ltI x5 64 = true
      · rw [if_pos c2] at h
        by_cases c3 : eqI x1 0 = true
        · rw [if_pos c3] at h
          by_cases c4 : ltI (nI x2.length) 50 = true
          · rw [if_pos c4] at h
            by_cases c5 : roomI (x2.length * 16) = true
            · rw [if_pos c5] at h
              by_cases c6 : roomI (((x2 ++ [(x5, x6)]).length) * 16) = true
              · rw [if_pos c6] at h
                obtain rfl := Option.some.inj h
                exact Tri.of (x := X26) mixed facts26 [.call ⟨true, []⟩ (.bool x7) [], .d false, .d false, .d false, .d false, .d false, .d false, .n x2.length, .d false, .n x2.length, .rows (List.map e_u8_i64 [(x5, x6)]), .n ((x2 ++ [(x5, x6)]).length), .n x2.length, .d true, .rows (List.map e_u8_i64 (x2 ++ [(x5, x6)])), .rows (List.map e_u8_i64 (x2 ++ [(x5, x6)]))] [⟨(part_all e_u8_i64 (l := (x2 ++ [(x5, x6)])) (n := ((x2 ++ [(x5, x6)]).length)) rfl)⟩, ⟨(le_map e_u8_i64 (Nat.le_refl ((x2 ++ [(x5, x6)]).length)) : 0 + (x2 ++ [(x5, x6)]).length ≤ (List.map e_u8_i64 (x2 ++ [(x5, x6)])).length)⟩, ⟨(app_map e_u8_i64 x2 [(x5, x6)])⟩, ⟨(eqN_self x2.length)⟩, ⟨(len_map e_u8_i64 x2)⟩, ⟨c6⟩, ⟨(by simp only [List.length_append, List.length_cons, List.length_nil, List.length_take, List.length_drop, List.length_set, List.length_replicate, List.length_map, List.map_nil, List.map_cons] <;> omega : x2.length + (List.map e_u8_i64 [(x5, x6)]).length = (x2 ++ [(x5, x6)]).length)⟩, ⟨(part_all e_u8_i64 (l := [(x5, x6)]) (n := 1) rfl)⟩, ⟨(le_map e_u8_i64 (Nat.le_refl 1) : 0 + 1 ≤ (List.map e_u8_i64 [(x5, x6)]).length)⟩, ⟨c5⟩, ⟨(len_map e_u8_i64 x2)⟩, ⟨(nF c4)⟩, ⟨(len_map e_u8_i64 x2)⟩, ⟨(nF c3)⟩, ⟨(nF c2)⟩, ⟨(nF c1)⟩, ⟨(nF c1)⟩, ⟨(nF c1)⟩, ⟨(nF c1)⟩, ⟨(ok_ref09_Right k x1 x2 x3 x4 _ e0)⟩] (by kernel_rfl)
              · rw [if_neg c6] at h
                replace c6 := eqf c6
                cases h
            · rw [if_neg c5] at h
              replace c5 := eqf c5
              cases h
          · rw [if_neg c4] at h
            replace c4 := eqf c4
            obtain rfl := Option.some.inj h
            exact Tri.of (x := X26) mixed facts26 [.call ⟨true, []⟩ (.bool x7) [], .d false, .d false, .d false, .d false, .d false, .d false, .n x2.length, .d true] [⟨(nT c4)⟩, ⟨(len_map e_u8_i64 x2)⟩, ⟨(nF c3)⟩, ⟨(nF c2)⟩, ⟨(nF c1)⟩, ⟨(nF c1)⟩, ⟨(nF c1)⟩, ⟨(nF c1)⟩, ⟨(ok_ref09_Right k x1 x2 x3 x4 _ e0)⟩] (by kernel_rfl)
        · rw [if_neg c3] at h
          replace c3 := eqf c3
          obtain rfl := Option.some.inj h
          exact Tri.of (x := X26) mixed facts26 [.call ⟨true, []⟩ (.bool x7) [], .d false, .d false, .d false, .d false, .d false, .d true] [⟨(nT c3)⟩, ⟨(nF c2)⟩, ⟨(nF c1)⟩, ⟨(nF c1)⟩, ⟨(nF c1)⟩, ⟨(nF c1)⟩, ⟨(ok_ref09_Right k x1 x2 x3 x4 _ e0)⟩] (by kernel_rfl)
      · rw [if_neg c2] at h
        replace c2 := eqf c2
        obtain rfl := Option.some.inj h
        exact Tri.of (x := X26) mixed facts26 [.call ⟨true, []⟩ (.bool x7) [], .d false, .d false, .d false, .d false, .d true] [⟨(nT c2)⟩, ⟨(nF c1)⟩, ⟨(nF c1)⟩, ⟨(nF c1)⟩, ⟨(nF c1)⟩, ⟨(ok_ref09_Right k x1 x2 x3 x4 _ e0)⟩] (by kernel_rfl)
    · rw [if_neg c1] at h
      replace c1 := eqf c1
      obtain rfl := Option.some.inj h
      exact Tri.of (x := X26) mixed facts26 [.call ⟨true, []⟩ (.bool x7) [], .d true, .d true, .d true, .d true, .d true] [⟨(rfl : true = true)⟩, ⟨(nT c1)⟩, ⟨(nT c1)⟩, ⟨(nT c1)⟩, ⟨(nT c1)⟩, ⟨(ok_ref09_Right k x1 x2 x3 x4 _ e0)⟩] (by kernel_rfl)
end Go.Ws
