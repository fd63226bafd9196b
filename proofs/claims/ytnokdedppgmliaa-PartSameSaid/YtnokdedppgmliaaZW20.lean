/-
  part_Local: what the machine makes of it. (Printed by my own program.)
  Conditions: none.
-/
import Derived.Test.YtnokdedppgmliaaZPre
import Derived.Test.YtnokdedppgmliaaZPure
import Derived.Test.YtnokdedppgmliaaZW12
import Derived.Test.YtnokdedppgmliaaZW29
import Derived.Test.YtnokdedppgmliaaZW34
set_option linter.unusedVariables false
set_option linter.unusedSimpArgs false
namespace Go.Ws
open Go.Proofs
set_option linter.unusedSimpArgs false
set_option linter.unusedVariables false
set_option maxRecDepth 1000000
set_option maxHeartbeats 4000000
noncomputable def X20 : Ctx := ⟨Try.f20, [], true⟩
theorem ok_part_Local (k : Nat) (x1 : Int) (x2 : List (Int × Int)) (x3 : Bool) (x4 : Int) (r : Int × (List (Int × Int)) × Bool × Int × (List (Int × Int)) × Int) (h : part_Local k x1 x2 x3 x4 = some r) : Tri Try.prog 20 [(.agg [(.int .i64 x1), (.sl 2 (List.map e_u8_i64 x2)), (.bool x3), (.int .i64 x4)])] [] (.tup [(.agg [(.int .i64 r.1), (.sl 2 (List.map e_u8_i64 r.2.1)), (.bool r.2.2.1), (.int .i64 r.2.2.2.1)]), (.sl 2 (List.map e_u8_i64 r.2.2.2.2.1)), (.int .i64 r.2.2.2.2.2)]) [] := by
    unfold part_Local at h
    obtain ⟨x5, e0, h⟩ := Option.bind_eq_some_iff.1 h
    obtain ⟨x6, e1, h⟩ := Option.bind_eq_some_iff.1 h
    by_cases c2 : x6 = true
    · rw [if_pos c2] at h
      by_cases c3 : eqI x5.1 1 = true
      · rw [if_pos c3] at h
        by_cases c4 : x5.2.2.1 = true
        · rw [if_pos c4] at h
          obtain rfl := Option.some.inj h
          exact Tri.of (x := X20) mixed facts20 [.call ⟨true, []⟩ (.agg [(.int .i64 x5.1), (.sl 2 (List.map e_u8_i64 x5.2.1)), (.bool x5.2.2.1), (.int .i64 x5.2.2.2)]) [], .call ⟨true, []⟩ (.bool x6) [], .d false, .d false, .d true, .norm 0 ⟨[(2, []), (3, [(0, 2)]), (4, [])], [⟨.tmp 2, [], none⟩], false, [], []⟩] [⟨c4⟩, ⟨(nF c3)⟩, ⟨(nF c2)⟩, ⟨(ok_part_Right k x5.1 x5.2.1 x5.2.2.1 x5.2.2.2 _ e1)⟩, ⟨(ok_part_Part_own k x1 x2 x3 x4 _ e0)⟩] (by kernel_rfl)
        · rw [if_neg c4] at h
          replace c4 := eqf c4
          obtain ⟨x7, e5, h⟩ := Option.bind_eq_some_iff.1 h
          obtain rfl := Option.some.inj h
          exact Tri.of (x := X20) mixed facts20 [.call ⟨true, []⟩ (.agg [(.int .i64 x5.1), (.sl 2 (List.map e_u8_i64 x5.2.1)), (.bool x5.2.2.1), (.int .i64 x5.2.2.2)]) [], .call ⟨true, []⟩ (.bool x6) [], .d false, .d false, .d false, .call ⟨true, []⟩ (.ref 2 0 0 0 x5.2.1.length .virt) [(.arr 2 (List.map e_u8_i64 x5.2.1) 0 0 false)], .rows (List.map e_u8_i64 x5.2.1)] [⟨(part_all e_u8_i64 (l := x5.2.1) (n := x5.2.1.length) rfl)⟩, ⟨(le_map e_u8_i64 (Nat.le_refl x5.2.1.length) : 0 + x5.2.1.length ≤ (List.map e_u8_i64 x5.2.1).length)⟩, ⟨(ok_slices_Clone k x5.2.1 _ e5)⟩, ⟨c4⟩, ⟨(nF c3)⟩, ⟨(nF c2)⟩, ⟨(ok_part_Right k x5.1 x5.2.1 x5.2.2.1 x5.2.2.2 _ e1)⟩, ⟨(ok_part_Part_own k x1 x2 x3 x4 _ e0)⟩] (by kernel_rfl)
      · rw [if_neg c3] at h
        replace c3 := eqf c3
        obtain rfl := Option.some.inj h
        exact Tri.of (x := X20) mixed facts20 [.call ⟨true, []⟩ (.agg [(.int .i64 x5.1), (.sl 2 (List.map e_u8_i64 x5.2.1)), (.bool x5.2.2.1), (.int .i64 x5.2.2.2)]) [], .call ⟨true, []⟩ (.bool x6) [], .d false, .d true, .norm 0 ⟨[(2, []), (3, [(0, 2)]), (4, [])], [⟨.tmp 2, [], none⟩], false, [], []⟩] [⟨(nT c3)⟩, ⟨(nF c2)⟩, ⟨(ok_part_Right k x5.1 x5.2.1 x5.2.2.1 x5.2.2.2 _ e1)⟩, ⟨(ok_part_Part_own k x1 x2 x3 x4 _ e0)⟩] (by kernel_rfl)
    · rw [if_neg c2] at h
      replace c2 := eqf c2
      obtain rfl := Option.some.inj h
      exact Tri.of (x := X20) mixed facts20 [.call ⟨true, []⟩ (.agg [(.int .i64 x5.1), (.sl 2 (List.map e_u8_i64 x5.2.1)), (.bool x5.2.2.1), (.int .i64 x5.2.2.2)]) [], .call ⟨true, []⟩ (.bool x6) [], .d true, .norm 0 ⟨[(2, []), (3, [(0, 2)]), (4, [])], [⟨.tmp 2, [], none⟩], false, [], []⟩] [⟨(nT c2)⟩, ⟨(ok_part_Right k x5.1 x5.2.1 x5.2.2.1 x5.2.2.2 _ e1)⟩, ⟨(ok_part_Part_own k x1 x2 x3 x4 _ e0)⟩] (by kernel_rfl)
end Go.Ws
