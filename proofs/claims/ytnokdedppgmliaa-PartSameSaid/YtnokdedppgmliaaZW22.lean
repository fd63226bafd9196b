/-
  part_Vote: what the machine makes of it. (Printed by my own program.)
  Conditions: none.
-/
import Derived.Test.YtnokdedppgmliaaZPre
import Derived.Test.YtnokdedppgmliaaZPure
import Derived.Test.YtnokdedppgmliaaZW12
import Derived.Test.YtnokdedppgmliaaZW34
set_option linter.unusedVariables false
set_option linter.unusedSimpArgs false
namespace Go.Ws
open Go.Proofs
set_option linter.unusedSimpArgs false
set_option linter.unusedVariables false
set_option maxRecDepth 1000000
set_option maxHeartbeats 4000000
noncomputable def X22 : Ctx := ⟨Try.f22, [], true⟩
theorem ok_part_Vote (k : Nat) (x1 : Int) (x2 : List (Int × Int)) (x3 : Bool) (x4 : Int) (x5 : Bool) (r : Int × (List (Int × Int)) × Bool × Int × Int) (h : part_Vote k x1 x2 x3 x4 x5 = some r) : Tri Try.prog 22 [(.agg [(.int .i64 x1), (.sl 2 (List.map e_u8_i64 x2)), (.bool x3), (.int .i64 x4)]), (.bool x5)] [] (.tup [(.agg [(.int .i64 r.1), (.sl 2 (List.map e_u8_i64 r.2.1)), (.bool r.2.2.1), (.int .i64 r.2.2.2.1)]), (.int .i64 r.2.2.2.2)]) [] := by
    unfold part_Vote at h
    obtain ⟨x6, e0, h⟩ := Option.bind_eq_some_iff.1 h
    obtain ⟨x7, e1, h⟩ := Option.bind_eq_some_iff.1 h
    by_cases c2 : x7 = true
    · rw [if_pos c2] at h
      by_cases c3 : eqI x6.1 0 = true
      · rw [if_pos c3] at h
        by_cases c4 : x5 = true
        · rw [if_pos c4] at h
          obtain rfl := Option.some.inj h
          exact Tri.of (x := X22) mixed facts22 [.call ⟨true, []⟩ (.agg [(.int .i64 x6.1), (.sl 2 (List.map e_u8_i64 x6.2.1)), (.bool x6.2.2.1), (.int .i64 x6.2.2.2)]) [], .call ⟨true, []⟩ (.bool x7) [], .d false, .d false, .d true] [⟨c4⟩, ⟨(nF c3)⟩, ⟨(nF c2)⟩, ⟨(ok_part_Right k x6.1 x6.2.1 x6.2.2.1 x6.2.2.2 _ e1)⟩, ⟨(ok_part_Part_own k x1 x2 x3 x4 _ e0)⟩] (by kernel_rfl)
        · rw [if_neg c4] at h
          replace c4 := eqf c4
          obtain rfl := Option.some.inj h
          exact Tri.of (x := X22) mixed facts22 [.call ⟨true, []⟩ (.agg [(.int .i64 x6.1), (.sl 2 (List.map e_u8_i64 x6.2.1)), (.bool x6.2.2.1), (.int .i64 x6.2.2.2)]) [], .call ⟨true, []⟩ (.bool x7) [], .d false, .d false, .d false] [⟨c4⟩, ⟨(nF c3)⟩, ⟨(nF c2)⟩, ⟨(ok_part_Right k x6.1 x6.2.1 x6.2.2.1 x6.2.2.2 _ e1)⟩, ⟨(ok_part_Part_own k x1 x2 x3 x4 _ e0)⟩] (by kernel_rfl)
      · rw [if_neg c3] at h
        replace c3 := eqf c3
        obtain rfl := Option.some.inj h
        exact Tri.of (x := X22) mixed facts22 [.call ⟨true, []⟩ (.agg [(.int .i64 x6.1), (.sl 2 (List.map e_u8_i64 x6.2.1)), (.bool x6.2.2.1), (.int .i64 x6.2.2.2)]) [], .call ⟨true, []⟩ (.bool x7) [], .d false, .d true] [⟨(nT c3)⟩, ⟨(nF c2)⟩, ⟨(ok_part_Right k x6.1 x6.2.1 x6.2.2.1 x6.2.2.2 _ e1)⟩, ⟨(ok_part_Part_own k x1 x2 x3 x4 _ e0)⟩] (by kernel_rfl)
    · rw [if_neg c2] at h
      replace c2 := eqf c2
      obtain rfl := Option.some.inj h
      exact Tri.of (x := X22) mixed facts22 [.call ⟨true, []⟩ (.agg [(.int .i64 x6.1), (.sl 2 (List.map e_u8_i64 x6.2.1)), (.bool x6.2.2.1), (.int .i64 x6.2.2.2)]) [], .call ⟨true, []⟩ (.bool x7) [], .d true] [⟨(nT c2)⟩, ⟨(ok_part_Right k x6.1 x6.2.1 x6.2.2.1 x6.2.2.2 _ e1)⟩, ⟨(ok_part_Part_own k x1 x2 x3 x4 _ e0)⟩] (by kernel_rfl)
end Go.Ws
