/-
  ref09_Local: what the machine makes of it. (Printed by my own program.)
  Conditions: none.
-/
import Derived.Test.YtnokdedppgmliaaZPre
import Derived.Test.YtnokdedppgmliaaZPure
import Derived.Test.YtnokdedppgmliaaZW13
set_option linter.unusedVariables false
set_option linter.unusedSimpArgs false
namespace Go.Ws
open Go.Proofs
set_option linter.unusedSimpArgs false
set_option linter.unusedVariables false
set_option maxRecDepth 1000000
set_option maxHeartbeats 4000000
noncomputable def X24 : Ctx := ⟨Try.f24, [], true⟩
theorem ok_ref09_Local (k : Nat) (x1 : Int) (x2 : List (Int × Int)) (x3 : Bool) (x4 : Int) (r : Int × (List (Int × Int)) × Bool × Int × (List (Int × Int)) × Int) (h : ref09_Local k x1 x2 x3 x4 = some r) : Tri Try.prog 24 [(.agg [(.int .i64 x1), (.sl 2 (List.map e_u8_i64 x2)), (.bool x3), (.int .i64 x4)])] [] (.tup [(.agg [(.int .i64 r.1), (.sl 2 (List.map e_u8_i64 r.2.1)), (.bool r.2.2.1), (.int .i64 r.2.2.2.1)]), (.sl 2 (List.map e_u8_i64 r.2.2.2.2.1)), (.int .i64 r.2.2.2.2.2)]) [] := by
    unfold ref09_Local at h
    obtain ⟨x5, e0, h⟩ := Option.bind_eq_some_iff.1 h
    by_cases c1 : x5 = true
    · rw [if_pos c1] at h
      by_cases c2 : eqI x1 1 = true
      · rw [if_pos c2] at h
        by_cases c3 : x3 = true
        · rw [if_pos c3] at h
          obtain rfl := Option.some.inj h
          exact Tri.of (x := X24) mixed facts24 [.call ⟨true, []⟩ (.bool x5) [], .d false, .d false, .d true, .norm 0 ⟨[(2, []), (3, [(0, 2)]), (4, [])], [⟨.tmp 2, [], none⟩], false, [], []⟩] [⟨c3⟩, ⟨(nF c2)⟩, ⟨(nF c1)⟩, ⟨(ok_ref09_Right k x1 x2 x3 x4 _ e0)⟩] (by kernel_rfl)
        · rw [if_neg c3] at h
          replace c3 := eqf c3
          obtain rfl := Option.some.inj h
          exact Tri.of (x := X24) mixed facts24 [.call ⟨true, []⟩ (.bool x5) [], .d false, .d false, .d false] [⟨c3⟩, ⟨(nF c2)⟩, ⟨(nF c1)⟩, ⟨(ok_ref09_Right k x1 x2 x3 x4 _ e0)⟩] (by kernel_rfl)
      · rw [if_neg c2] at h
        replace c2 := eqf c2
        obtain rfl := Option.some.inj h
        exact Tri.of (x := X24) mixed facts24 [.call ⟨true, []⟩ (.bool x5) [], .d false, .d true, .norm 0 ⟨[(2, []), (3, [(0, 2)]), (4, [])], [⟨.tmp 2, [], none⟩], false, [], []⟩] [⟨(nT c2)⟩, ⟨(nF c1)⟩, ⟨(ok_ref09_Right k x1 x2 x3 x4 _ e0)⟩] (by kernel_rfl)
    · rw [if_neg c1] at h
      replace c1 := eqf c1
      obtain rfl := Option.some.inj h
      exact Tri.of (x := X24) mixed facts24 [.call ⟨true, []⟩ (.bool x5) [], .d true, .norm 0 ⟨[(2, []), (3, [(0, 2)]), (4, [])], [⟨.tmp 2, [], none⟩], false, [], []⟩] [⟨(nT c1)⟩, ⟨(ok_ref09_Right k x1 x2 x3 x4 _ e0)⟩] (by kernel_rfl)
end Go.Ws
