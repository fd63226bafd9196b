/-
  part_Part_own: what the machine makes of it. (Printed by my own program.)
  Conditions: none.
-/
import Derived.Test.YtnokdedppgmliaaZPre
import Derived.Test.YtnokdedppgmliaaZPure
import Derived.Test.YtnokdedppgmliaaZW29
set_option linter.unusedVariables false
set_option linter.unusedSimpArgs false
namespace Go.Ws
open Go.Proofs
set_option linter.unusedSimpArgs false
set_option linter.unusedVariables false
set_option maxRecDepth 1000000
set_option maxHeartbeats 4000000
noncomputable def X34 : Ctx := ⟨Try.f34, [], true⟩
theorem ok_part_Part_own (k : Nat) (x1 : Int) (x2 : List (Int × Int)) (x3 : Bool) (x4 : Int) (r : Int × (List (Int × Int)) × Bool × Int) (h : part_Part_own k x1 x2 x3 x4 = some r) : Tri Try.prog 34 [(.agg [(.int .i64 x1), (.sl 2 (List.map e_u8_i64 x2)), (.bool x3), (.int .i64 x4)])] [] (.agg [(.int .i64 r.1), (.sl 2 (List.map e_u8_i64 r.2.1)), (.bool r.2.2.1), (.int .i64 r.2.2.2)]) [] := by
    unfold part_Part_own at h
    obtain ⟨x5, e0, h⟩ := Option.bind_eq_some_iff.1 h
    obtain rfl := Option.some.inj h
    exact Tri.of (x := X34) mixed facts34 [.call ⟨true, []⟩ (.ref 2 0 0 0 x2.length .virt) [(.arr 2 (List.map e_u8_i64 x2) 0 0 false)], .rows (List.map e_u8_i64 x2)] [⟨(part_all e_u8_i64 (l := x2) (n := x2.length) rfl)⟩, ⟨(le_map e_u8_i64 (Nat.le_refl x2.length) : 0 + x2.length ≤ (List.map e_u8_i64 x2).length)⟩, ⟨(ok_slices_Clone k x2 _ e0)⟩] (by kernel_rfl)
end Go.Ws
