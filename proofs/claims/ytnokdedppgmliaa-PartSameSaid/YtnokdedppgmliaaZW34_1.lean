/-
  part_Part_own_1: what the machine makes of it. (Printed by my own program.)
  Conditions: none.
-/
import Derived.Test.YtnokdedppgmliaaZPre
import Derived.Test.YtnokdedppgmliaaZPure
import Derived.Test.YtnokdedppgmliaaZW29
set_option linter.unusedVariables false
set_option linter.unusedSimpArgs false
namespace Go.Ws
open Go.Proofs
set_option linter.unusedSimpArgs false
set_option linter.unusedVariables false
set_option maxRecDepth 1000000
set_option maxHeartbeats 4000000
noncomputable def X34_1 : Ctx := ⟨Try.f34, [], false⟩
theorem ok_part_Part_own_1 (k : Nat) (x1 : Int) (x2 : List (Int × Int)) (x3 : Bool) (x4 : Int) (r : Unit) (h : part_Part_own_1 k x1 x2 x3 x4 = some r) : Tri Try.prog 34 [(.agg [(.int .i64 x1), (.sl 2 (List.map e_u8_i64 x2)), (.bool x3), (.int .i64 x4)])] [] (.agg [(.int .i64 x1), (.ref 2 0 0 0 x2.length .virt), (.bool x3), (.int .i64 x4)]) [(.arr 2 (List.map e_u8_i64 x2) 0 0 false)] := by
    unfold part_Part_own_1 at h
    obtain ⟨x5, e0, h⟩ := Option.bind_eq_some_iff.1 h
    obtain rfl := Option.some.inj h
    exact Tri.of (x := X34_1) mixed facts34 [.call ⟨true, []⟩ (.ref 2 0 0 0 x2.length .virt) [(.arr 2 (List.map e_u8_i64 x2) 0 0 false)], .norm 0 ⟨[(2, [])], [⟨.tmp 2, [], none⟩, ⟨.cell 0 1, [], none⟩], false, [], []⟩] [⟨(ok_slices_Clone k x2 _ e0)⟩] (by kernel_rfl)
end Go.Ws
