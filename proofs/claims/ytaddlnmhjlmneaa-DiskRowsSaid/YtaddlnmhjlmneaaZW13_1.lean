/-
  disk_Records_1: what the machine makes of it. (Printed by my own program.)
  Conditions: none.
-/
import Derived.Test.YtaddlnmhjlmneaaZPre
import Derived.Test.YtaddlnmhjlmneaaZPure
import Derived.Test.YtaddlnmhjlmneaaZW29
set_option linter.unusedVariables false
set_option linter.unusedSimpArgs false
namespace Go.Ws
open Go.Proofs
set_option linter.unusedSimpArgs false
set_option linter.unusedVariables false
set_option maxRecDepth 1000000
set_option maxHeartbeats 4000000
noncomputable def X13_1 : Ctx := ⟨Try.f13, [], false⟩
theorem ok_disk_Records_1 (k : Nat) (x1 : List Int) (x2 : Int) (x3 : Int) (r : Int × (List (List Int))) (h : disk_Records_1 k x1 x2 x3 = some r) : Tri Try.prog 13 [(.agg [(.sl 1 (List.map e_u8 x1)), (.int .i64 x2), (.int .i64 x3)])] [] (.tup [(.ref 1 0 0 0 r.2.length .virt), (.int .i64 r.1)]) [(.arr 1 (List.map e_Lu8E r.2) 0 0 false)] := by
    unfold disk_Records_1 at h
    obtain ⟨x4, e0, h⟩ := Option.bind_eq_some_iff.1 h
    obtain rfl := Option.some.inj h
    exact Tri.of (x := X13_1) mixed facts13 [.call ⟨true, []⟩ (.tup [(.ref 1 0 0 0 x4.2.length .virt), (.int .i64 x4.1)]) [(.arr 1 (List.map e_Lu8E x4.2) 0 0 false)], .norm 0 ⟨[(2, []), (3, [])], [⟨.tmp 2, [], none⟩], false, [], []⟩] [⟨(ok_sum_All k x1 _ e0)⟩] (by kernel_rfl)
end Go.Ws
