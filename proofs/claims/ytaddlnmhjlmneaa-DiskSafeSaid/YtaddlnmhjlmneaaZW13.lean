/-
  disk_Records: what the machine makes of it. (Printed by my own program.)
  Conditions: none.
-/
import Derived.Test.YtaddlnmhjlmneaaZPre
import Derived.Test.YtaddlnmhjlmneaaZPure
import Derived.Test.YtaddlnmhjlmneaaZW29
set_option linter.unusedVariables false
set_option linter.unusedSimpArgs false
namespace Go.Ws
open Go.Proofs
set_option linter.unusedSimpArgs false
set_option linter.unusedVariables false
set_option maxRecDepth 1000000
set_option maxHeartbeats 4000000
noncomputable def X13 : Ctx := ⟨Try.f13, [], true⟩
theorem ok_disk_Records (k : Nat) (x1 : List Int) (x2 : Int) (x3 : Int) (r : (List (List Int)) × Int) (h : disk_Records k x1 x2 x3 = some r) : Tri Try.prog 13 [(.agg [(.sl 1 (List.map e_u8 x1)), (.int .i64 x2), (.int .i64 x3)])] [] (.tup [(.sl 1 (List.map e_Lu8E r.1)), (.int .i64 r.2)]) [] := by
    unfold disk_Records at h
    obtain ⟨x4, e0, h⟩ := Option.bind_eq_some_iff.1 h
    obtain rfl := Option.some.inj h
    exact Tri.of (x := X13) mixed facts13 [.call ⟨true, []⟩ (.tup [(.ref 1 0 0 0 x4.2.length .virt), (.int .i64 x4.1)]) [(.arr 1 (List.map e_Lu8E x4.2) 0 0 false)], .rows (List.map e_Lu8E x4.2)] [⟨(part_all e_Lu8E (l := x4.2) (n := x4.2.length) rfl)⟩, ⟨(le_map e_Lu8E (Nat.le_refl x4.2.length) : 0 + x4.2.length ≤ (List.map e_Lu8E x4.2).length)⟩, ⟨(ok_sum_All k x1 _ e0)⟩] (by kernel_rfl)
end Go.Ws
