/-
  disk_Repair: what the machine makes of it. (Printed by my own program.)
  Conditions: none.
-/
import Derived.Test.YtaddlnmhjlmneaaZPre
import Derived.Test.YtaddlnmhjlmneaaZPure
import Derived.Test.YtaddlnmhjlmneaaZW13
import Derived.Test.YtaddlnmhjlmneaaZW26_1
set_option linter.unusedVariables false
set_option linter.unusedSimpArgs false
namespace Go.Ws
open Go.Proofs
set_option linter.unusedSimpArgs false
set_option linter.unusedVariables false
set_option maxRecDepth 1000000
set_option maxHeartbeats 4000000
noncomputable def X21 : Ctx := ⟨Try.f21, [], true⟩
theorem ok_disk_Repair (k : Nat) (x1 : List Int) (x2 : Int) (x3 : Int) (r : (List Int) × Int × Int) (h : disk_Repair k x1 x2 x3 = some r) : Tri Try.prog 21 [(.agg [(.sl 1 (List.map e_u8 x1)), (.int .i64 x2), (.int .i64 x3)])] [] (.agg [(.sl 1 (List.map e_u8 r.1)), (.int .i64 r.2.1), (.int .i64 r.2.2)]) [] := by
    unfold disk_Repair at h
    obtain ⟨x4, e0, h⟩ := Option.bind_eq_some_iff.1 h
    obtain ⟨x5, e1, h⟩ := Option.bind_eq_some_iff.1 h
    obtain rfl := Option.some.inj h
    exact Tri.of (x := X21) mixed facts21 [.call ⟨true, []⟩ (.tup [(.sl 1 (List.map e_Lu8E x4.1)), (.int .i64 x4.2)]) [], .call ⟨true, []⟩ (.agg [(.sl 1 (List.map e_u8 x5.1)), (.int .i64 x5.2.1), (.int .i64 x5.2.2)]) []] [⟨(ok_disk_Disk_own_1 k x1 x2 x3 x4.2 _ e1)⟩, ⟨(ok_disk_Records k x1 x2 x3 _ e0)⟩] (by kernel_rfl)
end Go.Ws
