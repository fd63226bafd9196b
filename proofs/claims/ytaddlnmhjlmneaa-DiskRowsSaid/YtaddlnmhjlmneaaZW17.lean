/-
  disk_Sync: what the machine makes of it. (Printed by my own program.)
  Conditions: none.
-/
import Derived.Test.YtaddlnmhjlmneaaZPre
import Derived.Test.YtaddlnmhjlmneaaZPure
import Derived.Test.YtaddlnmhjlmneaaZW26_1
set_option linter.unusedVariables false
set_option linter.unusedSimpArgs false
namespace Go.Ws
open Go.Proofs
set_option linter.unusedSimpArgs false
set_option linter.unusedVariables false
set_option maxRecDepth 1000000
set_option maxHeartbeats 4000000
noncomputable def X17 : Ctx := ⟨Try.f17, [], true⟩
theorem ok_disk_Sync (k : Nat) (x1 : List Int) (x2 : Int) (x3 : Int) (r : (List Int) × Int × Int) (h : disk_Sync k x1 x2 x3 = some r) : Tri Try.prog 17 [(.agg [(.sl 1 (List.map e_u8 x1)), (.int .i64 x2), (.int .i64 x3)])] [] (.agg [(.sl 1 (List.map e_u8 r.1)), (.int .i64 r.2.1), (.int .i64 r.2.2)]) [] := by
    unfold disk_Sync at h
    obtain ⟨x4, e0, h⟩ := Option.bind_eq_some_iff.1 h
    obtain rfl := Option.some.inj h
    exact Tri.of (x := X17) mixed facts17 [.n x1.length, .call ⟨true, []⟩ (.agg [(.sl 1 (List.map e_u8 x4.1)), (.int .i64 x4.2.1), (.int .i64 x4.2.2)]) [], .n x4.1.length] [⟨(len_map e_u8 x4.1)⟩, ⟨(ok_disk_Disk_own_1 k x1 x2 x3 (nI x1.length) _ e0)⟩, ⟨(len_map e_u8 x1)⟩] (by kernel_rfl)
end Go.Ws
