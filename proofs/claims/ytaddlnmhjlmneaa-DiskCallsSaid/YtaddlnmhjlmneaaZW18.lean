/-
  ref04_Sync: what the machine makes of it. (Printed by my own program.)
  Conditions: none.
-/
import Derived.Test.YtaddlnmhjlmneaaZPre
import Derived.Test.YtaddlnmhjlmneaaZPure
set_option linter.unusedVariables false
set_option linter.unusedSimpArgs false
namespace Go.Ws
open Go.Proofs
set_option linter.unusedSimpArgs false
set_option linter.unusedVariables false
set_option maxRecDepth 1000000
set_option maxHeartbeats 4000000
noncomputable def X18 : Ctx := ⟨Try.f18, [], true⟩
theorem ok_ref04_Sync (x1 : List Int) (x2 : Int) (x3 : Int) : Tri Try.prog 18 [(.agg [(.sl 1 (List.map e_u8 x1)), (.int .i64 x2), (.int .i64 x3)])] [] (.agg [(.sl 1 (List.map e_u8 ((ref04_Sync x1 x2 x3).1))), (.int .i64 ((ref04_Sync x1 x2 x3).2.1)), (.int .i64 ((ref04_Sync x1 x2 x3).2.2))]) [] := by
    obtain ⟨r, h⟩ : ∃ r, ref04_Sync x1 x2 x3 = r := ⟨_, rfl⟩
    try rw [h]
    unfold ref04_Sync at h
    obtain rfl := h
    exact Tri.of (x := X18) mixed facts18 [.n x1.length] [⟨(len_map e_u8 x1)⟩] (by kernel_rfl)
end Go.Ws
