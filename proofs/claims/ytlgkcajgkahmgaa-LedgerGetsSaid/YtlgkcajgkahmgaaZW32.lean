/-
  ledger_find_1: what the machine makes of it. (Printed by my own program.)
  Conditions: none.
-/
import Derived.Test.YtlgkcajgkahmgaaZPre
import Derived.Test.YtlgkcajgkahmgaaZPure
import Derived.Test.YtlgkcajgkahmgaaZW33
set_option linter.unusedVariables false
set_option linter.unusedSimpArgs false
namespace Go.Ws
open Go.Proofs
set_option linter.unusedSimpArgs false
set_option linter.unusedVariables false
set_option maxRecDepth 1000000
set_option maxHeartbeats 4000000
noncomputable def X32 : Ctx := ⟨Try.f32, [], true⟩
theorem ok_ledger_find_1 (x1 : Int) (x2 : Int) (x3 : Int) : Tri Try.prog 32 [(.agg [(.int .u8 x1), (.int .i64 x2)]), (.int .u8 x3)] [] (.int .i64 (ledger_find_1 x1 x2 x3)) [] := by
    obtain ⟨r, h⟩ : ∃ r, ledger_find_1 x1 x2 x3 = r := ⟨_, rfl⟩
    try rw [h]
    unfold ledger_find_1 at h
    obtain rfl := h
    exact Tri.of (x := X32) mixed facts32 [.call ⟨true, []⟩ (.int .i64 (cmp_Compare x1 x3)) []] [⟨(ok_cmp_Compare x1 x3)⟩] (by kernel_rfl)
end Go.Ws
