/-
  slices_ContainsFunc: what the machine makes of it. (Printed by my own program.)
  Conditions: none.
-/
import Derived.Test.YtlgkcajgkahmgaaZPre
import Derived.Test.YtlgkcajgkahmgaaZPure
import Derived.Test.YtlgkcajgkahmgaaZW30
set_option linter.unusedVariables false
set_option linter.unusedSimpArgs false
namespace Go.Ws
open Go.Proofs
set_option linter.unusedSimpArgs false
set_option linter.unusedVariables false
set_option maxRecDepth 1000000
set_option maxHeartbeats 4000000
noncomputable def X25 : Ctx := ⟨Try.f25, [], true⟩
theorem ok_slices_ContainsFunc (k : Nat) (x1 : List (Int × Int)) (r : Bool) (h : slices_ContainsFunc k x1 = some r) : Tri Try.prog 25 [(.sl 2 (List.map e_u8_i64 x1)), (.fn 23 [])] [] (.bool r) [] := by
    unfold slices_ContainsFunc at h
    obtain ⟨x2, e0, h⟩ := Option.bind_eq_some_iff.1 h
    obtain rfl := Option.some.inj h
    exact Tri.of (x := X25) mixed facts25 [.call ⟨true, []⟩ (.int .i64 x2) []] [⟨(ok_slices_IndexFunc k x1 _ e0)⟩] (by kernel_rfl)
end Go.Ws
