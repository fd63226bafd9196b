/-
  ledger_find: what the machine makes of it. (Printed by my own program.)
  Conditions: none.
-/
import Derived.Test.YtlgkcajgkahmgaaZPre
import Derived.Test.YtlgkcajgkahmgaaZPure
import Derived.Test.YtlgkcajgkahmgaaZW31
set_option linter.unusedVariables false
set_option linter.unusedSimpArgs false
namespace Go.Ws
open Go.Proofs
set_option linter.unusedSimpArgs false
set_option linter.unusedVariables false
set_option maxRecDepth 1000000
set_option maxHeartbeats 4000000
noncomputable def X26 : Ctx := ⟨Try.f26, [], true⟩
theorem ok_ledger_find (k : Nat) (x1 : List (Int × Int)) (x2 : Int) (r : Int × Bool) (h : ledger_find k x1 x2 = some r) : Tri Try.prog 26 [(.sl 2 (List.map e_u8_i64 x1)), (.int .u8 x2)] [] (.tup [(.int .i64 r.1), (.bool r.2)]) [] := by
    unfold ledger_find at h
    obtain ⟨x3, e0, h⟩ := Option.bind_eq_some_iff.1 h
    obtain rfl := Option.some.inj h
    exact Tri.of (x := X26) mixed facts26 [.call ⟨true, []⟩ (.tup [(.int .i64 x3.1), (.bool x3.2)]) []] [⟨(ok_slices_BinarySearchFunc k x1 x2 _ e0)⟩] (by kernel_rfl)
end Go.Ws
