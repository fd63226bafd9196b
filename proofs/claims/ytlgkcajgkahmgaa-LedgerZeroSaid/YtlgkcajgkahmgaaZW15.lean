/-
  ledger_Add: what the machine makes of it. (Printed by my own program.)
  Conditions: none.
-/
import Derived.Test.YtlgkcajgkahmgaaZPre
import Derived.Test.YtlgkcajgkahmgaaZPure
import Derived.Test.YtlgkcajgkahmgaaZW12
set_option linter.unusedVariables false
set_option linter.unusedSimpArgs false
namespace Go.Ws
open Go.Proofs
set_option linter.unusedSimpArgs false
set_option linter.unusedVariables false
set_option maxRecDepth 1000000
set_option maxHeartbeats 4000000
noncomputable def X15 : Ctx := ⟨Try.f15, [], true⟩
theorem ok_ledger_Add (k : Nat) (x1 : List (Int × Int)) (x2 : Int) (x3 : Int) (r : (List (Int × Int)) × Int) (h : ledger_Add k x1 x2 x3 = some r) : Tri Try.prog 15 [(.sl 2 (List.map e_u8_i64 x1)), (.int .u8 x2), (.int .i64 x3)] [] (.tup [(.sl 2 (List.map e_u8_i64 r.1)), (.int .i64 r.2)]) [] := by
    unfold ledger_Add at h
    obtain ⟨x4, e0, h⟩ := Option.bind_eq_some_iff.1 h
    obtain rfl := Option.some.inj h
    exact Tri.of (x := X15) mixed facts15 [.call ⟨true, []⟩ (.tup [(.sl 2 (List.map e_u8_i64 x4.1)), (.int .i64 x4.2)]) [], .rows (List.map e_u8_i64 [(x2, x3)])] [⟨(ok_ledger_Put k x1 [(x2, x3)] _ e0)⟩, ⟨(part_all e_u8_i64 (l := [(x2, x3)]) (n := 1) rfl)⟩, ⟨(le_map e_u8_i64 (Nat.le_refl 1) : 0 + 1 ≤ (List.map e_u8_i64 [(x2, x3)]).length)⟩] (by kernel_rfl)
end Go.Ws
