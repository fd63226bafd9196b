/-
  ref04_Repair: what the machine makes of it. (Printed by my own program.)
  Conditions: none.
-/
import Derived.Test.YtaddlnmhjlmneaaZPre
import Derived.Test.YtaddlnmhjlmneaaZPure
import Derived.Test.YtaddlnmhjlmneaaZW14
set_option linter.unusedVariables false
set_option linter.unusedSimpArgs false
namespace Go.Ws
open Go.Proofs
set_option linter.unusedSimpArgs false
set_option linter.unusedVariables false
set_option maxRecDepth 1000000
set_option maxHeartbeats 4000000
noncomputable def X22 : Ctx := ⟨Try.f22, [], true⟩
theorem ok_ref04_Repair (k : Nat) (x1 : List Int) (x2 : Int) (x3 : Int) (r : (List Int) × Int × Int) (h : ref04_Repair k x1 x2 x3 = some r) : Tri Try.prog 22 [(.agg [(.sl 1 (List.map e_u8 x1)), (.int .i64 x2), (.int .i64 x3)])] [] (.agg [(.sl 1 (List.map e_u8 r.1)), (.int .i64 r.2.1), (.int .i64 r.2.2)]) [] := by
    unfold ref04_Repair at h
    obtain ⟨x4, e0, h⟩ := Option.bind_eq_some_iff.1 h
    by_cases c1 : leI x4.2 x1.length = true
    · rw [if_pos c1] at h
      obtain rfl := Option.some.inj h
      exact Tri.of (x := X22) mixed facts22 [.call ⟨true, []⟩ (.tup [(.sl 1 (List.map e_Lu8E x4.1)), (.int .i64 x4.2)]) [], .n x1.length, .rows (List.map e_u8 (List.take (tN x4.2) x1))] [⟨(cut_take e_u8 x1 (tN x4.2))⟩, ⟨c1⟩, ⟨(len_map e_u8 x1)⟩, ⟨(ok_ref03_All k x1 _ e0)⟩] (by kernel_rfl)
    · rw [if_neg c1] at h
      replace c1 := eqf c1
      cases h
end Go.Ws
