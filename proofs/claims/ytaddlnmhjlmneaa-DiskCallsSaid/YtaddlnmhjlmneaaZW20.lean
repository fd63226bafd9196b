/-
  ref04_Crash: what the machine makes of it. (Printed by my own program.)
  Conditions: none.
-/
import Derived.Test.YtaddlnmhjlmneaaZPre
import Derived.Test.YtaddlnmhjlmneaaZPure
set_option linter.unusedVariables false
set_option linter.unusedSimpArgs false
namespace Go.Ws
open Go.Proofs
set_option linter.unusedSimpArgs false
set_option linter.unusedVariables false
set_option maxRecDepth 1000000
set_option maxHeartbeats 4000000
noncomputable def X20 : Ctx := ⟨Try.f20, [], true⟩
theorem ok_ref04_Crash (k : Nat) (x1 : List Int) (x2 : Int) (x3 : Int) (x4 : Int) (r : (List Int) × Int × Int) (h : ref04_Crash k x1 x2 x3 x4 = some r) : Tri Try.prog 20 [(.agg [(.sl 1 (List.map e_u8 x1)), (.int .i64 x2), (.int .i64 x3)]), (.int .u16 x4)] [] (.agg [(.sl 1 (List.map e_u8 r.1)), (.int .i64 r.2.1), (.int .i64 r.2.2)]) [] := by
    unfold ref04_Crash at h
    by_cases c0 : eqI (iadd .i64 (isub .i64 (nI x1.length) x2) 1) 0 = true
    · rw [if_pos c0] at h
      cases h
    · rw [if_neg c0] at h
      replace c0 := eqf c0
      by_cases c1 : leI (iadd .i64 x2 (irem .i64 (conv .i64 x4) (iadd .i64 (isub .i64 (nI x1.length) x2) 1))) x1.length = true
      · rw [if_pos c1] at h
        obtain rfl := Option.some.inj h
        exact Tri.of (x := X20) mixed facts20 [.n x1.length, .d false, .n x1.length, .rows (List.map e_u8 (List.take (tN (iadd .i64 x2 (irem .i64 (conv .i64 x4) (iadd .i64 (isub .i64 (nI x1.length) x2) 1)))) x1))] [⟨(cut_take e_u8 x1 (tN (iadd .i64 x2 (irem .i64 (conv .i64 x4) (iadd .i64 (isub .i64 (nI x1.length) x2) 1)))))⟩, ⟨c1⟩, ⟨(len_map e_u8 x1)⟩, ⟨c0⟩, ⟨(len_map e_u8 x1)⟩] (by kernel_rfl)
      · rw [if_neg c1] at h
        replace c1 := eqf c1
        cases h
end Go.Ws
