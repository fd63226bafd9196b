/-
  disk_Crash: what the machine makes of it. (Printed by my own program.)
  Conditions: none.
-/
import Derived.Test.YtaddlnmhjlmneaaZPre
import Derived.Test.YtaddlnmhjlmneaaZPure
import Derived.Test.YtaddlnmhjlmneaaZW17
import Derived.Test.YtaddlnmhjlmneaaZW26_1
set_option linter.unusedVariables false
set_option linter.unusedSimpArgs false
namespace Go.Ws
open Go.Proofs
set_option linter.unusedSimpArgs false
set_option linter.unusedVariables false
set_option maxRecDepth 1000000
set_option maxHeartbeats 4000000
noncomputable def X19 : Ctx := ⟨Try.f19, [], true⟩
theorem ok_disk_Crash (k : Nat) (x1 : List Int) (x2 : Int) (x3 : Int) (x4 : Int) (r : (List Int) × Int × Int) (h : disk_Crash k x1 x2 x3 x4 = some r) : Tri Try.prog 19 [(.agg [(.sl 1 (List.map e_u8 x1)), (.int .i64 x2), (.int .i64 x3)]), (.int .u16 x4)] [] (.agg [(.sl 1 (List.map e_u8 r.1)), (.int .i64 r.2.1), (.int .i64 r.2.2)]) [] := by
    unfold disk_Crash at h
    by_cases c0 : eqI (iadd .i64 (imax 0 (isub .i64 (nI x1.length) x2)) 1) 0 = true
    · rw [if_pos c0] at h
      cases h
    · rw [if_neg c0] at h
      replace c0 := eqf c0
      obtain ⟨x5, e1, h⟩ := Option.bind_eq_some_iff.1 h
      obtain ⟨x6, e2, h⟩ := Option.bind_eq_some_iff.1 h
      obtain rfl := Option.some.inj h
      exact Tri.of (x := X19) mixed facts19 [.n x1.length, .d false, .call ⟨true, []⟩ (.agg [(.sl 1 (List.map e_u8 x5.1)), (.int .i64 x5.2.1), (.int .i64 x5.2.2)]) [], .call ⟨true, []⟩ (.agg [(.sl 1 (List.map e_u8 x6.1)), (.int .i64 x6.2.1), (.int .i64 x6.2.2)]) []] [⟨(ok_disk_Sync k x5.1 x5.2.1 x5.2.2 _ e2)⟩, ⟨(ok_disk_Disk_own_1 k x1 x2 x3 (iadd .i64 x2 (irem .i64 (conv .i64 x4) (iadd .i64 (imax 0 (isub .i64 (nI x1.length) x2)) 1))) _ e1)⟩, ⟨c0⟩, ⟨(len_map e_u8 x1)⟩] (by kernel_rfl)
end Go.Ws
