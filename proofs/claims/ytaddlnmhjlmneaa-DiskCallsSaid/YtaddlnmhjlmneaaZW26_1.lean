/-
  disk_Disk_own_1: what the machine makes of it. (Printed by my own program.)
  Conditions: none.
-/
import Derived.Test.YtaddlnmhjlmneaaZPre
import Derived.Test.YtaddlnmhjlmneaaZPure
import Derived.Test.YtaddlnmhjlmneaaZW31
set_option linter.unusedVariables false
set_option linter.unusedSimpArgs false
namespace Go.Ws
open Go.Proofs
set_option linter.unusedSimpArgs false
set_option linter.unusedVariables false
set_option maxRecDepth 1000000
set_option maxHeartbeats 4000000
noncomputable def X26_1 : Ctx := ⟨Try.f26, [], true⟩
theorem ok_disk_Disk_own_1 (k : Nat) (x1 : List Int) (x2 : Int) (x3 : Int) (x4 : Int) (r : (List Int) × Int × Int) (h : disk_Disk_own_1 k x1 x2 x3 x4 = some r) : Tri Try.prog 26 [(.agg [(.sl 1 (List.map e_u8 x1)), (.int .i64 x2), (.int .i64 x3)]), (.int .i64 x4)] [] (.agg [(.sl 1 (List.map e_u8 r.1)), (.int .i64 r.2.1), (.int .i64 r.2.2)]) [] := by
    unfold disk_Disk_own_1 at h
    by_cases c0 : leI (imax 0 (imin x4 (nI x1.length))) x1.length = true
    · rw [if_pos c0] at h
      obtain ⟨x5, e1, h⟩ := Option.bind_eq_some_iff.1 h
      obtain rfl := Option.some.inj h
      exact Tri.of (x := X26_1) mixed facts26 [.n x1.length, .n x1.length, .rows (List.map e_u8 (List.take (tN (imax 0 (imin x4 (nI x1.length)))) x1)), .call ⟨true, []⟩ (.ref 1 0 0 0 ((List.take (tN (imax 0 (imin x4 (nI x1.length)))) x1).length) .virt) [(.arr 1 (List.map e_u8 (List.take (tN (imax 0 (imin x4 (nI x1.length)))) x1)) 0 0 false)], .rows (List.map e_u8 (List.take (tN (imax 0 (imin x4 (nI x1.length)))) x1))] [⟨(part_all e_u8 (l := (List.take (tN (imax 0 (imin x4 (nI x1.length)))) x1)) (n := ((List.take (tN (imax 0 (imin x4 (nI x1.length)))) x1).length)) rfl)⟩, ⟨(le_map e_u8 (Nat.le_refl ((List.take (tN (imax 0 (imin x4 (nI x1.length)))) x1).length)) : 0 + (List.take (tN (imax 0 (imin x4 (nI x1.length)))) x1).length ≤ (List.map e_u8 (List.take (tN (imax 0 (imin x4 (nI x1.length)))) x1)).length)⟩, ⟨(ok_slices_Clone k (List.take (tN (imax 0 (imin x4 (nI x1.length)))) x1) _ e1)⟩, ⟨(cut_take e_u8 x1 (tN (imax 0 (imin x4 (nI x1.length)))))⟩, ⟨c0⟩, ⟨(len_map e_u8 x1)⟩, ⟨(len_map e_u8 x1)⟩] (by kernel_rfl)
    · rw [if_neg c0] at h
      replace c0 := eqf c0
      cases h
end Go.Ws
