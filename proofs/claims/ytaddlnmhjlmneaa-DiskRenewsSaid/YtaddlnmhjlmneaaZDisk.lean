/-
  Disks, plain: what every call makes of one, in both.
  Conditions: none.
-/
import Derived.Test.YtaddlnmhjlmneaaZCats
import Derived.Test.YtaddlnmhjlmneaaZWf
import Derived.KernelRfl
set_option linter.unusedVariables false
set_option linter.unusedSimpArgs false
namespace Go.Ws
set_option linter.unusedVariables false
set_option linter.unusedSimpArgs false
set_option maxHeartbeats 1000000

theorem alive_ok : P_law04_alive = some true := le_law04_alive 60 true (by kernel_rfl)
theorem bytes_w {x : List Int} (w : w_t22 x) : Bytes x := fun y hy => by have := w.2 y hy; simp only [w_t5] at this; omega

/-- A disk that may be. -/
structure Dk (b : List Int) (s r : Int) : Prop where
  by_ : Bytes b
  len : b.length ≤ 200000
  s0 : 0 ≤ s
  s1 : s ≤ b.length
  r0 : b.length ≤ r
  r1 : r ≤ 1048576
theorem right_iff {b : List Int} {s r : Int} : ref04_Right b s r = true ↔ (0 ≤ r ∧ r ≤ 1048576 ∧ b.length ≤ r ∧ 0 ≤ s ∧ s ≤ b.length) := by
  unfold ref04_Right
  by_cases c1 : ltI r 0 = true
  · rw [if_pos c1]; rw [ltI_iff] at c1; simp; omega
  rw [if_neg c1]
  by_cases c2 : ltI 1048576 r = true
  · rw [if_pos c2]; rw [ltI_iff] at c2; simp; omega
  rw [if_neg c2]
  by_cases c3 : ltI r (nI b.length) = true
  · rw [if_pos c3]; rw [ltI_iff, nI_def] at c3; simp; omega
  rw [if_neg c3]
  by_cases c4 : ltI s 0 = true
  · rw [if_pos c4]; rw [ltI_iff] at c4; simp; omega
  rw [if_neg c4, Bool.not_eq_true', ← Bool.not_eq_true, ltI_iff, nI_def]
  simp only [ltI_iff, nI_def] at c1 c2 c3 c4
  omega
theorem same_self (b : List Int) (s r : Int) : ref04_Same b s r b s r = true := by
  unfold ref04_Same
  rw [if_pos (eqS_iff.2 rfl), if_pos (eqI_self _)]; exact eqI_self _
section
variable {b : List Int} {s r : Int}
theorem own_ok (D : Dk b s r) {n : Nat} {v : Int} (hv : v = (n : Int)) (hn : n ≤ b.length) : P_disk_Disk_own b s r v = some () ∧ P_disk_Disk_own_1 b s r v = some (b.take n, imin s n, r) := by
  have h1 := D.len
  have e : imax 0 (imin v (nI b.length)) = (n : Int) := by rw [nI_def, imin_l (by omega), imax_r (by omega), hv]
  constructor
  · rw [P_disk_Disk_own_eq]
    simp only [e, tN_nat]
    repeat (first | refine (if_pos (by first | with_reducible rfl | assumption | (simp (disch := omega) only [ltI_iff, eqI_iff, eqS_iff, eqB_iff, inI_iff, leI_iff, capI_iff, isZ_iff, eqN_iff, roomI_iff, nI_def, ssz_def, tN_def, iadd64, isub64, imul64, conv64, conv8, conv32, iadd32, imul32, irem_pos, iquo64, iquo32, imin_l, imin_r, imax_l, imax_r, Bool.not_eq_true', ← Bool.not_eq_true, Bool.not_eq_eq_eq_not, Bool.not_true, Bool.not_false, not_true_eq_false, not_false_eq_true, List.length_append, List.length_cons, List.length_nil, List.length_take, List.length_drop, List.length_set, List.length_replicate] <;> omega) | omega)).trans ?_ | refine (if_neg (by first | with_reducible rfl | assumption | (simp (disch := omega) only [ltI_iff, eqI_iff, eqS_iff, eqB_iff, inI_iff, leI_iff, capI_iff, isZ_iff, eqN_iff, roomI_iff, nI_def, ssz_def, tN_def, iadd64, isub64, imul64, conv64, conv8, conv32, iadd32, imul32, irem_pos, iquo64, iquo32, imin_l, imin_r, imax_l, imax_r, Bool.not_eq_true', ← Bool.not_eq_true, Bool.not_eq_eq_eq_not, Bool.not_true, Bool.not_false, not_true_eq_false, not_false_eq_true, List.length_append, List.length_cons, List.length_nil, List.length_take, List.length_drop, List.length_set, List.length_replicate] <;> omega) | omega)).trans ?_ | refine (bnd (clone_ok (b.take n) (by simp; omega))).trans ?_ | refine Eq.trans (Sum.elim_inl _ _ _) ?_ | refine Eq.trans (Sum.elim_inr _ _ _) ?_)
    rfl
  · rw [P_disk_Disk_own_1_eq]
    simp only [e, tN_nat]
    repeat (first | refine (if_pos (by first | with_reducible rfl | assumption | (simp (disch := omega) only [ltI_iff, eqI_iff, eqS_iff, eqB_iff, inI_iff, leI_iff, capI_iff, isZ_iff, eqN_iff, roomI_iff, nI_def, ssz_def, tN_def, iadd64, isub64, imul64, conv64, conv8, conv32, iadd32, imul32, irem_pos, iquo64, iquo32, imin_l, imin_r, imax_l, imax_r, Bool.not_eq_true', ← Bool.not_eq_true, Bool.not_eq_eq_eq_not, Bool.not_true, Bool.not_false, not_true_eq_false, not_false_eq_true, List.length_append, List.length_cons, List.length_nil, List.length_take, List.length_drop, List.length_set, List.length_replicate] <;> omega) | omega)).trans ?_ | refine (if_neg (by first | with_reducible rfl | assumption | (simp (disch := omega) only [ltI_iff, eqI_iff, eqS_iff, eqB_iff, inI_iff, leI_iff, capI_iff, isZ_iff, eqN_iff, roomI_iff, nI_def, ssz_def, tN_def, iadd64, isub64, imul64, conv64, conv8, conv32, iadd32, imul32, irem_pos, iquo64, iquo32, imin_l, imin_r, imax_l, imax_r, Bool.not_eq_true', ← Bool.not_eq_true, Bool.not_eq_eq_eq_not, Bool.not_true, Bool.not_false, not_true_eq_false, not_false_eq_true, List.length_append, List.length_cons, List.length_nil, List.length_take, List.length_drop, List.length_set, List.length_replicate] <;> omega) | omega)).trans ?_ | refine (bnd (clone_ok (b.take n) (by simp; omega))).trans ?_ | refine Eq.trans (Sum.elim_inl _ _ _) ?_ | refine Eq.trans (Sum.elim_inr _ _ _) ?_)
    rfl
theorem own_all (D : Dk b s r) : P_disk_Disk_own b s r (nI b.length) = some () ∧ P_disk_Disk_own_1 b s r (nI b.length) = some (b, s, r) := by
  have := own_ok D (n := b.length) (v := nI b.length) rfl (Nat.le_refl _)
  rw [List.take_length, imin_l D.s1] at this
  exact this
/-- Append: what it answers. -/
theorem append_big (D : Dk b s r) {x : List Int} (h : 4000 < x.length) : P_disk_Append b s r x = some (b, s, r, 3) ∧ P_ref04_Append b s r x = some (b, s, r, 3) := by
  have o := own_all D
  have e : imax 0 (imin (nI b.length) (nI b.length)) = (b.length : Int) := by rw [nI_def, imin_l (by omega), imax_r (by omega)]
  have e2 := imin_l D.s1
  constructor
  · rw [P_disk_Append_eq]
    simp only [e, tN_nat, List.take_length, e2]
    repeat (first | refine (if_pos (by first | with_reducible rfl | assumption | (simp (disch := omega) only [ltI_iff, eqI_iff, eqS_iff, eqB_iff, inI_iff, leI_iff, capI_iff, isZ_iff, eqN_iff, roomI_iff, nI_def, ssz_def, tN_def, iadd64, isub64, imul64, conv64, conv8, conv32, iadd32, imul32, irem_pos, iquo64, iquo32, imin_l, imin_r, imax_l, imax_r, Bool.not_eq_true', ← Bool.not_eq_true, Bool.not_eq_eq_eq_not, Bool.not_true, Bool.not_false, not_true_eq_false, not_false_eq_true, List.length_append, List.length_cons, List.length_nil, List.length_take, List.length_drop, List.length_set, List.length_replicate] <;> omega) | omega)).trans ?_ | refine (if_neg (by first | with_reducible rfl | assumption | (simp (disch := omega) only [ltI_iff, eqI_iff, eqS_iff, eqB_iff, inI_iff, leI_iff, capI_iff, isZ_iff, eqN_iff, roomI_iff, nI_def, ssz_def, tN_def, iadd64, isub64, imul64, conv64, conv8, conv32, iadd32, imul32, irem_pos, iquo64, iquo32, imin_l, imin_r, imax_l, imax_r, Bool.not_eq_true', ← Bool.not_eq_true, Bool.not_eq_eq_eq_not, Bool.not_true, Bool.not_false, not_true_eq_false, not_false_eq_true, List.length_append, List.length_cons, List.length_nil, List.length_take, List.length_drop, List.length_set, List.length_replicate] <;> omega) | omega)).trans ?_ | refine (bnd o.1).trans ?_ | refine (bnd o.2).trans ?_ | refine (bnd (frame_big h).1).trans ?_ | refine Eq.trans (Sum.elim_inl _ _ _) ?_ | refine Eq.trans (Sum.elim_inr _ _ _) ?_)
    rfl
  · rw [P_ref04_Append_eq]
    repeat (first | refine (if_pos (by first | with_reducible rfl | assumption | (simp (disch := omega) only [ltI_iff, eqI_iff, eqS_iff, eqB_iff, inI_iff, leI_iff, capI_iff, isZ_iff, eqN_iff, roomI_iff, nI_def, ssz_def, tN_def, iadd64, isub64, imul64, conv64, conv8, conv32, iadd32, imul32, irem_pos, iquo64, iquo32, imin_l, imin_r, imax_l, imax_r, Bool.not_eq_true', ← Bool.not_eq_true, Bool.not_eq_eq_eq_not, Bool.not_true, Bool.not_false, not_true_eq_false, not_false_eq_true, List.length_append, List.length_cons, List.length_nil, List.length_take, List.length_drop, List.length_set, List.length_replicate] <;> omega) | omega)).trans ?_ | refine (if_neg (by first | with_reducible rfl | assumption | (simp (disch := omega) only [ltI_iff, eqI_iff, eqS_iff, eqB_iff, inI_iff, leI_iff, capI_iff, isZ_iff, eqN_iff, roomI_iff, nI_def, ssz_def, tN_def, iadd64, isub64, imul64, conv64, conv8, conv32, iadd32, imul32, irem_pos, iquo64, iquo32, imin_l, imin_r, imax_l, imax_r, Bool.not_eq_true', ← Bool.not_eq_true, Bool.not_eq_eq_eq_not, Bool.not_true, Bool.not_false, not_true_eq_false, not_false_eq_true, List.length_append, List.length_cons, List.length_nil, List.length_take, List.length_drop, List.length_set, List.length_replicate] <;> omega) | omega)).trans ?_ | refine (bnd (frame_big h).2).trans ?_ | refine Eq.trans (Sum.elim_inl _ _ _) ?_ | refine Eq.trans (Sum.elim_inr _ _ _) ?_)
    rfl
theorem append_full (D : Dk b s r) {x : List Int} (hx : Bytes x) (h : x.length ≤ 4000) (hr : r < b.length + (x.length + 7)) : P_disk_Append b s r x = some (b, s, r, 6) ∧ P_ref04_Append b s r x = some (b, s, r, 6) := by
  have o := own_all D
  have h1 := D.len
  have e : imax 0 (imin (nI b.length) (nI b.length)) = (b.length : Int) := by rw [nI_def, imin_l (by omega), imax_r (by omega)]
  have e2 := imin_l D.s1
  have hf := fr_len x
  constructor
  · rw [P_disk_Append_eq]
    simp only [e, tN_nat, List.take_length, e2]
    repeat (first | refine (if_pos (by first | with_reducible rfl | assumption | (simp (disch := omega) only [ltI_iff, eqI_iff, eqS_iff, eqB_iff, inI_iff, leI_iff, capI_iff, isZ_iff, eqN_iff, roomI_iff, nI_def, ssz_def, tN_def, iadd64, isub64, imul64, conv64, conv8, conv32, iadd32, imul32, irem_pos, iquo64, iquo32, imin_l, imin_r, imax_l, imax_r, Bool.not_eq_true', ← Bool.not_eq_true, Bool.not_eq_eq_eq_not, Bool.not_true, Bool.not_false, not_true_eq_false, not_false_eq_true, List.length_append, List.length_cons, List.length_nil, List.length_take, List.length_drop, List.length_set, List.length_replicate, hf] <;> omega) | omega)).trans ?_ | refine (if_neg (by first | with_reducible rfl | assumption | (simp (disch := omega) only [ltI_iff, eqI_iff, eqS_iff, eqB_iff, inI_iff, leI_iff, capI_iff, isZ_iff, eqN_iff, roomI_iff, nI_def, ssz_def, tN_def, iadd64, isub64, imul64, conv64, conv8, conv32, iadd32, imul32, irem_pos, iquo64, iquo32, imin_l, imin_r, imax_l, imax_r, Bool.not_eq_true', ← Bool.not_eq_true, Bool.not_eq_eq_eq_not, Bool.not_true, Bool.not_false, not_true_eq_false, not_false_eq_true, List.length_append, List.length_cons, List.length_nil, List.length_take, List.length_drop, List.length_set, List.length_replicate, hf] <;> omega) | omega)).trans ?_ | refine (bnd o.1).trans ?_ | refine (bnd o.2).trans ?_ | refine (bnd (frame_ok hx h).1).trans ?_ | refine Eq.trans (Sum.elim_inl _ _ _) ?_ | refine Eq.trans (Sum.elim_inr _ _ _) ?_)
    rfl
  · rw [P_ref04_Append_eq]
    repeat (first | refine (if_pos (by first | with_reducible rfl | assumption | (simp (disch := omega) only [ltI_iff, eqI_iff, eqS_iff, eqB_iff, inI_iff, leI_iff, capI_iff, isZ_iff, eqN_iff, roomI_iff, nI_def, ssz_def, tN_def, iadd64, isub64, imul64, conv64, conv8, conv32, iadd32, imul32, irem_pos, iquo64, iquo32, imin_l, imin_r, imax_l, imax_r, Bool.not_eq_true', ← Bool.not_eq_true, Bool.not_eq_eq_eq_not, Bool.not_true, Bool.not_false, not_true_eq_false, not_false_eq_true, List.length_append, List.length_cons, List.length_nil, List.length_take, List.length_drop, List.length_set, List.length_replicate, hf] <;> omega) | omega)).trans ?_ | refine (if_neg (by first | with_reducible rfl | assumption | (simp (disch := omega) only [ltI_iff, eqI_iff, eqS_iff, eqB_iff, inI_iff, leI_iff, capI_iff, isZ_iff, eqN_iff, roomI_iff, nI_def, ssz_def, tN_def, iadd64, isub64, imul64, conv64, conv8, conv32, iadd32, imul32, irem_pos, iquo64, iquo32, imin_l, imin_r, imax_l, imax_r, Bool.not_eq_true', ← Bool.not_eq_true, Bool.not_eq_eq_eq_not, Bool.not_true, Bool.not_false, not_true_eq_false, not_false_eq_true, List.length_append, List.length_cons, List.length_nil, List.length_take, List.length_drop, List.length_set, List.length_replicate, hf] <;> omega) | omega)).trans ?_ | refine (bnd (frame_ok hx h).2).trans ?_ | refine Eq.trans (Sum.elim_inl _ _ _) ?_ | refine Eq.trans (Sum.elim_inr _ _ _) ?_)
    rfl
theorem append_ok (D : Dk b s r) {x : List Int} (hx : Bytes x) (h : x.length ≤ 4000) (hr : b.length + (x.length + 7) ≤ r) : P_disk_Append b s r x = some (b ++ fr x, s, r, 0) ∧ P_ref04_Append b s r x = some (b ++ fr x, s, r, 0) := by
  have o := own_all D
  have h1 := D.len
  have e : imax 0 (imin (nI b.length) (nI b.length)) = (b.length : Int) := by rw [nI_def, imin_l (by omega), imax_r (by omega)]
  have e2 := imin_l D.s1
  have hf := fr_len x
  constructor
  · rw [P_disk_Append_eq]
    simp only [e, tN_nat, List.take_length, e2]
    repeat (first | refine (if_pos (by first | with_reducible rfl | assumption | (simp (disch := omega) only [ltI_iff, eqI_iff, eqS_iff, eqB_iff, inI_iff, leI_iff, capI_iff, isZ_iff, eqN_iff, roomI_iff, nI_def, ssz_def, tN_def, iadd64, isub64, imul64, conv64, conv8, conv32, iadd32, imul32, irem_pos, iquo64, iquo32, imin_l, imin_r, imax_l, imax_r, Bool.not_eq_true', ← Bool.not_eq_true, Bool.not_eq_eq_eq_not, Bool.not_true, Bool.not_false, not_true_eq_false, not_false_eq_true, List.length_append, List.length_cons, List.length_nil, List.length_take, List.length_drop, List.length_set, List.length_replicate, hf] <;> omega) | omega)).trans ?_ | refine (if_neg (by first | with_reducible rfl | assumption | (simp (disch := omega) only [ltI_iff, eqI_iff, eqS_iff, eqB_iff, inI_iff, leI_iff, capI_iff, isZ_iff, eqN_iff, roomI_iff, nI_def, ssz_def, tN_def, iadd64, isub64, imul64, conv64, conv8, conv32, iadd32, imul32, irem_pos, iquo64, iquo32, imin_l, imin_r, imax_l, imax_r, Bool.not_eq_true', ← Bool.not_eq_true, Bool.not_eq_eq_eq_not, Bool.not_true, Bool.not_false, not_true_eq_false, not_false_eq_true, List.length_append, List.length_cons, List.length_nil, List.length_take, List.length_drop, List.length_set, List.length_replicate, hf] <;> omega) | omega)).trans ?_ | refine (bnd o.1).trans ?_ | refine (bnd o.2).trans ?_ | refine (bnd (frame_ok hx h).1).trans ?_ | refine Eq.trans (Sum.elim_inl _ _ _) ?_ | refine Eq.trans (Sum.elim_inr _ _ _) ?_)
    rfl
  · rw [P_ref04_Append_eq]
    repeat (first | refine (if_pos (by first | with_reducible rfl | assumption | (simp (disch := omega) only [ltI_iff, eqI_iff, eqS_iff, eqB_iff, inI_iff, leI_iff, capI_iff, isZ_iff, eqN_iff, roomI_iff, nI_def, ssz_def, tN_def, iadd64, isub64, imul64, conv64, conv8, conv32, iadd32, imul32, irem_pos, iquo64, iquo32, imin_l, imin_r, imax_l, imax_r, Bool.not_eq_true', ← Bool.not_eq_true, Bool.not_eq_eq_eq_not, Bool.not_true, Bool.not_false, not_true_eq_false, not_false_eq_true, List.length_append, List.length_cons, List.length_nil, List.length_take, List.length_drop, List.length_set, List.length_replicate, hf] <;> omega) | omega)).trans ?_ | refine (if_neg (by first | with_reducible rfl | assumption | (simp (disch := omega) only [ltI_iff, eqI_iff, eqS_iff, eqB_iff, inI_iff, leI_iff, capI_iff, isZ_iff, eqN_iff, roomI_iff, nI_def, ssz_def, tN_def, iadd64, isub64, imul64, conv64, conv8, conv32, iadd32, imul32, irem_pos, iquo64, iquo32, imin_l, imin_r, imax_l, imax_r, Bool.not_eq_true', ← Bool.not_eq_true, Bool.not_eq_eq_eq_not, Bool.not_true, Bool.not_false, not_true_eq_false, not_false_eq_true, List.length_append, List.length_cons, List.length_nil, List.length_take, List.length_drop, List.length_set, List.length_replicate, hf] <;> omega) | omega)).trans ?_ | refine (bnd (frame_ok hx h).2).trans ?_ | refine Eq.trans (Sum.elim_inl _ _ _) ?_ | refine Eq.trans (Sum.elim_inr _ _ _) ?_)
    rfl
theorem Dk.more (D : Dk b s r) {x : List Int} (hx : Bytes x) (h : x.length ≤ 4000) (hr : b.length + (x.length + 7) ≤ r) (hl : b.length + (x.length + 7) ≤ 200000) : Dk (b ++ fr x) s r := by
  have h1 := D.s1
  have hf := fr_len x
  exact ⟨D.by_.append (fr_bytes hx h), by rw [List.length_append, hf]; exact hl, D.s0, by rw [List.length_append, hf]; omega, by rw [List.length_append, hf]; omega, D.r1⟩
theorem sync_ok (D : Dk b s r) : P_disk_Sync b s r = some (b, (b.length : Int), r) := by
  rw [P_disk_Sync_eq]
  repeat (first | refine (if_pos (by first | with_reducible rfl | assumption | (simp (disch := omega) only [ltI_iff, eqI_iff, eqS_iff, eqB_iff, inI_iff, leI_iff, capI_iff, isZ_iff, eqN_iff, roomI_iff, nI_def, ssz_def, tN_def, iadd64, isub64, imul64, conv64, conv8, conv32, iadd32, imul32, irem_pos, iquo64, iquo32, imin_l, imin_r, imax_l, imax_r, Bool.not_eq_true', ← Bool.not_eq_true, Bool.not_eq_eq_eq_not, Bool.not_true, Bool.not_false, not_true_eq_false, not_false_eq_true, List.length_append, List.length_cons, List.length_nil, List.length_take, List.length_drop, List.length_set, List.length_replicate] <;> omega) | omega)).trans ?_ | refine (if_neg (by first | with_reducible rfl | assumption | (simp (disch := omega) only [ltI_iff, eqI_iff, eqS_iff, eqB_iff, inI_iff, leI_iff, capI_iff, isZ_iff, eqN_iff, roomI_iff, nI_def, ssz_def, tN_def, iadd64, isub64, imul64, conv64, conv8, conv32, iadd32, imul32, irem_pos, iquo64, iquo32, imin_l, imin_r, imax_l, imax_r, Bool.not_eq_true', ← Bool.not_eq_true, Bool.not_eq_eq_eq_not, Bool.not_true, Bool.not_false, not_true_eq_false, not_false_eq_true, List.length_append, List.length_cons, List.length_nil, List.length_take, List.length_drop, List.length_set, List.length_replicate] <;> omega) | omega)).trans ?_ | refine (bnd (own_all D).1).trans ?_ | refine (bnd (own_all D).2).trans ?_ | refine Eq.trans (Sum.elim_inl _ _ _) ?_ | refine Eq.trans (Sum.elim_inr _ _ _) ?_)
  rfl
theorem Dk.sync (D : Dk b s r) : Dk b b.length r := ⟨D.by_, D.len, by omega, by omega, D.r0, D.r1⟩
theorem Dk.take (D : Dk b s r) {n : Nat} (hn : n ≤ b.length) {s' : Int} (h0 : 0 ≤ s') (h1 : s' ≤ n) : Dk (b.take n) s' r := by
  have := D.r0; have := D.len
  exact ⟨D.by_.take n, by rw [List.length_take]; omega, h0, by rw [List.length_take]; omega, by rw [List.length_take]; omega, D.r1⟩
theorem crash_ok (D : Dk b s r) {c n : Nat} {v : Int} (hv : v = (c : Int)) (hc : c ≤ 65535) (hn : (n : Int) = s + (c : Int) % (b.length - s + 1)) : P_disk_Crash b s r v = some (b.take n, (n : Int), r) ∧ P_ref04_Crash b s r v = some (b.take n, (n : Int), r) := by
  have h0 := D.s0; have h1 := D.s1; have h2 := D.len
  have hm := Int.emod_lt_of_pos (c : Int) (show 0 < (b.length : Int) - s + 1 by omega)
  have hm0 := Int.emod_nonneg (c : Int) (show (b.length : Int) - s + 1 ≠ 0 by omega)
  have hnl : n ≤ b.length := by omega
  have e1 : iadd .i64 (isub .i64 (nI b.length) s) 1 = (b.length : Int) - s + 1 := by rw [nI_def, isub64 (by omega), iadd64 (by omega)]
  have e2 : irem .i64 (conv .i64 v) ((b.length : Int) - s + 1) = (c : Int) % (b.length - s + 1) := by rw [conv64 (by omega), irem_pos (by omega), hv]
  have e3 : iadd .i64 s ((c : Int) % (b.length - s + 1)) = (n : Int) := by rw [iadd64 (by omega)]; omega
  constructor
  · have e4 : imax 0 (isub .i64 (nI b.length) s) = isub .i64 (nI b.length) s := by rw [nI_def, isub64 (by omega), imax_r (by omega)]
    have o := own_ok D (n := n) rfl hnl
    rw [imin_l (show s ≤ n by omega)] at o
    have D2 := D.take hnl h0 (show s ≤ (n : Int) by omega)
    have q := sync_ok D2
    have hl : ((b.take n).length : Int) = n := by rw [List.length_take]; omega
    rw [hl] at q
    rw [P_disk_Crash_eq]
    simp only [e4, e1, e2, e3]
    repeat (first | refine (if_pos (by first | with_reducible rfl | assumption | (simp (disch := omega) only [ltI_iff, eqI_iff, eqS_iff, eqB_iff, inI_iff, leI_iff, capI_iff, isZ_iff, eqN_iff, roomI_iff, nI_def, ssz_def, tN_def, iadd64, isub64, imul64, conv64, conv8, conv32, iadd32, imul32, irem_pos, iquo64, iquo32, imin_l, imin_r, imax_l, imax_r, Bool.not_eq_true', ← Bool.not_eq_true, Bool.not_eq_eq_eq_not, Bool.not_true, Bool.not_false, not_true_eq_false, not_false_eq_true, List.length_append, List.length_cons, List.length_nil, List.length_take, List.length_drop, List.length_set, List.length_replicate] <;> omega) | omega)).trans ?_ | refine (if_neg (by first | with_reducible rfl | assumption | (simp (disch := omega) only [ltI_iff, eqI_iff, eqS_iff, eqB_iff, inI_iff, leI_iff, capI_iff, isZ_iff, eqN_iff, roomI_iff, nI_def, ssz_def, tN_def, iadd64, isub64, imul64, conv64, conv8, conv32, iadd32, imul32, irem_pos, iquo64, iquo32, imin_l, imin_r, imax_l, imax_r, Bool.not_eq_true', ← Bool.not_eq_true, Bool.not_eq_eq_eq_not, Bool.not_true, Bool.not_false, not_true_eq_false, not_false_eq_true, List.length_append, List.length_cons, List.length_nil, List.length_take, List.length_drop, List.length_set, List.length_replicate] <;> omega) | omega)).trans ?_ | refine (bnd o.1).trans ?_ | refine (bnd o.2).trans ?_ | refine (bnd q).trans ?_ | refine Eq.trans (Sum.elim_inl _ _ _) ?_ | refine Eq.trans (Sum.elim_inr _ _ _) ?_)
    rfl
  · rw [P_ref04_Crash_eq]
    simp only [e1, e2, e3, tN_nat]
    repeat (first | refine (if_pos (by first | with_reducible rfl | assumption | (simp (disch := omega) only [ltI_iff, eqI_iff, eqS_iff, eqB_iff, inI_iff, leI_iff, capI_iff, isZ_iff, eqN_iff, roomI_iff, nI_def, ssz_def, tN_def, iadd64, isub64, imul64, conv64, conv8, conv32, iadd32, imul32, irem_pos, iquo64, iquo32, imin_l, imin_r, imax_l, imax_r, Bool.not_eq_true', ← Bool.not_eq_true, Bool.not_eq_eq_eq_not, Bool.not_true, Bool.not_false, not_true_eq_false, not_false_eq_true, List.length_append, List.length_cons, List.length_nil, List.length_take, List.length_drop, List.length_set, List.length_replicate] <;> omega) | omega)).trans ?_ | refine (if_neg (by first | with_reducible rfl | assumption | (simp (disch := omega) only [ltI_iff, eqI_iff, eqS_iff, eqB_iff, inI_iff, leI_iff, capI_iff, isZ_iff, eqN_iff, roomI_iff, nI_def, ssz_def, tN_def, iadd64, isub64, imul64, conv64, conv8, conv32, iadd32, imul32, irem_pos, iquo64, iquo32, imin_l, imin_r, imax_l, imax_r, Bool.not_eq_true', ← Bool.not_eq_true, Bool.not_eq_eq_eq_not, Bool.not_true, Bool.not_false, not_true_eq_false, not_false_eq_true, List.length_append, List.length_cons, List.length_nil, List.length_take, List.length_drop, List.length_set, List.length_replicate] <;> omega) | omega)).trans ?_ | refine Eq.trans (Sum.elim_inl _ _ _) ?_ | refine Eq.trans (Sum.elim_inr _ _ _) ?_)
    rfl
theorem records_ok (D : Dk b s r) : P_disk_Records b s r = some ((all b).1, ((all b).2 : Int)) := by
  have h2 := D.len
  rw [P_disk_Records_eq]
  repeat (first | refine (if_pos (by first | with_reducible rfl | assumption | (simp (disch := omega) only [ltI_iff, eqI_iff, eqS_iff, eqB_iff, inI_iff, leI_iff, capI_iff, isZ_iff, eqN_iff, roomI_iff, nI_def, ssz_def, tN_def, iadd64, isub64, imul64, conv64, conv8, conv32, iadd32, imul32, irem_pos, iquo64, iquo32, imin_l, imin_r, imax_l, imax_r, Bool.not_eq_true', ← Bool.not_eq_true, Bool.not_eq_eq_eq_not, Bool.not_true, Bool.not_false, not_true_eq_false, not_false_eq_true, List.length_append, List.length_cons, List.length_nil, List.length_take, List.length_drop, List.length_set, List.length_replicate] <;> omega) | omega)).trans ?_ | refine (if_neg (by first | with_reducible rfl | assumption | (simp (disch := omega) only [ltI_iff, eqI_iff, eqS_iff, eqB_iff, inI_iff, leI_iff, capI_iff, isZ_iff, eqN_iff, roomI_iff, nI_def, ssz_def, tN_def, iadd64, isub64, imul64, conv64, conv8, conv32, iadd32, imul32, irem_pos, iquo64, iquo32, imin_l, imin_r, imax_l, imax_r, Bool.not_eq_true', ← Bool.not_eq_true, Bool.not_eq_eq_eq_not, Bool.not_true, Bool.not_false, not_true_eq_false, not_false_eq_true, List.length_append, List.length_cons, List.length_nil, List.length_take, List.length_drop, List.length_set, List.length_replicate] <;> omega) | omega)).trans ?_ | refine (bnd (sum_all D.by_ (by omega))).trans ?_ | refine Eq.trans (Sum.elim_inl _ _ _) ?_ | refine Eq.trans (Sum.elim_inr _ _ _) ?_)
  rfl
theorem records1_ok (D : Dk b s r) : P_disk_Records_1 b s r = some (((all b).2 : Int), (all b).1) := by
  have h2 := D.len
  rw [P_disk_Records_1_eq]
  repeat (first | refine (if_pos (by first | with_reducible rfl | assumption | (simp (disch := omega) only [ltI_iff, eqI_iff, eqS_iff, eqB_iff, inI_iff, leI_iff, capI_iff, isZ_iff, eqN_iff, roomI_iff, nI_def, ssz_def, tN_def, iadd64, isub64, imul64, conv64, conv8, conv32, iadd32, imul32, irem_pos, iquo64, iquo32, imin_l, imin_r, imax_l, imax_r, Bool.not_eq_true', ← Bool.not_eq_true, Bool.not_eq_eq_eq_not, Bool.not_true, Bool.not_false, not_true_eq_false, not_false_eq_true, List.length_append, List.length_cons, List.length_nil, List.length_take, List.length_drop, List.length_set, List.length_replicate] <;> omega) | omega)).trans ?_ | refine (if_neg (by first | with_reducible rfl | assumption | (simp (disch := omega) only [ltI_iff, eqI_iff, eqS_iff, eqB_iff, inI_iff, leI_iff, capI_iff, isZ_iff, eqN_iff, roomI_iff, nI_def, ssz_def, tN_def, iadd64, isub64, imul64, conv64, conv8, conv32, iadd32, imul32, irem_pos, iquo64, iquo32, imin_l, imin_r, imax_l, imax_r, Bool.not_eq_true', ← Bool.not_eq_true, Bool.not_eq_eq_eq_not, Bool.not_true, Bool.not_false, not_true_eq_false, not_false_eq_true, List.length_append, List.length_cons, List.length_nil, List.length_take, List.length_drop, List.length_set, List.length_replicate] <;> omega) | omega)).trans ?_ | refine (bnd (sum_all D.by_ (by omega))).trans ?_ | refine Eq.trans (Sum.elim_inl _ _ _) ?_ | refine Eq.trans (Sum.elim_inr _ _ _) ?_)
  rfl
theorem Dk.all_le (D : Dk b s r) : (all b).2 ≤ b.length ∧ 7 * (all b).1.length ≤ b.length := all_len _ b D.by_
theorem repair_ok (D : Dk b s r) : P_disk_Repair b s r = some (b.take (all b).2, imin s (all b).2, r) ∧ P_ref04_Repair b s r = some (b.take (all b).2, imin s (all b).2, r) := by
  have h2 := D.len
  have ha := D.all_le
  have o := own_ok D (n := (all b).2) rfl ha.1
  constructor
  · rw [P_disk_Repair_eq]
    repeat (first | refine (if_pos (by first | with_reducible rfl | assumption | (simp (disch := omega) only [ltI_iff, eqI_iff, eqS_iff, eqB_iff, inI_iff, leI_iff, capI_iff, isZ_iff, eqN_iff, roomI_iff, nI_def, ssz_def, tN_def, iadd64, isub64, imul64, conv64, conv8, conv32, iadd32, imul32, irem_pos, iquo64, iquo32, imin_l, imin_r, imax_l, imax_r, Bool.not_eq_true', ← Bool.not_eq_true, Bool.not_eq_eq_eq_not, Bool.not_true, Bool.not_false, not_true_eq_false, not_false_eq_true, List.length_append, List.length_cons, List.length_nil, List.length_take, List.length_drop, List.length_set, List.length_replicate] <;> omega) | omega)).trans ?_ | refine (if_neg (by first | with_reducible rfl | assumption | (simp (disch := omega) only [ltI_iff, eqI_iff, eqS_iff, eqB_iff, inI_iff, leI_iff, capI_iff, isZ_iff, eqN_iff, roomI_iff, nI_def, ssz_def, tN_def, iadd64, isub64, imul64, conv64, conv8, conv32, iadd32, imul32, irem_pos, iquo64, iquo32, imin_l, imin_r, imax_l, imax_r, Bool.not_eq_true', ← Bool.not_eq_true, Bool.not_eq_eq_eq_not, Bool.not_true, Bool.not_false, not_true_eq_false, not_false_eq_true, List.length_append, List.length_cons, List.length_nil, List.length_take, List.length_drop, List.length_set, List.length_replicate] <;> omega) | omega)).trans ?_ | refine (bnd (records_ok D)).trans ?_ | refine (bnd o.1).trans ?_ | refine (bnd o.2).trans ?_ | refine Eq.trans (Sum.elim_inl _ _ _) ?_ | refine Eq.trans (Sum.elim_inr _ _ _) ?_)
    rfl
  · rw [P_ref04_Repair_eq]
    repeat (first | refine (if_pos (by first | with_reducible rfl | assumption | (simp (disch := omega) only [ltI_iff, eqI_iff, eqS_iff, eqB_iff, inI_iff, leI_iff, capI_iff, isZ_iff, eqN_iff, roomI_iff, nI_def, ssz_def, tN_def, iadd64, isub64, imul64, conv64, conv8, conv32, iadd32, imul32, irem_pos, iquo64, iquo32, imin_l, imin_r, imax_l, imax_r, Bool.not_eq_true', ← Bool.not_eq_true, Bool.not_eq_eq_eq_not, Bool.not_true, Bool.not_false, not_true_eq_false, not_false_eq_true, List.length_append, List.length_cons, List.length_nil, List.length_take, List.length_drop, List.length_set, List.length_replicate] <;> omega) | omega)).trans ?_ | refine (if_neg (by first | with_reducible rfl | assumption | (simp (disch := omega) only [ltI_iff, eqI_iff, eqS_iff, eqB_iff, inI_iff, leI_iff, capI_iff, isZ_iff, eqN_iff, roomI_iff, nI_def, ssz_def, tN_def, iadd64, isub64, imul64, conv64, conv8, conv32, iadd32, imul32, irem_pos, iquo64, iquo32, imin_l, imin_r, imax_l, imax_r, Bool.not_eq_true', ← Bool.not_eq_true, Bool.not_eq_eq_eq_not, Bool.not_true, Bool.not_false, not_true_eq_false, not_false_eq_true, List.length_append, List.length_cons, List.length_nil, List.length_take, List.length_drop, List.length_set, List.length_replicate] <;> omega) | omega)).trans ?_ | refine (bnd (ref_all D.by_ (by omega))).trans ?_ | refine Eq.trans (Sum.elim_inl _ _ _) ?_ | refine Eq.trans (Sum.elim_inr _ _ _) ?_)
    simp only [tN_nat]
theorem Dk.repair (D : Dk b s r) : Dk (b.take (all b).2) (imin s (all b).2) r := by
  have h := D.s0
  refine D.take D.all_le.1 ?_ ?_ <;> (unfold imin; split <;> omega)
end
/-- What stands behind a frame changes nothing in it. -/
theorem first_take {b : List Int} (hb : Bytes b) {n m : Nat} (h : (first b).2.2 = 0) (e : (first b).2.1 = (n : Int)) (hm : n ≤ m) : first (b.take m) = first b := by
  match b, hb, h, e with
  | [], hb, h, e => simp
  | [b0], hb, h, e => simp [first] at h
  | [b0, b1], hb, h, e => simp [first] at h
  | b0 :: b1 :: b2 :: r, hb, h, e =>
    have k1 := hb b1 (by simp)
    have k2 := hb b2 (by simp)
    have h3 : 3 ≤ m := by
      obtain ⟨n', e', h7, _⟩ := first_bd hb h
      omega
    obtain ⟨m, rfl⟩ : ∃ i, m = i + 3 := ⟨m - 3, by omega⟩
    rw [List.take_succ_cons, List.take_succ_cons, List.take_succ_cons]
    unfold first at h e ⊢
    simp only at h e ⊢
    split at h
    · rename_i hc
      rw [if_pos hc] at e
      split at h
      · rename_i hc2
        rw [if_pos hc2] at e
        simp only at e
        have hmm : (b1 * 256 + b2).toNat + 4 ≤ m := by omega
        have t1 : (r.take m).take (b1 * 256 + b2).toNat = r.take (b1 * 256 + b2).toNat := by rw [List.take_take]; congr 1; omega
        have t2 : ((r.take m).drop (b1 * 256 + b2).toNat).take 4 = (r.drop (b1 * 256 + b2).toNat).take 4 := by rw [List.drop_take, List.take_take]; congr 1; omega
        rw [if_pos (by rw [List.length_take]; omega), if_pos hc, t1, t2]
      · simp at h
    · simp at h
/-- What is found is found again. -/
theorem all_again : ∀ (k : Nat) (b : List Int), Bytes b → b.length < k → all (b.take (all b).2) = all b := by
  intro k
  induction k with
  | zero => intro b _ h; omega
  | succ k ih =>
    intro b hb hk
    by_cases h : (first b).2.2 = 0
    · obtain ⟨n, e, h7, hn⟩ := first_bd hb h
      have ha := all_ok hb h e
      have ih := ih (b.drop n) (hb.drop n) (by simp; omega)
      have e2 : (all b).2 = n + (all (b.drop n)).2 := by rw [ha]
      have hl := all_len ((b.drop n).length + 1) (b.drop n) (hb.drop n)
      have hsame : first (b.take (n + (all (b.drop n)).2)) = first b := first_take hb h e (by omega)
      have ht := all_ok (hb.take (n + (all (b.drop n)).2)) (by rw [hsame]; exact h) (by rw [hsame]; exact e)
      rw [e2, ht, hsame, ha, List.drop_take, Nat.add_sub_cancel_left, ih]
    · rw [all_no h]; simp [all_nil]
end Go.Ws
