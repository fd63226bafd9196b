/-
  PartFull, plainly.
  Conditions: none.
-/
import Derived.Test.YtnokdedppgmliaaZPartLaws
set_option linter.unusedVariables false
set_option linter.unusedSimpArgs false
namespace Go.Ws
set_option linter.unusedVariables false
set_option linter.unusedSimpArgs false
set_option maxHeartbeats 1000000

theorem full_l0 {x1 : Int} {x2 : Bool} {n : Nat} (hn : iadd .i64 (conv .i64 (irem .u8 x1 60)) 1 = (n : Int)) (hn6 : n ≤ 60) : ∀ (d i : Nat) (v : Int) (l : List (Int × Int)), n - i = d → i ≤ n → v = (i : Int) → l.length = min i 50 → Rt 0 l false 0 →
    ∃ l', P_law09_PartFull_l0 x1 x2 v 0 l false 0 = some (.inl (0, l', false, 0)) ∧ l'.length = min n 50 ∧ Rt 0 l' false 0 := by
  intro d
  induction d with
  | zero =>
    intro i v l hd hi hv hl hr
    refine ⟨l, ?_, by omega, hr⟩
    rw [P_law09_PartFull_l0_eq]
    simp only [hn]
    repeat (first | refine (if_pos (by first | with_reducible rfl | assumption | (simp (disch := omega) only [ltI_iff, eqI_iff, eqS_iff, eqB_iff, inI_iff, leI_iff, capI_iff, isZ_iff, eqN_iff, roomI_iff, nI_def, ssz_def, tN_def, iadd64, isub64, imul64, conv64, conv8, conv32, iadd32, imul32, irem_pos, iquo64, iquo32, imin_l, imin_r, imax_l, imax_r, Bool.not_eq_true', ← Bool.not_eq_true, Bool.not_eq_eq_eq_not, Bool.not_true, Bool.not_false, not_true_eq_false, not_false_eq_true, Bool.false_eq_true, List.length_append, List.length_cons, List.length_nil, List.length_take, List.length_drop, List.length_set, List.length_replicate] <;> omega) | omega)).trans ?_ | refine (if_neg (by first | with_reducible rfl | assumption | (simp (disch := omega) only [ltI_iff, eqI_iff, eqS_iff, eqB_iff, inI_iff, leI_iff, capI_iff, isZ_iff, eqN_iff, roomI_iff, nI_def, ssz_def, tN_def, iadd64, isub64, imul64, conv64, conv8, conv32, iadd32, imul32, irem_pos, iquo64, iquo32, imin_l, imin_r, imax_l, imax_r, Bool.not_eq_true', ← Bool.not_eq_true, Bool.not_eq_eq_eq_not, Bool.not_true, Bool.not_false, not_true_eq_false, not_false_eq_true, Bool.false_eq_true, List.length_append, List.length_cons, List.length_nil, List.length_take, List.length_drop, List.length_set, List.length_replicate] <;> omega) | omega)).trans ?_ | refine Eq.trans (Sum.elim_inl _ _ _) ?_ | refine Eq.trans (Sum.elim_inr _ _ _) ?_)
    rfl
  | succ d ih =>
    intro i v l hd hi hv hl hr
    have hk : conv .u8 (irem .i64 v 64) = (i : Int) % 64 := by rw [hv, irem_pos (by omega), conv8 (by omega)]
    obtain ⟨l', e, q1, q2, q3⟩ := add_any (s := 0) (l := l) (c := false) (o := 0) (by omega) ((i : Int) % 64) 1
    have hk64 : (i : Int) % 64 < 64 := by omega
    rcases q3 with ⟨rfl, _, _, _, h50, rfl⟩ | ⟨he, rfl, hno, h6, _⟩
    · have hr' : Rt 0 (l ++ [((i : Int) % 64, 1)]) false 0 := by
        refine ⟨hr.1, by simp; omega, fun x hx => ?_, hr.2.2.2⟩
        rcases List.mem_append.1 hx with hx | hx
        · exact hr.2.2.1 x hx
        · simp at hx; subst hx; exact hk64
      obtain ⟨l2, p1, p2, p3⟩ := ih (i + 1) (iadd .i64 v 1) _ (by omega) (by omega) (by first | with_reducible rfl | assumption | (simp (disch := omega) only [ltI_iff, eqI_iff, eqS_iff, eqB_iff, inI_iff, leI_iff, capI_iff, isZ_iff, eqN_iff, roomI_iff, nI_def, ssz_def, tN_def, iadd64, isub64, imul64, conv64, conv8, conv32, iadd32, imul32, irem_pos, iquo64, iquo32, imin_l, imin_r, imax_l, imax_r, Bool.not_eq_true', ← Bool.not_eq_true, Bool.not_eq_eq_eq_not, Bool.not_true, Bool.not_false, not_true_eq_false, not_false_eq_true, Bool.false_eq_true, List.length_append, List.length_cons, List.length_nil, List.length_take, List.length_drop, List.length_set, List.length_replicate] <;> omega) | omega) (by simp; omega) hr'
      refine ⟨l2, ?_, p2, p3⟩
      have hb : eqB (eqI 0 0) (ltI v 50) = true := by rw [eqB_iff, eqI_self]; exact (ltI_iff.2 (by omega)).symm
      rw [P_law09_PartFull_l0_eq]
      simp only [hn, hk]
      repeat (first | refine (if_pos (by first | with_reducible rfl | assumption | (simp (disch := omega) only [ltI_iff, eqI_iff, eqS_iff, eqB_iff, inI_iff, leI_iff, capI_iff, isZ_iff, eqN_iff, roomI_iff, nI_def, ssz_def, tN_def, iadd64, isub64, imul64, conv64, conv8, conv32, iadd32, imul32, irem_pos, iquo64, iquo32, imin_l, imin_r, imax_l, imax_r, Bool.not_eq_true', ← Bool.not_eq_true, Bool.not_eq_eq_eq_not, Bool.not_true, Bool.not_false, not_true_eq_false, not_false_eq_true, Bool.false_eq_true, List.length_append, List.length_cons, List.length_nil, List.length_take, List.length_drop, List.length_set, List.length_replicate, hb] <;> omega) | omega)).trans ?_ | refine (if_neg (by first | with_reducible rfl | assumption | (simp (disch := omega) only [ltI_iff, eqI_iff, eqS_iff, eqB_iff, inI_iff, leI_iff, capI_iff, isZ_iff, eqN_iff, roomI_iff, nI_def, ssz_def, tN_def, iadd64, isub64, imul64, conv64, conv8, conv32, iadd32, imul32, irem_pos, iquo64, iquo32, imin_l, imin_r, imax_l, imax_r, Bool.not_eq_true', ← Bool.not_eq_true, Bool.not_eq_eq_eq_not, Bool.not_true, Bool.not_false, not_true_eq_false, not_false_eq_true, Bool.false_eq_true, List.length_append, List.length_cons, List.length_nil, List.length_take, List.length_drop, List.length_set, List.length_replicate, hb] <;> omega) | omega)).trans ?_ | refine (bnd q1).trans ?_ | refine Eq.trans (Sum.elim_inl _ _ _) ?_ | refine Eq.trans (Sum.elim_inr _ _ _) ?_)
      exact p1
    · have h50 : ¬ l'.length < 50 := fun h => hno ⟨hr, rfl, hk64, h⟩
      have e6 := h6 hr rfl hk64
      subst e6
      obtain ⟨l2, p1, p2, p3⟩ := ih (i + 1) (iadd .i64 v 1) l' (by omega) (by omega) (by first | with_reducible rfl | assumption | (simp (disch := omega) only [ltI_iff, eqI_iff, eqS_iff, eqB_iff, inI_iff, leI_iff, capI_iff, isZ_iff, eqN_iff, roomI_iff, nI_def, ssz_def, tN_def, iadd64, isub64, imul64, conv64, conv8, conv32, iadd32, imul32, irem_pos, iquo64, iquo32, imin_l, imin_r, imax_l, imax_r, Bool.not_eq_true', ← Bool.not_eq_true, Bool.not_eq_eq_eq_not, Bool.not_true, Bool.not_false, not_true_eq_false, not_false_eq_true, Bool.false_eq_true, List.length_append, List.length_cons, List.length_nil, List.length_take, List.length_drop, List.length_set, List.length_replicate] <;> omega) | omega) (by omega) hr
      refine ⟨l2, ?_, p2, p3⟩
      have hb : eqB (eqI 6 0) (ltI v 50) = true := by
        rw [eqB_iff]
        have h1 : ltI v 50 = false := by rw [← Bool.not_eq_true, ltI_iff]; omega
        rw [h1]; rfl
      rw [P_law09_PartFull_l0_eq]
      simp only [hn, hk]
      repeat (first | refine (if_pos (by first | with_reducible rfl | assumption | (simp (disch := omega) only [ltI_iff, eqI_iff, eqS_iff, eqB_iff, inI_iff, leI_iff, capI_iff, isZ_iff, eqN_iff, roomI_iff, nI_def, ssz_def, tN_def, iadd64, isub64, imul64, conv64, conv8, conv32, iadd32, imul32, irem_pos, iquo64, iquo32, imin_l, imin_r, imax_l, imax_r, Bool.not_eq_true', ← Bool.not_eq_true, Bool.not_eq_eq_eq_not, Bool.not_true, Bool.not_false, not_true_eq_false, not_false_eq_true, Bool.false_eq_true, List.length_append, List.length_cons, List.length_nil, List.length_take, List.length_drop, List.length_set, List.length_replicate, hb] <;> omega) | omega)).trans ?_ | refine (if_neg (by first | with_reducible rfl | assumption | (simp (disch := omega) only [ltI_iff, eqI_iff, eqS_iff, eqB_iff, inI_iff, leI_iff, capI_iff, isZ_iff, eqN_iff, roomI_iff, nI_def, ssz_def, tN_def, iadd64, isub64, imul64, conv64, conv8, conv32, iadd32, imul32, irem_pos, iquo64, iquo32, imin_l, imin_r, imax_l, imax_r, Bool.not_eq_true', ← Bool.not_eq_true, Bool.not_eq_eq_eq_not, Bool.not_true, Bool.not_false, not_true_eq_false, not_false_eq_true, Bool.false_eq_true, List.length_append, List.length_cons, List.length_nil, List.length_take, List.length_drop, List.length_set, List.length_replicate, hb] <;> omega) | omega)).trans ?_ | refine (bnd q1).trans ?_ | refine Eq.trans (Sum.elim_inl _ _ _) ?_ | refine Eq.trans (Sum.elim_inr _ _ _) ?_)
      exact p1
theorem plain_full (x1 : Int) (x2 : Bool) (w1 : w_t5 x1) (w2 : w_t4 x2) : P_law09_PartFull x1 x2 = some true := by
  simp only [w_t5] at w1
  obtain ⟨m, rfl⟩ : ∃ m : Nat, x1 = (m : Int) := ⟨x1.toNat, by omega⟩
  have hn : iadd .i64 (conv .i64 (irem .u8 (m : Int) 60)) 1 = ((m % 60 + 1 : Nat) : Int) := by
    rw [irem_pos (by omega), conv64 (by omega), iadd64 (by omega)]; omega
  obtain ⟨l, q, hl, hr⟩ := full_l0 (x2 := x2) hn (by omega) _ 0 0 [] rfl (by omega) rfl (by simp) rt0
  have hll : l.length ≤ 1000 := by omega
  obtain ⟨s', e, v1, _, v3⟩ := vote_any (s := 0) (l := l) (c := false) (o := 0) hll x2
  rcases v3 with ⟨rfl, _, _, hs'⟩ | ⟨_, _, hno, _⟩
  rotate_left
  · exact absurd ⟨hr, rfl⟩ hno
  have hr' : Rt s' l false 0 := by
    refine ⟨?_, hr.2.1, hr.2.2.1, .inr ⟨?_, rfl, fun h => by cases h⟩⟩
    · rw [hs']; split <;> omega
    · rw [hs']; split <;> omega
  have hs0 : s' ≠ 0 := by rw [hs']; split <;> omega
  obtain ⟨l2, e2, a1, _, a3⟩ := add_any (s := s') (l := l) (c := false) (o := 0) hll 1 1
  have ha : e2 = 13 := by
    rcases a3 with ⟨_, _, h, _⟩ | ⟨_, _, _, _, h⟩
    · exact absurd h hs0
    · exact h hr' hs0 (by omega)
  obtain ⟨s3, e3, b1, _, b3⟩ := vote_any (s := s') (l := l) (c := false) (o := 0) hll x2
  have hb : e3 = 13 := by
    rcases b3 with ⟨_, _, h, _⟩ | ⟨_, _, _, h⟩
    · exact absurd h hs0
    · exact h hr'
  subst ha hb
  rw [P_law09_PartFull_eq]
  simp only [hn]
  have hmin : imin ((m % 60 + 1 : Nat) : Int) 50 = (l.length : Int) := by
    rw [hl]; unfold imin; split <;> omega
  repeat (first | refine (if_pos (by first | with_reducible rfl | assumption | (simp (disch := omega) only [ltI_iff, eqI_iff, eqS_iff, eqB_iff, inI_iff, leI_iff, capI_iff, isZ_iff, eqN_iff, roomI_iff, nI_def, ssz_def, tN_def, iadd64, isub64, imul64, conv64, conv8, conv32, iadd32, imul32, irem_pos, iquo64, iquo32, imin_l, imin_r, imax_l, imax_r, Bool.not_eq_true', ← Bool.not_eq_true, Bool.not_eq_eq_eq_not, Bool.not_true, Bool.not_false, not_true_eq_false, not_false_eq_true, Bool.false_eq_true, List.length_append, List.length_cons, List.length_nil, List.length_take, List.length_drop, List.length_set, List.length_replicate, hmin] <;> omega) | omega)).trans ?_ | refine (if_neg (by first | with_reducible rfl | assumption | (simp (disch := omega) only [ltI_iff, eqI_iff, eqS_iff, eqB_iff, inI_iff, leI_iff, capI_iff, isZ_iff, eqN_iff, roomI_iff, nI_def, ssz_def, tN_def, iadd64, isub64, imul64, conv64, conv8, conv32, iadd32, imul32, irem_pos, iquo64, iquo32, imin_l, imin_r, imax_l, imax_r, Bool.not_eq_true', ← Bool.not_eq_true, Bool.not_eq_eq_eq_not, Bool.not_true, Bool.not_false, not_true_eq_false, not_false_eq_true, Bool.false_eq_true, List.length_append, List.length_cons, List.length_nil, List.length_take, List.length_drop, List.length_set, List.length_replicate, hmin] <;> omega) | omega)).trans ?_ | refine (bnd alive_ok).trans ?_ | refine (bnd q).trans ?_ | refine (bnd v1).trans ?_ | refine (bnd a1).trans ?_ | refine (bnd b1).trans ?_ | refine Eq.trans (Sum.elim_inl _ _ _) ?_ | refine Eq.trans (Sum.elim_inr _ _ _) ?_)
  rw [hs']
  cases x2 <;> rfl
end Go.Ws
