/-
  The ledger's laws, plainly.
  Conditions: none.
-/
import Derived.Test.YtlgkcajgkahmgaaZLedger
set_option linter.unusedVariables false
set_option linter.unusedSimpArgs false
namespace Go.Ws
set_option linter.unusedVariables false
set_option linter.unusedSimpArgs false
set_option maxHeartbeats 1000000

theorem alive_ok : P_law08_alive = some true := le_law08_alive 60 true (by kernel_rfl)
theorem wf_l {x : List (Int × Int)} (w : w_t22 x) : WfL x := fun d hd => ⟨(w.2 d hd).1.1, (w.2 d hd).2⟩
theorem key_l {x : List (Int × Int)} (w : w_t22 x) (h : keysOk x) : ∀ d ∈ x, 0 ≤ d.1 ∧ d.1 < 64 ∧ InR d.2 := fun d hd => ⟨(w.2 d hd).1.1, h d hd, (w.2 d hd).2⟩

theorem plain_calls (x1 x2 : List (Int × Int)) (x3 x4 : Int) (w1 : w_t22 x1) (w2 : w_t22 x2) (w3 : w_t26 (x3, x4)) : P_law08_LedgerCalls x1 x2 x3 x4 = some true := by
  have hl1 : x1.length ≤ 9223372036854775807 := w1.1
  have hl2 : x2.length ≤ 9223372036854775807 := w2.1
  have hx : w_t5 x3 ∧ w_t2 x4 := w3
  rw [P_law08_LedgerCalls_eq]
  by_cases h1 : 100 < x1.length
  · repeat (first | refine (if_pos (by first | with_reducible rfl | assumption | (simp (disch := omega) only [ltI_iff, eqI_iff, eqS_iff, eqB_iff, inI_iff, leI_iff, capI_iff, isZ_iff, eqN_iff, roomI_iff, nI_def, ssz_def, tN_def, iadd64, isub64, imul64, conv64, conv8, conv32, iadd32, imul32, irem_pos, iquo64, iquo32, imin_l, imin_r, imax_l, imax_r, Bool.not_eq_true', ← Bool.not_eq_true, Bool.not_eq_eq_eq_not, Bool.not_true, Bool.not_false, not_true_eq_false, not_false_eq_true, Bool.false_eq_true, List.length_append, List.length_cons, List.length_nil, List.length_take, List.length_drop, List.length_set, List.length_replicate] <;> omega) | omega)).trans ?_ | refine (if_neg (by first | with_reducible rfl | assumption | (simp (disch := omega) only [ltI_iff, eqI_iff, eqS_iff, eqB_iff, inI_iff, leI_iff, capI_iff, isZ_iff, eqN_iff, roomI_iff, nI_def, ssz_def, tN_def, iadd64, isub64, imul64, conv64, conv8, conv32, iadd32, imul32, irem_pos, iquo64, iquo32, imin_l, imin_r, imax_l, imax_r, Bool.not_eq_true', ← Bool.not_eq_true, Bool.not_eq_eq_eq_not, Bool.not_true, Bool.not_false, not_true_eq_false, not_false_eq_true, Bool.false_eq_true, List.length_append, List.length_cons, List.length_nil, List.length_take, List.length_drop, List.length_set, List.length_replicate] <;> omega) | omega)).trans ?_ | refine (bnd alive_ok).trans ?_ | refine Eq.trans (Sum.elim_inl _ _ _) ?_ | refine Eq.trans (Sum.elim_inr _ _ _) ?_)
    rfl
  by_cases h2 : 100 < x2.length
  · repeat (first | refine (if_pos (by first | with_reducible rfl | assumption | (simp (disch := omega) only [ltI_iff, eqI_iff, eqS_iff, eqB_iff, inI_iff, leI_iff, capI_iff, isZ_iff, eqN_iff, roomI_iff, nI_def, ssz_def, tN_def, iadd64, isub64, imul64, conv64, conv8, conv32, iadd32, imul32, irem_pos, iquo64, iquo32, imin_l, imin_r, imax_l, imax_r, Bool.not_eq_true', ← Bool.not_eq_true, Bool.not_eq_eq_eq_not, Bool.not_true, Bool.not_false, not_true_eq_false, not_false_eq_true, Bool.false_eq_true, List.length_append, List.length_cons, List.length_nil, List.length_take, List.length_drop, List.length_set, List.length_replicate] <;> omega) | omega)).trans ?_ | refine (if_neg (by first | with_reducible rfl | assumption | (simp (disch := omega) only [ltI_iff, eqI_iff, eqS_iff, eqB_iff, inI_iff, leI_iff, capI_iff, isZ_iff, eqN_iff, roomI_iff, nI_def, ssz_def, tN_def, iadd64, isub64, imul64, conv64, conv8, conv32, iadd32, imul32, irem_pos, iquo64, iquo32, imin_l, imin_r, imax_l, imax_r, Bool.not_eq_true', ← Bool.not_eq_true, Bool.not_eq_eq_eq_not, Bool.not_true, Bool.not_false, not_true_eq_false, not_false_eq_true, Bool.false_eq_true, List.length_append, List.length_cons, List.length_nil, List.length_take, List.length_drop, List.length_set, List.length_replicate] <;> omega) | omega)).trans ?_ | refine (bnd alive_ok).trans ?_ | refine Eq.trans (Sum.elim_inl _ _ _) ?_ | refine Eq.trans (Sum.elim_inr _ _ _) ?_)
    rfl
  obtain ⟨a, e, hal, q1, q2⟩ : ∃ a e, a.length ≤ 1000 ∧ P_ledger_Put x1 x2 = some (a, e) ∧ P_ref08_Put x1 x2 = some (a, e) := by
    by_cases h : Led x1 ∧ keysOk x2
    · exact ⟨_, _, by have := ofL_len (x1 ++ x2); omega, put_t h.1 (key_l w2 h.2) (by omega), rput_t h.1 h.2 (by omega)⟩
    · exact ⟨_, _, by omega, put_f (wf_l w1) (by omega) (by omega) h, rput_f (wf_l w1) (by omega) (by omega) h⟩
  obtain ⟨a2, e2, hal2, q3, q4⟩ : ∃ a e, a.length ≤ 1000 ∧ P_ledger_Add x1 x3 x4 = some (a, e) ∧ P_ref08_Put x1 [(x3, x4)] = some (a, e) := by
    by_cases h : Led x1 ∧ x3 < 64
    · exact ⟨_, _, by have := ofL_len (x1 ++ [(x3, x4)]); omega, add_t h.1 ⟨hx.1.1, h.2⟩ hx.2, rput_t h.1 (fun d hd => by rw [List.mem_singleton] at hd; subst hd; exact h.2) (by simp)⟩
    · exact ⟨_, _, by omega, add_f (wf_l w1) (by omega) h, rput_f (wf_l w1) (by omega) (by simp) (fun hh => h ⟨hh.1, hh.2 (x3, x4) (by simp)⟩)⟩
  obtain ⟨a3, e3, hal3, q5, q6⟩ : ∃ a e, a.length ≤ 1000 ∧ P_ledger_Sum x1 x2 = some (a, e) ∧ P_ref08_Sum x1 x2 = some (a, e) := by
    by_cases h : Led x1 ∧ Led x2
    · exact ⟨_, _, by have := ofL_len (x1 ++ x2); omega, (lsum_t h.1 h.2).1, (lsum_t h.1 h.2).2⟩
    · have := lsum_f (wf_l w1) (wf_l w2) (by omega) (by omega) h
      exact ⟨_, _, by simp, this.1, this.2⟩
  obtain ⟨a4, e4, hal4, q7, q8⟩ : ∃ a e, a.length ≤ 1000 ∧ P_ledger_Less x1 = some (a, e) ∧ P_ref08_Less x1 = some (a, e) := by
    by_cases h : Led x1
    · exact ⟨_, _, by simp [negL]; omega, (less_t h).1, (less_t h).2⟩
    · have := less_f (wf_l w1) (by omega) h
      exact ⟨_, _, by simp, this.1, this.2⟩
  obtain ⟨r, q9, q10⟩ : ∃ r, P_ledger_Right x1 = some r ∧ P_ref08_Right x1 = some r := by
    by_cases h : Led x1
    · exact ⟨_, ledger_right_t h, ref08_right_t h⟩
    · exact ⟨_, ledger_right_f (wf_l w1) (by omega) h, ref08_right_f (wf_l w1) (by omega) h⟩
  have e : eqB r r = true := eqB_iff.2 rfl
  repeat (first | refine (if_pos (by first | with_reducible rfl | assumption | (simp (disch := omega) only [ltI_iff, eqI_iff, eqS_iff, eqB_iff, inI_iff, leI_iff, capI_iff, isZ_iff, eqN_iff, roomI_iff, nI_def, ssz_def, tN_def, iadd64, isub64, imul64, conv64, conv8, conv32, iadd32, imul32, irem_pos, iquo64, iquo32, imin_l, imin_r, imax_l, imax_r, Bool.not_eq_true', ← Bool.not_eq_true, Bool.not_eq_eq_eq_not, Bool.not_true, Bool.not_false, not_true_eq_false, not_false_eq_true, Bool.false_eq_true, List.length_append, List.length_cons, List.length_nil, List.length_take, List.length_drop, List.length_set, List.length_replicate, e] <;> omega) | omega)).trans ?_ | refine (if_neg (by first | with_reducible rfl | assumption | (simp (disch := omega) only [ltI_iff, eqI_iff, eqS_iff, eqB_iff, inI_iff, leI_iff, capI_iff, isZ_iff, eqN_iff, roomI_iff, nI_def, ssz_def, tN_def, iadd64, isub64, imul64, conv64, conv8, conv32, iadd32, imul32, irem_pos, iquo64, iquo32, imin_l, imin_r, imax_l, imax_r, Bool.not_eq_true', ← Bool.not_eq_true, Bool.not_eq_eq_eq_not, Bool.not_true, Bool.not_false, not_true_eq_false, not_false_eq_true, Bool.false_eq_true, List.length_append, List.length_cons, List.length_nil, List.length_take, List.length_drop, List.length_set, List.length_replicate, e] <;> omega) | omega)).trans ?_ | refine (bnd alive_ok).trans ?_ | refine (bnd q1).trans ?_ | refine (bnd q2).trans ?_ | refine (bnd q3).trans ?_ | refine (bnd q4).trans ?_ | refine (bnd q5).trans ?_ | refine (bnd q6).trans ?_ | refine (bnd q7).trans ?_ | refine (bnd q8).trans ?_ | refine (bnd (lsame_ok (x := a) (by omega))).trans ?_ | refine (bnd (lsame_ok (x := a2) (by omega))).trans ?_ | refine (bnd (lsame_ok (x := a3) (by omega))).trans ?_ | refine (bnd (lsame_ok (x := a4) (by omega))).trans ?_ | refine (bnd q9).trans ?_ | refine (bnd q10).trans ?_ | refine (bnd (get_ok (l := x1) (by omega) x3)).trans ?_ | refine (bnd (rget_ok (l := x1) (by omega) x3)).trans ?_ | refine Eq.trans (Sum.elim_inl _ _ _) ?_ | refine Eq.trans (Sum.elim_inr _ _ _) ?_)
  rw [eqI_self]

theorem keys_k0 {x1 b : List (Int × Int)} {k y e : Int} (ha : Led x1) (hb : Led b) (hs : ∀ j, 0 ≤ j → sumK b j = if j = k then iadd .i64 (sumK x1 j) y else sumK x1 j) : ∀ (d i : Nat) (v : Int), 70 - i = d → i ≤ 70 → v = (i : Int) → P_law08_LedgerKeys_l0 x1 k y (b, e) v = some (.inl ()) := by
  have hl := ha.len
  have hl2 := hb.len
  intro d
  induction d with
  | zero =>
    intro i v hd hi hv
    rw [P_law08_LedgerKeys_l0_eq]
    repeat (first | refine (if_pos (by first | with_reducible rfl | assumption | (simp (disch := omega) only [ltI_iff, eqI_iff, eqS_iff, eqB_iff, inI_iff, leI_iff, capI_iff, isZ_iff, eqN_iff, roomI_iff, nI_def, ssz_def, tN_def, iadd64, isub64, imul64, conv64, conv8, conv32, iadd32, imul32, irem_pos, iquo64, iquo32, imin_l, imin_r, imax_l, imax_r, Bool.not_eq_true', ← Bool.not_eq_true, Bool.not_eq_eq_eq_not, Bool.not_true, Bool.not_false, not_true_eq_false, not_false_eq_true, Bool.false_eq_true, List.length_append, List.length_cons, List.length_nil, List.length_take, List.length_drop, List.length_set, List.length_replicate] <;> omega) | omega)).trans ?_ | refine (if_neg (by first | with_reducible rfl | assumption | (simp (disch := omega) only [ltI_iff, eqI_iff, eqS_iff, eqB_iff, inI_iff, leI_iff, capI_iff, isZ_iff, eqN_iff, roomI_iff, nI_def, ssz_def, tN_def, iadd64, isub64, imul64, conv64, conv8, conv32, iadd32, imul32, irem_pos, iquo64, iquo32, imin_l, imin_r, imax_l, imax_r, Bool.not_eq_true', ← Bool.not_eq_true, Bool.not_eq_eq_eq_not, Bool.not_true, Bool.not_false, not_true_eq_false, not_false_eq_true, Bool.false_eq_true, List.length_append, List.length_cons, List.length_nil, List.length_take, List.length_drop, List.length_set, List.length_replicate] <;> omega) | omega)).trans ?_ | refine Eq.trans (Sum.elim_inl _ _ _) ?_ | refine Eq.trans (Sum.elim_inr _ _ _) ?_)
    rfl
  | succ d ih =>
    intro i v hd hi hv
    have g1 := get_ok (l := x1) (by omega) v
    have g2 := get_ok (l := b) (by omega) v
    rw [getK_led ha] at g1
    rw [getK_led hb] at g2
    have hn := ih (i + 1) (iadd .u8 v 1) (by omega) (by omega) (by rw [iadd8 (by omega)]; omega)
    have h := hs v (by omega)
    rw [P_law08_LedgerKeys_l0_eq]
    by_cases hk : v = k
    · rw [if_pos hk] at h
      repeat (first | refine (if_pos (by first | with_reducible rfl | assumption | (simp (disch := omega) only [ltI_iff, eqI_iff, eqS_iff, eqB_iff, inI_iff, leI_iff, capI_iff, isZ_iff, eqN_iff, roomI_iff, nI_def, ssz_def, tN_def, iadd64, isub64, imul64, conv64, conv8, conv32, iadd32, imul32, irem_pos, iquo64, iquo32, imin_l, imin_r, imax_l, imax_r, Bool.not_eq_true', ← Bool.not_eq_true, Bool.not_eq_eq_eq_not, Bool.not_true, Bool.not_false, not_true_eq_false, not_false_eq_true, Bool.false_eq_true, List.length_append, List.length_cons, List.length_nil, List.length_take, List.length_drop, List.length_set, List.length_replicate, h] <;> omega) | omega)).trans ?_ | refine (if_neg (by first | with_reducible rfl | assumption | (simp (disch := omega) only [ltI_iff, eqI_iff, eqS_iff, eqB_iff, inI_iff, leI_iff, capI_iff, isZ_iff, eqN_iff, roomI_iff, nI_def, ssz_def, tN_def, iadd64, isub64, imul64, conv64, conv8, conv32, iadd32, imul32, irem_pos, iquo64, iquo32, imin_l, imin_r, imax_l, imax_r, Bool.not_eq_true', ← Bool.not_eq_true, Bool.not_eq_eq_eq_not, Bool.not_true, Bool.not_false, not_true_eq_false, not_false_eq_true, Bool.false_eq_true, List.length_append, List.length_cons, List.length_nil, List.length_take, List.length_drop, List.length_set, List.length_replicate, h] <;> omega) | omega)).trans ?_ | refine (bnd g1).trans ?_ | refine (bnd g2).trans ?_ | refine Eq.trans (Sum.elim_inl _ _ _) ?_ | refine Eq.trans (Sum.elim_inr _ _ _) ?_)
      exact hn
    · rw [if_neg hk] at h
      repeat (first | refine (if_pos (by first | with_reducible rfl | assumption | (simp (disch := omega) only [ltI_iff, eqI_iff, eqS_iff, eqB_iff, inI_iff, leI_iff, capI_iff, isZ_iff, eqN_iff, roomI_iff, nI_def, ssz_def, tN_def, iadd64, isub64, imul64, conv64, conv8, conv32, iadd32, imul32, irem_pos, iquo64, iquo32, imin_l, imin_r, imax_l, imax_r, Bool.not_eq_true', ← Bool.not_eq_true, Bool.not_eq_eq_eq_not, Bool.not_true, Bool.not_false, not_true_eq_false, not_false_eq_true, Bool.false_eq_true, List.length_append, List.length_cons, List.length_nil, List.length_take, List.length_drop, List.length_set, List.length_replicate, h] <;> omega) | omega)).trans ?_ | refine (if_neg (by first | with_reducible rfl | assumption | (simp (disch := omega) only [ltI_iff, eqI_iff, eqS_iff, eqB_iff, inI_iff, leI_iff, capI_iff, isZ_iff, eqN_iff, roomI_iff, nI_def, ssz_def, tN_def, iadd64, isub64, imul64, conv64, conv8, conv32, iadd32, imul32, irem_pos, iquo64, iquo32, imin_l, imin_r, imax_l, imax_r, Bool.not_eq_true', ← Bool.not_eq_true, Bool.not_eq_eq_eq_not, Bool.not_true, Bool.not_false, not_true_eq_false, not_false_eq_true, Bool.false_eq_true, List.length_append, List.length_cons, List.length_nil, List.length_take, List.length_drop, List.length_set, List.length_replicate, h] <;> omega) | omega)).trans ?_ | refine (bnd g1).trans ?_ | refine (bnd g2).trans ?_ | refine Eq.trans (Sum.elim_inl _ _ _) ?_ | refine Eq.trans (Sum.elim_inr _ _ _) ?_)
      exact hn
theorem plain_keys (x1 : List (Int × Int)) (x2 x3 : Int) (w1 : w_t22 x1) (w2 : w_t26 (x2, x3)) : P_law08_LedgerKeys x1 x2 x3 = some true := by
  have hl1 : x1.length ≤ 9223372036854775807 := w1.1
  have hx : w_t5 x2 ∧ w_t2 x3 := w2
  simp only [w_t5] at hx
  rw [P_law08_LedgerKeys_eq]
  by_cases h1 : 100 < x1.length
  · repeat (first | refine (if_pos (by first | with_reducible rfl | assumption | (simp (disch := omega) only [ltI_iff, eqI_iff, eqS_iff, eqB_iff, inI_iff, leI_iff, capI_iff, isZ_iff, eqN_iff, roomI_iff, nI_def, ssz_def, tN_def, iadd64, isub64, imul64, conv64, conv8, conv32, iadd32, imul32, irem_pos, iquo64, iquo32, imin_l, imin_r, imax_l, imax_r, Bool.not_eq_true', ← Bool.not_eq_true, Bool.not_eq_eq_eq_not, Bool.not_true, Bool.not_false, not_true_eq_false, not_false_eq_true, Bool.false_eq_true, List.length_append, List.length_cons, List.length_nil, List.length_take, List.length_drop, List.length_set, List.length_replicate] <;> omega) | omega)).trans ?_ | refine (if_neg (by first | with_reducible rfl | assumption | (simp (disch := omega) only [ltI_iff, eqI_iff, eqS_iff, eqB_iff, inI_iff, leI_iff, capI_iff, isZ_iff, eqN_iff, roomI_iff, nI_def, ssz_def, tN_def, iadd64, isub64, imul64, conv64, conv8, conv32, iadd32, imul32, irem_pos, iquo64, iquo32, imin_l, imin_r, imax_l, imax_r, Bool.not_eq_true', ← Bool.not_eq_true, Bool.not_eq_eq_eq_not, Bool.not_true, Bool.not_false, not_true_eq_false, not_false_eq_true, Bool.false_eq_true, List.length_append, List.length_cons, List.length_nil, List.length_take, List.length_drop, List.length_set, List.length_replicate] <;> omega) | omega)).trans ?_ | refine (bnd alive_ok).trans ?_ | refine Eq.trans (Sum.elim_inl _ _ _) ?_ | refine Eq.trans (Sum.elim_inr _ _ _) ?_)
    rfl
  by_cases hr : Led x1
  rotate_left
  · repeat (first | refine (if_pos (by first | with_reducible rfl | assumption | (simp (disch := omega) only [ltI_iff, eqI_iff, eqS_iff, eqB_iff, inI_iff, leI_iff, capI_iff, isZ_iff, eqN_iff, roomI_iff, nI_def, ssz_def, tN_def, iadd64, isub64, imul64, conv64, conv8, conv32, iadd32, imul32, irem_pos, iquo64, iquo32, imin_l, imin_r, imax_l, imax_r, Bool.not_eq_true', ← Bool.not_eq_true, Bool.not_eq_eq_eq_not, Bool.not_true, Bool.not_false, not_true_eq_false, not_false_eq_true, Bool.false_eq_true, List.length_append, List.length_cons, List.length_nil, List.length_take, List.length_drop, List.length_set, List.length_replicate] <;> omega) | omega)).trans ?_ | refine (if_neg (by first | with_reducible rfl | assumption | (simp (disch := omega) only [ltI_iff, eqI_iff, eqS_iff, eqB_iff, inI_iff, leI_iff, capI_iff, isZ_iff, eqN_iff, roomI_iff, nI_def, ssz_def, tN_def, iadd64, isub64, imul64, conv64, conv8, conv32, iadd32, imul32, irem_pos, iquo64, iquo32, imin_l, imin_r, imax_l, imax_r, Bool.not_eq_true', ← Bool.not_eq_true, Bool.not_eq_eq_eq_not, Bool.not_true, Bool.not_false, not_true_eq_false, not_false_eq_true, Bool.false_eq_true, List.length_append, List.length_cons, List.length_nil, List.length_take, List.length_drop, List.length_set, List.length_replicate] <;> omega) | omega)).trans ?_ | refine (bnd alive_ok).trans ?_ | refine (bnd (ref08_right_f (wf_l w1) (by omega) hr)).trans ?_ | refine Eq.trans (Sum.elim_inl _ _ _) ?_ | refine Eq.trans (Sum.elim_inr _ _ _) ?_)
    rfl
  by_cases hk : x2 < 64
  · have hq := keys_k0 (k := x2) (y := x3) (e := 0) hr (ofL_led (x1 ++ [(x2, x3)])) (fun j hj => by
      by_cases hj2 : j < 64
      · rw [ofL_sum _ _ hj hj2]
        unfold sumK
        rw [tot_app, tot_cons, tot_nil]
        by_cases h : x2 = j
        · rw [if_pos h, if_pos h.symm, Int.add_zero]
          exact (w64_addl _ _).symm
        · rw [if_neg h, if_neg fun hh => h hh.symm]
          congr 1; omega
      · rw [sumK_out (ofL_led _) (.inr (by omega)), if_neg (by omega), sumK_out hr (.inr (by omega))]) _ 0 0 rfl (by omega) rfl
    repeat (first | refine (if_pos (by first | with_reducible rfl | assumption | (simp (disch := omega) only [ltI_iff, eqI_iff, eqS_iff, eqB_iff, inI_iff, leI_iff, capI_iff, isZ_iff, eqN_iff, roomI_iff, nI_def, ssz_def, tN_def, iadd64, isub64, imul64, conv64, conv8, conv32, iadd32, imul32, irem_pos, iquo64, iquo32, imin_l, imin_r, imax_l, imax_r, Bool.not_eq_true', ← Bool.not_eq_true, Bool.not_eq_eq_eq_not, Bool.not_true, Bool.not_false, not_true_eq_false, not_false_eq_true, Bool.false_eq_true, List.length_append, List.length_cons, List.length_nil, List.length_take, List.length_drop, List.length_set, List.length_replicate] <;> omega) | omega)).trans ?_ | refine (if_neg (by first | with_reducible rfl | assumption | (simp (disch := omega) only [ltI_iff, eqI_iff, eqS_iff, eqB_iff, inI_iff, leI_iff, capI_iff, isZ_iff, eqN_iff, roomI_iff, nI_def, ssz_def, tN_def, iadd64, isub64, imul64, conv64, conv8, conv32, iadd32, imul32, irem_pos, iquo64, iquo32, imin_l, imin_r, imax_l, imax_r, Bool.not_eq_true', ← Bool.not_eq_true, Bool.not_eq_eq_eq_not, Bool.not_true, Bool.not_false, not_true_eq_false, not_false_eq_true, Bool.false_eq_true, List.length_append, List.length_cons, List.length_nil, List.length_take, List.length_drop, List.length_set, List.length_replicate] <;> omega) | omega)).trans ?_ | refine (bnd alive_ok).trans ?_ | refine (bnd (ref08_right_t hr)).trans ?_ | refine (bnd (add_t hr ⟨hx.1.1, hk⟩ hx.2)).trans ?_ | refine (bnd hq).trans ?_ | refine Eq.trans (Sum.elim_inl _ _ _) ?_ | refine Eq.trans (Sum.elim_inr _ _ _) ?_)
    rfl
  · repeat (first | refine (if_pos (by first | with_reducible rfl | assumption | (simp (disch := omega) only [ltI_iff, eqI_iff, eqS_iff, eqB_iff, inI_iff, leI_iff, capI_iff, isZ_iff, eqN_iff, roomI_iff, nI_def, ssz_def, tN_def, iadd64, isub64, imul64, conv64, conv8, conv32, iadd32, imul32, irem_pos, iquo64, iquo32, imin_l, imin_r, imax_l, imax_r, Bool.not_eq_true', ← Bool.not_eq_true, Bool.not_eq_eq_eq_not, Bool.not_true, Bool.not_false, not_true_eq_false, not_false_eq_true, Bool.false_eq_true, List.length_append, List.length_cons, List.length_nil, List.length_take, List.length_drop, List.length_set, List.length_replicate] <;> omega) | omega)).trans ?_ | refine (if_neg (by first | with_reducible rfl | assumption | (simp (disch := omega) only [ltI_iff, eqI_iff, eqS_iff, eqB_iff, inI_iff, leI_iff, capI_iff, isZ_iff, eqN_iff, roomI_iff, nI_def, ssz_def, tN_def, iadd64, isub64, imul64, conv64, conv8, conv32, iadd32, imul32, irem_pos, iquo64, iquo32, imin_l, imin_r, imax_l, imax_r, Bool.not_eq_true', ← Bool.not_eq_true, Bool.not_eq_eq_eq_not, Bool.not_true, Bool.not_false, not_true_eq_false, not_false_eq_true, Bool.false_eq_true, List.length_append, List.length_cons, List.length_nil, List.length_take, List.length_drop, List.length_set, List.length_replicate] <;> omega) | omega)).trans ?_ | refine (bnd alive_ok).trans ?_ | refine (bnd (ref08_right_t hr)).trans ?_ | refine (bnd (add_f (wf_l w1) (by omega) (fun h => hk h.2))).trans ?_ | refine (bnd (lsame_ok (x := x1) (by omega))).trans ?_ | refine Eq.trans (Sum.elim_inl _ _ _) ?_ | refine Eq.trans (Sum.elim_inr _ _ _) ?_)
    rfl

theorem zero_l0 {a : List (Int × Int)} {e : Int} {y : List (Int × Int) × Int} (ha : Led a) : ∀ (d i : Nat) (v : Int), a.length - i = d → i ≤ a.length → v = (i : Int) → P_law08_LedgerZero_l0 (a, e) y v = some (.inl ()) := by
  have hl := ha.len
  intro d
  induction d with
  | zero =>
    intro i v hd hi hv
    rw [P_law08_LedgerZero_l0_eq]
    repeat (first | refine (if_pos (by first | with_reducible rfl | assumption | (simp (disch := omega) only [ltI_iff, eqI_iff, eqS_iff, eqB_iff, inI_iff, leI_iff, capI_iff, isZ_iff, eqN_iff, roomI_iff, nI_def, ssz_def, tN_def, iadd64, isub64, imul64, conv64, conv8, conv32, iadd32, imul32, irem_pos, iquo64, iquo32, imin_l, imin_r, imax_l, imax_r, Bool.not_eq_true', ← Bool.not_eq_true, Bool.not_eq_eq_eq_not, Bool.not_true, Bool.not_false, not_true_eq_false, not_false_eq_true, Bool.false_eq_true, List.length_append, List.length_cons, List.length_nil, List.length_take, List.length_drop, List.length_set, List.length_replicate] <;> omega) | omega)).trans ?_ | refine (if_neg (by first | with_reducible rfl | assumption | (simp (disch := omega) only [ltI_iff, eqI_iff, eqS_iff, eqB_iff, inI_iff, leI_iff, capI_iff, isZ_iff, eqN_iff, roomI_iff, nI_def, ssz_def, tN_def, iadd64, isub64, imul64, conv64, conv8, conv32, iadd32, imul32, irem_pos, iquo64, iquo32, imin_l, imin_r, imax_l, imax_r, Bool.not_eq_true', ← Bool.not_eq_true, Bool.not_eq_eq_eq_not, Bool.not_true, Bool.not_false, not_true_eq_false, not_false_eq_true, Bool.false_eq_true, List.length_append, List.length_cons, List.length_nil, List.length_take, List.length_drop, List.length_set, List.length_replicate] <;> omega) | omega)).trans ?_ | refine Eq.trans (Sum.elim_inl _ _ _) ?_ | refine Eq.trans (Sum.elim_inr _ _ _) ?_)
    rfl
  | succ d ih =>
    intro i v hd hi hv
    have hlt : i < a.length := by omega
    have h0 := (ha.2 a[i] (List.getElem_mem hlt)).2.2.1
    rw [P_law08_LedgerZero_l0_eq]
    repeat (first | refine (if_pos (by first | with_reducible rfl | assumption | (simp (disch := omega) only [ltI_iff, eqI_iff, eqS_iff, eqB_iff, inI_iff, leI_iff, capI_iff, isZ_iff, eqN_iff, roomI_iff, nI_def, ssz_def, tN_def, iadd64, isub64, imul64, conv64, conv8, conv32, iadd32, imul32, irem_pos, iquo64, iquo32, imin_l, imin_r, imax_l, imax_r, Bool.not_eq_true', ← Bool.not_eq_true, Bool.not_eq_eq_eq_not, Bool.not_true, Bool.not_false, not_true_eq_false, not_false_eq_true, Bool.false_eq_true, List.length_append, List.length_cons, List.length_nil, List.length_take, List.length_drop, List.length_set, List.length_replicate] <;> omega) | omega)).trans ?_ | refine (if_neg (by first | with_reducible rfl | assumption | (simp (disch := omega) only [ltI_iff, eqI_iff, eqS_iff, eqB_iff, inI_iff, leI_iff, capI_iff, isZ_iff, eqN_iff, roomI_iff, nI_def, ssz_def, tN_def, iadd64, isub64, imul64, conv64, conv8, conv32, iadd32, imul32, irem_pos, iquo64, iquo32, imin_l, imin_r, imax_l, imax_r, Bool.not_eq_true', ← Bool.not_eq_true, Bool.not_eq_eq_eq_not, Bool.not_true, Bool.not_false, not_true_eq_false, not_false_eq_true, Bool.false_eq_true, List.length_append, List.length_cons, List.length_nil, List.length_take, List.length_drop, List.length_set, List.length_replicate] <;> omega) | omega)).trans ?_ | refine (bnd (geti hv hlt)).trans ?_ | refine Eq.trans (Sum.elim_inl _ _ _) ?_ | refine Eq.trans (Sum.elim_inr _ _ _) ?_)
    exact ih (i + 1) _ (by omega) (by omega) (by first | with_reducible rfl | assumption | (simp (disch := omega) only [ltI_iff, eqI_iff, eqS_iff, eqB_iff, inI_iff, leI_iff, capI_iff, isZ_iff, eqN_iff, roomI_iff, nI_def, ssz_def, tN_def, iadd64, isub64, imul64, conv64, conv8, conv32, iadd32, imul32, irem_pos, iquo64, iquo32, imin_l, imin_r, imax_l, imax_r, Bool.not_eq_true', ← Bool.not_eq_true, Bool.not_eq_eq_eq_not, Bool.not_true, Bool.not_false, not_true_eq_false, not_false_eq_true, Bool.false_eq_true, List.length_append, List.length_cons, List.length_nil, List.length_take, List.length_drop, List.length_set, List.length_replicate] <;> omega) | omega)
theorem plain_zero (x1 x2 : List (Int × Int)) (x3 : Int) (w1 : w_t22 x1) (w2 : w_t22 x2) (w3 : w_t5 x3) : P_law08_LedgerZero x1 x2 x3 = some true := by
  have hl1 : x1.length ≤ 9223372036854775807 := w1.1
  have hl2 : x2.length ≤ 9223372036854775807 := w2.1
  simp only [w_t5] at w3
  rw [P_law08_LedgerZero_eq]
  by_cases h1 : 100 < x1.length
  · repeat (first | refine (if_pos (by first | with_reducible rfl | assumption | (simp (disch := omega) only [ltI_iff, eqI_iff, eqS_iff, eqB_iff, inI_iff, leI_iff, capI_iff, isZ_iff, eqN_iff, roomI_iff, nI_def, ssz_def, tN_def, iadd64, isub64, imul64, conv64, conv8, conv32, iadd32, imul32, irem_pos, iquo64, iquo32, imin_l, imin_r, imax_l, imax_r, Bool.not_eq_true', ← Bool.not_eq_true, Bool.not_eq_eq_eq_not, Bool.not_true, Bool.not_false, not_true_eq_false, not_false_eq_true, Bool.false_eq_true, List.length_append, List.length_cons, List.length_nil, List.length_take, List.length_drop, List.length_set, List.length_replicate] <;> omega) | omega)).trans ?_ | refine (if_neg (by first | with_reducible rfl | assumption | (simp (disch := omega) only [ltI_iff, eqI_iff, eqS_iff, eqB_iff, inI_iff, leI_iff, capI_iff, isZ_iff, eqN_iff, roomI_iff, nI_def, ssz_def, tN_def, iadd64, isub64, imul64, conv64, conv8, conv32, iadd32, imul32, irem_pos, iquo64, iquo32, imin_l, imin_r, imax_l, imax_r, Bool.not_eq_true', ← Bool.not_eq_true, Bool.not_eq_eq_eq_not, Bool.not_true, Bool.not_false, not_true_eq_false, not_false_eq_true, Bool.false_eq_true, List.length_append, List.length_cons, List.length_nil, List.length_take, List.length_drop, List.length_set, List.length_replicate] <;> omega) | omega)).trans ?_ | refine (bnd alive_ok).trans ?_ | refine Eq.trans (Sum.elim_inl _ _ _) ?_ | refine Eq.trans (Sum.elim_inr _ _ _) ?_)
    rfl
  by_cases h2 : 100 < x2.length
  · repeat (first | refine (if_pos (by first | with_reducible rfl | assumption | (simp (disch := omega) only [ltI_iff, eqI_iff, eqS_iff, eqB_iff, inI_iff, leI_iff, capI_iff, isZ_iff, eqN_iff, roomI_iff, nI_def, ssz_def, tN_def, iadd64, isub64, imul64, conv64, conv8, conv32, iadd32, imul32, irem_pos, iquo64, iquo32, imin_l, imin_r, imax_l, imax_r, Bool.not_eq_true', ← Bool.not_eq_true, Bool.not_eq_eq_eq_not, Bool.not_true, Bool.not_false, not_true_eq_false, not_false_eq_true, Bool.false_eq_true, List.length_append, List.length_cons, List.length_nil, List.length_take, List.length_drop, List.length_set, List.length_replicate] <;> omega) | omega)).trans ?_ | refine (if_neg (by first | with_reducible rfl | assumption | (simp (disch := omega) only [ltI_iff, eqI_iff, eqS_iff, eqB_iff, inI_iff, leI_iff, capI_iff, isZ_iff, eqN_iff, roomI_iff, nI_def, ssz_def, tN_def, iadd64, isub64, imul64, conv64, conv8, conv32, iadd32, imul32, irem_pos, iquo64, iquo32, imin_l, imin_r, imax_l, imax_r, Bool.not_eq_true', ← Bool.not_eq_true, Bool.not_eq_eq_eq_not, Bool.not_true, Bool.not_false, not_true_eq_false, not_false_eq_true, Bool.false_eq_true, List.length_append, List.length_cons, List.length_nil, List.length_take, List.length_drop, List.length_set, List.length_replicate] <;> omega) | omega)).trans ?_ | refine (bnd alive_ok).trans ?_ | refine Eq.trans (Sum.elim_inl _ _ _) ?_ | refine Eq.trans (Sum.elim_inr _ _ _) ?_)
    rfl
  by_cases hr : Led x1
  rotate_left
  · repeat (first | refine (if_pos (by first | with_reducible rfl | assumption | (simp (disch := omega) only [ltI_iff, eqI_iff, eqS_iff, eqB_iff, inI_iff, leI_iff, capI_iff, isZ_iff, eqN_iff, roomI_iff, nI_def, ssz_def, tN_def, iadd64, isub64, imul64, conv64, conv8, conv32, iadd32, imul32, irem_pos, iquo64, iquo32, imin_l, imin_r, imax_l, imax_r, Bool.not_eq_true', ← Bool.not_eq_true, Bool.not_eq_eq_eq_not, Bool.not_true, Bool.not_false, not_true_eq_false, not_false_eq_true, Bool.false_eq_true, List.length_append, List.length_cons, List.length_nil, List.length_take, List.length_drop, List.length_set, List.length_replicate] <;> omega) | omega)).trans ?_ | refine (if_neg (by first | with_reducible rfl | assumption | (simp (disch := omega) only [ltI_iff, eqI_iff, eqS_iff, eqB_iff, inI_iff, leI_iff, capI_iff, isZ_iff, eqN_iff, roomI_iff, nI_def, ssz_def, tN_def, iadd64, isub64, imul64, conv64, conv8, conv32, iadd32, imul32, irem_pos, iquo64, iquo32, imin_l, imin_r, imax_l, imax_r, Bool.not_eq_true', ← Bool.not_eq_true, Bool.not_eq_eq_eq_not, Bool.not_true, Bool.not_false, not_true_eq_false, not_false_eq_true, Bool.false_eq_true, List.length_append, List.length_cons, List.length_nil, List.length_take, List.length_drop, List.length_set, List.length_replicate] <;> omega) | omega)).trans ?_ | refine (bnd alive_ok).trans ?_ | refine (bnd (ref08_right_f (wf_l w1) (by omega) hr)).trans ?_ | refine Eq.trans (Sum.elim_inl _ _ _) ?_ | refine Eq.trans (Sum.elim_inr _ _ _) ?_)
    rfl
  by_cases hk : keysOk x2
  rotate_left
  · repeat (first | refine (if_pos (by first | with_reducible rfl | assumption | (simp (disch := omega) only [ltI_iff, eqI_iff, eqS_iff, eqB_iff, inI_iff, leI_iff, capI_iff, isZ_iff, eqN_iff, roomI_iff, nI_def, ssz_def, tN_def, iadd64, isub64, imul64, conv64, conv8, conv32, iadd32, imul32, irem_pos, iquo64, iquo32, imin_l, imin_r, imax_l, imax_r, Bool.not_eq_true', ← Bool.not_eq_true, Bool.not_eq_eq_eq_not, Bool.not_true, Bool.not_false, not_true_eq_false, not_false_eq_true, Bool.false_eq_true, List.length_append, List.length_cons, List.length_nil, List.length_take, List.length_drop, List.length_set, List.length_replicate] <;> omega) | omega)).trans ?_ | refine (if_neg (by first | with_reducible rfl | assumption | (simp (disch := omega) only [ltI_iff, eqI_iff, eqS_iff, eqB_iff, inI_iff, leI_iff, capI_iff, isZ_iff, eqN_iff, roomI_iff, nI_def, ssz_def, tN_def, iadd64, isub64, imul64, conv64, conv8, conv32, iadd32, imul32, irem_pos, iquo64, iquo32, imin_l, imin_r, imax_l, imax_r, Bool.not_eq_true', ← Bool.not_eq_true, Bool.not_eq_eq_eq_not, Bool.not_true, Bool.not_false, not_true_eq_false, not_false_eq_true, Bool.false_eq_true, List.length_append, List.length_cons, List.length_nil, List.length_take, List.length_drop, List.length_set, List.length_replicate] <;> omega) | omega)).trans ?_ | refine (bnd alive_ok).trans ?_ | refine (bnd (ref08_right_t hr)).trans ?_ | refine (bnd ((keys_ok (l := x2) (by omega)).2 hk)).trans ?_ | refine Eq.trans (Sum.elim_inl _ _ _) ?_ | refine Eq.trans (Sum.elim_inr _ _ _) ?_)
    rfl
  have ha := ofL_led (x1 ++ x2)
  have hm : irem .u8 x3 64 = x3 % 64 := irem_pos (by omega)
  have hy : ofL (ofL (x1 ++ x2) ++ [(irem .u8 x3 64, 0)]) = ofL (x1 ++ x2) := by
    have : ofL (ofL (x1 ++ x2) ++ [(irem .u8 x3 64, 0)]) = ofL (ofL (x1 ++ x2)) := ofL_congr fun k _ _ => by
      unfold sumK
      rw [tot_app, tot_cons, tot_nil]
      congr 1
      split <;> omega
    rw [this, ha.of]
  have hadd := add_t ha (k := irem .u8 x3 64) (b := 0) (by omega) (by decide)
  rw [hy] at hadd
  have hlen := ofL_len (x1 ++ x2)
  repeat (first | refine (if_pos (by first | with_reducible rfl | assumption | (simp (disch := omega) only [ltI_iff, eqI_iff, eqS_iff, eqB_iff, inI_iff, leI_iff, capI_iff, isZ_iff, eqN_iff, roomI_iff, nI_def, ssz_def, tN_def, iadd64, isub64, imul64, conv64, conv8, conv32, iadd32, imul32, irem_pos, iquo64, iquo32, imin_l, imin_r, imax_l, imax_r, Bool.not_eq_true', ← Bool.not_eq_true, Bool.not_eq_eq_eq_not, Bool.not_true, Bool.not_false, not_true_eq_false, not_false_eq_true, Bool.false_eq_true, List.length_append, List.length_cons, List.length_nil, List.length_take, List.length_drop, List.length_set, List.length_replicate] <;> omega) | omega)).trans ?_ | refine (if_neg (by first | with_reducible rfl | assumption | (simp (disch := omega) only [ltI_iff, eqI_iff, eqS_iff, eqB_iff, inI_iff, leI_iff, capI_iff, isZ_iff, eqN_iff, roomI_iff, nI_def, ssz_def, tN_def, iadd64, isub64, imul64, conv64, conv8, conv32, iadd32, imul32, irem_pos, iquo64, iquo32, imin_l, imin_r, imax_l, imax_r, Bool.not_eq_true', ← Bool.not_eq_true, Bool.not_eq_eq_eq_not, Bool.not_true, Bool.not_false, not_true_eq_false, not_false_eq_true, Bool.false_eq_true, List.length_append, List.length_cons, List.length_nil, List.length_take, List.length_drop, List.length_set, List.length_replicate] <;> omega) | omega)).trans ?_ | refine (bnd alive_ok).trans ?_ | refine (bnd (ref08_right_t hr)).trans ?_ | refine (bnd ((keys_ok (l := x2) (by omega)).1 hk)).trans ?_ | refine (bnd (put_t hr (key_l w2 hk) (by omega))).trans ?_ | refine (bnd hadd).trans ?_ | refine (bnd (zero_l0 ha _ 0 0 rfl (by omega) rfl)).trans ?_ | refine (bnd (lsame_ok (x := ofL (x1 ++ x2)) (by omega))).trans ?_ | refine Eq.trans (Sum.elim_inl _ _ _) ?_ | refine Eq.trans (Sum.elim_inr _ _ _) ?_)
  rfl

theorem plain_gets (x1 x2 : List (Int × Int)) (x3 : Int) (w1 : w_t22 x1) (w2 : w_t22 x2) (w3 : w_t5 x3) : P_law08_LedgerGets x1 x2 x3 = some true := by
  have hl1 : x1.length ≤ 9223372036854775807 := w1.1
  have hl2 : x2.length ≤ 9223372036854775807 := w2.1
  simp only [w_t5] at w3
  rw [P_law08_LedgerGets_eq]
  by_cases h1 : 100 < x1.length
  · repeat (first | refine (if_pos (by first | with_reducible rfl | assumption | (simp (disch := omega) only [ltI_iff, eqI_iff, eqS_iff, eqB_iff, inI_iff, leI_iff, capI_iff, isZ_iff, eqN_iff, roomI_iff, nI_def, ssz_def, tN_def, iadd64, isub64, imul64, conv64, conv8, conv32, iadd32, imul32, irem_pos, iquo64, iquo32, imin_l, imin_r, imax_l, imax_r, Bool.not_eq_true', ← Bool.not_eq_true, Bool.not_eq_eq_eq_not, Bool.not_true, Bool.not_false, not_true_eq_false, not_false_eq_true, Bool.false_eq_true, List.length_append, List.length_cons, List.length_nil, List.length_take, List.length_drop, List.length_set, List.length_replicate] <;> omega) | omega)).trans ?_ | refine (if_neg (by first | with_reducible rfl | assumption | (simp (disch := omega) only [ltI_iff, eqI_iff, eqS_iff, eqB_iff, inI_iff, leI_iff, capI_iff, isZ_iff, eqN_iff, roomI_iff, nI_def, ssz_def, tN_def, iadd64, isub64, imul64, conv64, conv8, conv32, iadd32, imul32, irem_pos, iquo64, iquo32, imin_l, imin_r, imax_l, imax_r, Bool.not_eq_true', ← Bool.not_eq_true, Bool.not_eq_eq_eq_not, Bool.not_true, Bool.not_false, not_true_eq_false, not_false_eq_true, Bool.false_eq_true, List.length_append, List.length_cons, List.length_nil, List.length_take, List.length_drop, List.length_set, List.length_replicate] <;> omega) | omega)).trans ?_ | refine (bnd alive_ok).trans ?_ | refine Eq.trans (Sum.elim_inl _ _ _) ?_ | refine Eq.trans (Sum.elim_inr _ _ _) ?_)
    rfl
  by_cases h2 : 100 < x2.length
  · repeat (first | refine (if_pos (by first | with_reducible rfl | assumption | (simp (disch := omega) only [ltI_iff, eqI_iff, eqS_iff, eqB_iff, inI_iff, leI_iff, capI_iff, isZ_iff, eqN_iff, roomI_iff, nI_def, ssz_def, tN_def, iadd64, isub64, imul64, conv64, conv8, conv32, iadd32, imul32, irem_pos, iquo64, iquo32, imin_l, imin_r, imax_l, imax_r, Bool.not_eq_true', ← Bool.not_eq_true, Bool.not_eq_eq_eq_not, Bool.not_true, Bool.not_false, not_true_eq_false, not_false_eq_true, Bool.false_eq_true, List.length_append, List.length_cons, List.length_nil, List.length_take, List.length_drop, List.length_set, List.length_replicate] <;> omega) | omega)).trans ?_ | refine (if_neg (by first | with_reducible rfl | assumption | (simp (disch := omega) only [ltI_iff, eqI_iff, eqS_iff, eqB_iff, inI_iff, leI_iff, capI_iff, isZ_iff, eqN_iff, roomI_iff, nI_def, ssz_def, tN_def, iadd64, isub64, imul64, conv64, conv8, conv32, iadd32, imul32, irem_pos, iquo64, iquo32, imin_l, imin_r, imax_l, imax_r, Bool.not_eq_true', ← Bool.not_eq_true, Bool.not_eq_eq_eq_not, Bool.not_true, Bool.not_false, not_true_eq_false, not_false_eq_true, Bool.false_eq_true, List.length_append, List.length_cons, List.length_nil, List.length_take, List.length_drop, List.length_set, List.length_replicate] <;> omega) | omega)).trans ?_ | refine (bnd alive_ok).trans ?_ | refine Eq.trans (Sum.elim_inl _ _ _) ?_ | refine Eq.trans (Sum.elim_inr _ _ _) ?_)
    rfl
  by_cases hr : Led x1
  rotate_left
  · repeat (first | refine (if_pos (by first | with_reducible rfl | assumption | (simp (disch := omega) only [ltI_iff, eqI_iff, eqS_iff, eqB_iff, inI_iff, leI_iff, capI_iff, isZ_iff, eqN_iff, roomI_iff, nI_def, ssz_def, tN_def, iadd64, isub64, imul64, conv64, conv8, conv32, iadd32, imul32, irem_pos, iquo64, iquo32, imin_l, imin_r, imax_l, imax_r, Bool.not_eq_true', ← Bool.not_eq_true, Bool.not_eq_eq_eq_not, Bool.not_true, Bool.not_false, not_true_eq_false, not_false_eq_true, Bool.false_eq_true, List.length_append, List.length_cons, List.length_nil, List.length_take, List.length_drop, List.length_set, List.length_replicate] <;> omega) | omega)).trans ?_ | refine (if_neg (by first | with_reducible rfl | assumption | (simp (disch := omega) only [ltI_iff, eqI_iff, eqS_iff, eqB_iff, inI_iff, leI_iff, capI_iff, isZ_iff, eqN_iff, roomI_iff, nI_def, ssz_def, tN_def, iadd64, isub64, imul64, conv64, conv8, conv32, iadd32, imul32, irem_pos, iquo64, iquo32, imin_l, imin_r, imax_l, imax_r, Bool.not_eq_true', ← Bool.not_eq_true, Bool.not_eq_eq_eq_not, Bool.not_true, Bool.not_false, not_true_eq_false, not_false_eq_true, Bool.false_eq_true, List.length_append, List.length_cons, List.length_nil, List.length_take, List.length_drop, List.length_set, List.length_replicate] <;> omega) | omega)).trans ?_ | refine (bnd alive_ok).trans ?_ | refine (bnd (ref08_right_f (wf_l w1) (by omega) hr)).trans ?_ | refine Eq.trans (Sum.elim_inl _ _ _) ?_ | refine Eq.trans (Sum.elim_inr _ _ _) ?_)
    rfl
  by_cases hr2 : Led x2
  rotate_left
  · repeat (first | refine (if_pos (by first | with_reducible rfl | assumption | (simp (disch := omega) only [ltI_iff, eqI_iff, eqS_iff, eqB_iff, inI_iff, leI_iff, capI_iff, isZ_iff, eqN_iff, roomI_iff, nI_def, ssz_def, tN_def, iadd64, isub64, imul64, conv64, conv8, conv32, iadd32, imul32, irem_pos, iquo64, iquo32, imin_l, imin_r, imax_l, imax_r, Bool.not_eq_true', ← Bool.not_eq_true, Bool.not_eq_eq_eq_not, Bool.not_true, Bool.not_false, not_true_eq_false, not_false_eq_true, Bool.false_eq_true, List.length_append, List.length_cons, List.length_nil, List.length_take, List.length_drop, List.length_set, List.length_replicate] <;> omega) | omega)).trans ?_ | refine (if_neg (by first | with_reducible rfl | assumption | (simp (disch := omega) only [ltI_iff, eqI_iff, eqS_iff, eqB_iff, inI_iff, leI_iff, capI_iff, isZ_iff, eqN_iff, roomI_iff, nI_def, ssz_def, tN_def, iadd64, isub64, imul64, conv64, conv8, conv32, iadd32, imul32, irem_pos, iquo64, iquo32, imin_l, imin_r, imax_l, imax_r, Bool.not_eq_true', ← Bool.not_eq_true, Bool.not_eq_eq_eq_not, Bool.not_true, Bool.not_false, not_true_eq_false, not_false_eq_true, Bool.false_eq_true, List.length_append, List.length_cons, List.length_nil, List.length_take, List.length_drop, List.length_set, List.length_replicate] <;> omega) | omega)).trans ?_ | refine (bnd alive_ok).trans ?_ | refine (bnd (ref08_right_t hr)).trans ?_ | refine (bnd (ref08_right_f (wf_l w2) (by omega) hr2)).trans ?_ | refine Eq.trans (Sum.elim_inl _ _ _) ?_ | refine Eq.trans (Sum.elim_inr _ _ _) ?_)
    rfl
  have hs := ofL_led (x1 ++ x2)
  have hn := neg_led hr
  have hsl := hs.len
  have hnl := hn.len
  have g1 := get_ok (l := ofL (x1 ++ x2)) (by omega) x3
  have g2 := get_ok (l := x1) (by omega) x3
  have g3 := get_ok (l := x2) (by omega) x3
  have g4 := get_ok (l := negL x1) (by omega) x3
  rw [getK_led hs] at g1
  rw [getK_led hr] at g2
  rw [getK_led hr2] at g3
  rw [getK_led hn] at g4
  have e1 : eqI (sumK (ofL (x1 ++ x2)) x3) (iadd .i64 (sumK x1 x3) (sumK x2 x3)) = true := by
    rw [eqI_iff]
    have : sumK (x1 ++ x2) x3 = iadd .i64 (sumK x1 x3) (sumK x2 x3) := by
      unfold sumK iadd
      rw [tot_app]
      exact (w64_congr (by have := w64_mod (tot x1 x3); have := w64_mod (tot x2 x3); simp only [W64]; omega)).symm
    by_cases hk : x3 < 64
    · rw [ofL_sum _ _ (by omega) hk]; exact this
    · rw [sumK_out hs (.inr (by omega)), sumK_out hr (.inr (by omega)), sumK_out hr2 (.inr (by omega))]; rfl
  have e2 : eqI (sumK (negL x1) x3) (ineg .i64 (sumK x1 x3)) = true := by
    rw [eqI_iff]
    unfold sumK ineg
    exact w64_congr (by have := w64_mod (tot x1 x3); have := tot_neg x1 x3; simp only [W64]; omega)
  repeat (first | refine (if_pos (by first | with_reducible rfl | assumption | (simp (disch := omega) only [ltI_iff, eqI_iff, eqS_iff, eqB_iff, inI_iff, leI_iff, capI_iff, isZ_iff, eqN_iff, roomI_iff, nI_def, ssz_def, tN_def, iadd64, isub64, imul64, conv64, conv8, conv32, iadd32, imul32, irem_pos, iquo64, iquo32, imin_l, imin_r, imax_l, imax_r, Bool.not_eq_true', ← Bool.not_eq_true, Bool.not_eq_eq_eq_not, Bool.not_true, Bool.not_false, not_true_eq_false, not_false_eq_true, Bool.false_eq_true, List.length_append, List.length_cons, List.length_nil, List.length_take, List.length_drop, List.length_set, List.length_replicate, e1, e2] <;> omega) | omega)).trans ?_ | refine (if_neg (by first | with_reducible rfl | assumption | (simp (disch := omega) only [ltI_iff, eqI_iff, eqS_iff, eqB_iff, inI_iff, leI_iff, capI_iff, isZ_iff, eqN_iff, roomI_iff, nI_def, ssz_def, tN_def, iadd64, isub64, imul64, conv64, conv8, conv32, iadd32, imul32, irem_pos, iquo64, iquo32, imin_l, imin_r, imax_l, imax_r, Bool.not_eq_true', ← Bool.not_eq_true, Bool.not_eq_eq_eq_not, Bool.not_true, Bool.not_false, not_true_eq_false, not_false_eq_true, Bool.false_eq_true, List.length_append, List.length_cons, List.length_nil, List.length_take, List.length_drop, List.length_set, List.length_replicate, e1, e2] <;> omega) | omega)).trans ?_ | refine (bnd alive_ok).trans ?_ | refine (bnd (ref08_right_t hr)).trans ?_ | refine (bnd (ref08_right_t hr2)).trans ?_ | refine (bnd (lsum_t hr hr2).1).trans ?_ | refine (bnd (less_t hr).1).trans ?_ | refine (bnd g1).trans ?_ | refine (bnd g2).trans ?_ | refine (bnd g3).trans ?_ | refine (bnd g4).trans ?_ | refine (bnd (ledger_right_t hs)).trans ?_ | refine (bnd (ledger_right_t hn)).trans ?_ | refine Eq.trans (Sum.elim_inl _ _ _) ?_ | refine Eq.trans (Sum.elim_inr _ _ _) ?_)
  rfl

theorem plain_group (x1 x2 x3 : List (Int × Int)) (w1 : w_t22 x1) (w2 : w_t22 x2) (w3 : w_t22 x3) : P_law08_LedgerGroup x1 x2 x3 = some true := by
  have hl1 : x1.length ≤ 9223372036854775807 := w1.1
  have hl2 : x2.length ≤ 9223372036854775807 := w2.1
  have hl3 : x3.length ≤ 9223372036854775807 := w3.1
  rw [P_law08_LedgerGroup_eq]
  by_cases h1 : 100 < x1.length
  · repeat (first | refine (if_pos (by first | with_reducible rfl | assumption | (simp (disch := omega) only [ltI_iff, eqI_iff, eqS_iff, eqB_iff, inI_iff, leI_iff, capI_iff, isZ_iff, eqN_iff, roomI_iff, nI_def, ssz_def, tN_def, iadd64, isub64, imul64, conv64, conv8, conv32, iadd32, imul32, irem_pos, iquo64, iquo32, imin_l, imin_r, imax_l, imax_r, Bool.not_eq_true', ← Bool.not_eq_true, Bool.not_eq_eq_eq_not, Bool.not_true, Bool.not_false, not_true_eq_false, not_false_eq_true, Bool.false_eq_true, List.length_append, List.length_cons, List.length_nil, List.length_take, List.length_drop, List.length_set, List.length_replicate] <;> omega) | omega)).trans ?_ | refine (if_neg (by first | with_reducible rfl | assumption | (simp (disch := omega) only [ltI_iff, eqI_iff, eqS_iff, eqB_iff, inI_iff, leI_iff, capI_iff, isZ_iff, eqN_iff, roomI_iff, nI_def, ssz_def, tN_def, iadd64, isub64, imul64, conv64, conv8, conv32, iadd32, imul32, irem_pos, iquo64, iquo32, imin_l, imin_r, imax_l, imax_r, Bool.not_eq_true', ← Bool.not_eq_true, Bool.not_eq_eq_eq_not, Bool.not_true, Bool.not_false, not_true_eq_false, not_false_eq_true, Bool.false_eq_true, List.length_append, List.length_cons, List.length_nil, List.length_take, List.length_drop, List.length_set, List.length_replicate] <;> omega) | omega)).trans ?_ | refine (bnd alive_ok).trans ?_ | refine Eq.trans (Sum.elim_inl _ _ _) ?_ | refine Eq.trans (Sum.elim_inr _ _ _) ?_)
    rfl
  by_cases h2 : 100 < x2.length
  · repeat (first | refine (if_pos (by first | with_reducible rfl | assumption | (simp (disch := omega) only [ltI_iff, eqI_iff, eqS_iff, eqB_iff, inI_iff, leI_iff, capI_iff, isZ_iff, eqN_iff, roomI_iff, nI_def, ssz_def, tN_def, iadd64, isub64, imul64, conv64, conv8, conv32, iadd32, imul32, irem_pos, iquo64, iquo32, imin_l, imin_r, imax_l, imax_r, Bool.not_eq_true', ← Bool.not_eq_true, Bool.not_eq_eq_eq_not, Bool.not_true, Bool.not_false, not_true_eq_false, not_false_eq_true, Bool.false_eq_true, List.length_append, List.length_cons, List.length_nil, List.length_take, List.length_drop, List.length_set, List.length_replicate] <;> omega) | omega)).trans ?_ | refine (if_neg (by first | with_reducible rfl | assumption | (simp (disch := omega) only [ltI_iff, eqI_iff, eqS_iff, eqB_iff, inI_iff, leI_iff, capI_iff, isZ_iff, eqN_iff, roomI_iff, nI_def, ssz_def, tN_def, iadd64, isub64, imul64, conv64, conv8, conv32, iadd32, imul32, irem_pos, iquo64, iquo32, imin_l, imin_r, imax_l, imax_r, Bool.not_eq_true', ← Bool.not_eq_true, Bool.not_eq_eq_eq_not, Bool.not_true, Bool.not_false, not_true_eq_false, not_false_eq_true, Bool.false_eq_true, List.length_append, List.length_cons, List.length_nil, List.length_take, List.length_drop, List.length_set, List.length_replicate] <;> omega) | omega)).trans ?_ | refine (bnd alive_ok).trans ?_ | refine Eq.trans (Sum.elim_inl _ _ _) ?_ | refine Eq.trans (Sum.elim_inr _ _ _) ?_)
    rfl
  by_cases h3 : 100 < x3.length
  · repeat (first | refine (if_pos (by first | with_reducible rfl | assumption | (simp (disch := omega) only [ltI_iff, eqI_iff, eqS_iff, eqB_iff, inI_iff, leI_iff, capI_iff, isZ_iff, eqN_iff, roomI_iff, nI_def, ssz_def, tN_def, iadd64, isub64, imul64, conv64, conv8, conv32, iadd32, imul32, irem_pos, iquo64, iquo32, imin_l, imin_r, imax_l, imax_r, Bool.not_eq_true', ← Bool.not_eq_true, Bool.not_eq_eq_eq_not, Bool.not_true, Bool.not_false, not_true_eq_false, not_false_eq_true, Bool.false_eq_true, List.length_append, List.length_cons, List.length_nil, List.length_take, List.length_drop, List.length_set, List.length_replicate] <;> omega) | omega)).trans ?_ | refine (if_neg (by first | with_reducible rfl | assumption | (simp (disch := omega) only [ltI_iff, eqI_iff, eqS_iff, eqB_iff, inI_iff, leI_iff, capI_iff, isZ_iff, eqN_iff, roomI_iff, nI_def, ssz_def, tN_def, iadd64, isub64, imul64, conv64, conv8, conv32, iadd32, imul32, irem_pos, iquo64, iquo32, imin_l, imin_r, imax_l, imax_r, Bool.not_eq_true', ← Bool.not_eq_true, Bool.not_eq_eq_eq_not, Bool.not_true, Bool.not_false, not_true_eq_false, not_false_eq_true, Bool.false_eq_true, List.length_append, List.length_cons, List.length_nil, List.length_take, List.length_drop, List.length_set, List.length_replicate] <;> omega) | omega)).trans ?_ | refine (bnd alive_ok).trans ?_ | refine Eq.trans (Sum.elim_inl _ _ _) ?_ | refine Eq.trans (Sum.elim_inr _ _ _) ?_)
    rfl
  by_cases r1 : Led x1
  rotate_left
  · repeat (first | refine (if_pos (by first | with_reducible rfl | assumption | (simp (disch := omega) only [ltI_iff, eqI_iff, eqS_iff, eqB_iff, inI_iff, leI_iff, capI_iff, isZ_iff, eqN_iff, roomI_iff, nI_def, ssz_def, tN_def, iadd64, isub64, imul64, conv64, conv8, conv32, iadd32, imul32, irem_pos, iquo64, iquo32, imin_l, imin_r, imax_l, imax_r, Bool.not_eq_true', ← Bool.not_eq_true, Bool.not_eq_eq_eq_not, Bool.not_true, Bool.not_false, not_true_eq_false, not_false_eq_true, Bool.false_eq_true, List.length_append, List.length_cons, List.length_nil, List.length_take, List.length_drop, List.length_set, List.length_replicate] <;> omega) | omega)).trans ?_ | refine (if_neg (by first | with_reducible rfl | assumption | (simp (disch := omega) only [ltI_iff, eqI_iff, eqS_iff, eqB_iff, inI_iff, leI_iff, capI_iff, isZ_iff, eqN_iff, roomI_iff, nI_def, ssz_def, tN_def, iadd64, isub64, imul64, conv64, conv8, conv32, iadd32, imul32, irem_pos, iquo64, iquo32, imin_l, imin_r, imax_l, imax_r, Bool.not_eq_true', ← Bool.not_eq_true, Bool.not_eq_eq_eq_not, Bool.not_true, Bool.not_false, not_true_eq_false, not_false_eq_true, Bool.false_eq_true, List.length_append, List.length_cons, List.length_nil, List.length_take, List.length_drop, List.length_set, List.length_replicate] <;> omega) | omega)).trans ?_ | refine (bnd alive_ok).trans ?_ | refine (bnd (ref08_right_f (wf_l w1) (by omega) r1)).trans ?_ | refine Eq.trans (Sum.elim_inl _ _ _) ?_ | refine Eq.trans (Sum.elim_inr _ _ _) ?_)
    rfl
  by_cases r2 : Led x2
  rotate_left
  · repeat (first | refine (if_pos (by first | with_reducible rfl | assumption | (simp (disch := omega) only [ltI_iff, eqI_iff, eqS_iff, eqB_iff, inI_iff, leI_iff, capI_iff, isZ_iff, eqN_iff, roomI_iff, nI_def, ssz_def, tN_def, iadd64, isub64, imul64, conv64, conv8, conv32, iadd32, imul32, irem_pos, iquo64, iquo32, imin_l, imin_r, imax_l, imax_r, Bool.not_eq_true', ← Bool.not_eq_true, Bool.not_eq_eq_eq_not, Bool.not_true, Bool.not_false, not_true_eq_false, not_false_eq_true, Bool.false_eq_true, List.length_append, List.length_cons, List.length_nil, List.length_take, List.length_drop, List.length_set, List.length_replicate] <;> omega) | omega)).trans ?_ | refine (if_neg (by first | with_reducible rfl | assumption | (simp (disch := omega) only [ltI_iff, eqI_iff, eqS_iff, eqB_iff, inI_iff, leI_iff, capI_iff, isZ_iff, eqN_iff, roomI_iff, nI_def, ssz_def, tN_def, iadd64, isub64, imul64, conv64, conv8, conv32, iadd32, imul32, irem_pos, iquo64, iquo32, imin_l, imin_r, imax_l, imax_r, Bool.not_eq_true', ← Bool.not_eq_true, Bool.not_eq_eq_eq_not, Bool.not_true, Bool.not_false, not_true_eq_false, not_false_eq_true, Bool.false_eq_true, List.length_append, List.length_cons, List.length_nil, List.length_take, List.length_drop, List.length_set, List.length_replicate] <;> omega) | omega)).trans ?_ | refine (bnd alive_ok).trans ?_ | refine (bnd (ref08_right_t r1)).trans ?_ | refine (bnd (ref08_right_f (wf_l w2) (by omega) r2)).trans ?_ | refine Eq.trans (Sum.elim_inl _ _ _) ?_ | refine Eq.trans (Sum.elim_inr _ _ _) ?_)
    rfl
  by_cases r3 : Led x3
  rotate_left
  · repeat (first | refine (if_pos (by first | with_reducible rfl | assumption | (simp (disch := omega) only [ltI_iff, eqI_iff, eqS_iff, eqB_iff, inI_iff, leI_iff, capI_iff, isZ_iff, eqN_iff, roomI_iff, nI_def, ssz_def, tN_def, iadd64, isub64, imul64, conv64, conv8, conv32, iadd32, imul32, irem_pos, iquo64, iquo32, imin_l, imin_r, imax_l, imax_r, Bool.not_eq_true', ← Bool.not_eq_true, Bool.not_eq_eq_eq_not, Bool.not_true, Bool.not_false, not_true_eq_false, not_false_eq_true, Bool.false_eq_true, List.length_append, List.length_cons, List.length_nil, List.length_take, List.length_drop, List.length_set, List.length_replicate] <;> omega) | omega)).trans ?_ | refine (if_neg (by first | with_reducible rfl | assumption | (simp (disch := omega) only [ltI_iff, eqI_iff, eqS_iff, eqB_iff, inI_iff, leI_iff, capI_iff, isZ_iff, eqN_iff, roomI_iff, nI_def, ssz_def, tN_def, iadd64, isub64, imul64, conv64, conv8, conv32, iadd32, imul32, irem_pos, iquo64, iquo32, imin_l, imin_r, imax_l, imax_r, Bool.not_eq_true', ← Bool.not_eq_true, Bool.not_eq_eq_eq_not, Bool.not_true, Bool.not_false, not_true_eq_false, not_false_eq_true, Bool.false_eq_true, List.length_append, List.length_cons, List.length_nil, List.length_take, List.length_drop, List.length_set, List.length_replicate] <;> omega) | omega)).trans ?_ | refine (bnd alive_ok).trans ?_ | refine (bnd (ref08_right_t r1)).trans ?_ | refine (bnd (ref08_right_t r2)).trans ?_ | refine (bnd (ref08_right_f (wf_l w3) (by omega) r3)).trans ?_ | refine Eq.trans (Sum.elim_inl _ _ _) ?_ | refine Eq.trans (Sum.elim_inr _ _ _) ?_)
    rfl
  have a1 := ofL_led (x1 ++ x2)
  have a2 := ofL_led (x2 ++ x3)
  have e1 : ofL (x2 ++ x1) = ofL (x1 ++ x2) := ofL_congr fun k _ _ => by
    unfold sumK; rw [tot_app, tot_app]; congr 1; omega
  have e2 : ofL (x1 ++ ofL (x2 ++ x3)) = ofL (ofL (x1 ++ x2) ++ x3) := ofL_congr fun k k1 k2 => by
    have p1 := sumK_app (a := ofL (x1 ++ x2)) (b := x3) (ofL_sum (x1 ++ x2) k k1 k2) rfl
    have p2 := sumK_app (a := x1) (b := ofL (x2 ++ x3)) rfl (ofL_sum (x2 ++ x3) k k1 k2)
    rw [p1, p2, List.append_assoc]
  have s2 := (lsum_t r2 r1).1
  rw [e1] at s2
  have s5 := (lsum_t r1 a2).1
  rw [e2] at s5
  have s7 := (lsum_t r1 (neg_led r1)).1
  rw [ofL_opp] at s7
  have hla := a1.len
  have hlb := ofL_len (ofL (x1 ++ x2) ++ x3)
  repeat (first | refine (if_pos (by first | with_reducible rfl | assumption | (simp (disch := omega) only [ltI_iff, eqI_iff, eqS_iff, eqB_iff, inI_iff, leI_iff, capI_iff, isZ_iff, eqN_iff, roomI_iff, nI_def, ssz_def, tN_def, iadd64, isub64, imul64, conv64, conv8, conv32, iadd32, imul32, irem_pos, iquo64, iquo32, imin_l, imin_r, imax_l, imax_r, Bool.not_eq_true', ← Bool.not_eq_true, Bool.not_eq_eq_eq_not, Bool.not_true, Bool.not_false, not_true_eq_false, not_false_eq_true, Bool.false_eq_true, List.length_append, List.length_cons, List.length_nil, List.length_take, List.length_drop, List.length_set, List.length_replicate] <;> omega) | omega)).trans ?_ | refine (if_neg (by first | with_reducible rfl | assumption | (simp (disch := omega) only [ltI_iff, eqI_iff, eqS_iff, eqB_iff, inI_iff, leI_iff, capI_iff, isZ_iff, eqN_iff, roomI_iff, nI_def, ssz_def, tN_def, iadd64, isub64, imul64, conv64, conv8, conv32, iadd32, imul32, irem_pos, iquo64, iquo32, imin_l, imin_r, imax_l, imax_r, Bool.not_eq_true', ← Bool.not_eq_true, Bool.not_eq_eq_eq_not, Bool.not_true, Bool.not_false, not_true_eq_false, not_false_eq_true, Bool.false_eq_true, List.length_append, List.length_cons, List.length_nil, List.length_take, List.length_drop, List.length_set, List.length_replicate] <;> omega) | omega)).trans ?_ | refine (bnd alive_ok).trans ?_ | refine (bnd (ref08_right_t r1)).trans ?_ | refine (bnd (ref08_right_t r2)).trans ?_ | refine (bnd (ref08_right_t r3)).trans ?_ | refine (bnd (lsum_t r1 r2).1).trans ?_ | refine (bnd s2).trans ?_ | refine (bnd (lsum_t r2 r3).1).trans ?_ | refine (bnd (lsum_t a1 r3).1).trans ?_ | refine (bnd s5).trans ?_ | refine (bnd (less_t r1).1).trans ?_ | refine (bnd s7).trans ?_ | refine (bnd (lsame_ok (x := ofL (x1 ++ x2)) (by omega))).trans ?_ | refine (bnd (lsame_ok (x := ofL (ofL (x1 ++ x2) ++ x3)) (by omega))).trans ?_ | refine Eq.trans (Sum.elim_inl _ _ _) ?_ | refine Eq.trans (Sum.elim_inr _ _ _) ?_)
  rfl

/-- The deltas, from the one at 'at' on, round. -/
def rotL (d : List (Int × Int)) (a i : Nat) : List (Int × Int) := (List.range i).filterMap fun j => d[(j + a) % d.length]?
theorem rotL_succ {d : List (Int × Int)} {a i : Nat} (h : (i + a) % d.length < d.length) : rotL d a (i + 1) = rotL d a i ++ [d[(i + a) % d.length]] := by
  unfold rotL
  rw [List.range_succ, List.filterMap_append, List.filterMap_cons, List.getElem?_eq_getElem h]
  rfl
theorem rotL_len (d : List (Int × Int)) (a i : Nat) : (rotL d a i).length ≤ i := by
  have := List.length_filterMap_le (fun j => d[(j + a) % d.length]?) (List.range i)
  rwa [List.length_range] at this
theorem rotL_mem {d : List (Int × Int)} {a i : Nat} {x : Int × Int} (h : x ∈ rotL d a i) : x ∈ d := by
  unfold rotL at h
  rw [List.mem_filterMap] at h
  obtain ⟨j, _, hj⟩ := h
  exact List.mem_of_getElem? hj
theorem rotL_all {d : List (Int × Int)} (a : Nat) : rotL d a d.length = d.drop (a % d.length) ++ d.take (a % d.length) := by
  by_cases hd : d.length = 0
  · obtain rfl := List.eq_nil_of_length_eq_zero hd; simp [rotL]
  have hm : a % d.length < d.length := Nat.mod_lt _ (by omega)
  obtain ⟨m, hme⟩ : ∃ m, m = a % d.length := ⟨_, rfl⟩
  have hmod : ∀ j, j < d.length → (j + a) % d.length = if j + m < d.length then j + m else j + m - d.length := fun j hj => by
    rw [Nat.add_mod, ← hme, Nat.mod_eq_of_lt hj]
    split
    · exact Nat.mod_eq_of_lt (by omega)
    · rw [Nat.mod_eq_sub_mod (by omega), Nat.mod_eq_of_lt (by omega)]
  rw [← hme] at hm ⊢
  have key : ∀ i, i ≤ d.length → rotL d a i = (d.drop m ++ d.take m).take i := by
    intro i
    induction i with
    | zero => intro _; rfl
    | succ i ih =>
      intro hi
      have hlt : (i + a) % d.length < d.length := Nat.mod_lt _ (by omega)
      rw [rotL_succ hlt, ih (by omega), List.take_add_one]
      congr 1
      have hl2 : (d.drop m ++ d.take m).length = d.length := by simp; omega
      have e : (d.drop m ++ d.take m)[i]? = some (d[(i + a) % d.length]) := by
        rw [← List.getElem?_eq_getElem hlt, hmod i (by omega)]
        by_cases h : i + m < d.length
        · rw [if_pos h, List.getElem?_append_left (by simp; omega), List.getElem?_drop]; congr 1; omega
        · rw [if_neg h, List.getElem?_append_right (by simp; omega), List.getElem?_take, if_pos (by simp; omega)]; congr 1; simp; omega
      rw [e]; rfl
  rw [key _ (Nat.le_refl _), List.take_of_length_le (by simp; omega)]
theorem rotL_tot (d : List (Int × Int)) (a : Nat) (k : Int) : tot (rotL d a d.length) k = tot d k := by
  rw [rotL_all, tot_app, Int.add_comm, ← tot_app, List.take_append_drop]
theorem any_l0 {x1 d : List (Int × Int)} {a : Nat} (hd : d.length ≤ 1000) (ha : a ≤ 1000) : ∀ (n i : Nat) (v : Int) (o b : List (Int × Int)), d.length - i = n → i ≤ d.length → v = (i : Int) → o = rotL d a i → b = negL (d.take i) → P_law08_LedgerAny_l0 x1 d (a : Int) v o b = some (rotL d a d.length, negL d) := by
  intro n
  induction n with
  | zero =>
    intro i v o b hn hi hv ho hb
    have e : i = d.length := by omega
    subst e
    rw [P_law08_LedgerAny_l0_eq]
    repeat (first | refine (if_pos (by first | with_reducible rfl | assumption | (simp (disch := omega) only [ltI_iff, eqI_iff, eqS_iff, eqB_iff, inI_iff, leI_iff, capI_iff, isZ_iff, eqN_iff, roomI_iff, nI_def, ssz_def, tN_def, iadd64, isub64, imul64, conv64, conv8, conv32, iadd32, imul32, irem_pos, iquo64, iquo32, imin_l, imin_r, imax_l, imax_r, Bool.not_eq_true', ← Bool.not_eq_true, Bool.not_eq_eq_eq_not, Bool.not_true, Bool.not_false, not_true_eq_false, not_false_eq_true, Bool.false_eq_true, List.length_append, List.length_cons, List.length_nil, List.length_take, List.length_drop, List.length_set, List.length_replicate] <;> omega) | omega)).trans ?_ | refine (if_neg (by first | with_reducible rfl | assumption | (simp (disch := omega) only [ltI_iff, eqI_iff, eqS_iff, eqB_iff, inI_iff, leI_iff, capI_iff, isZ_iff, eqN_iff, roomI_iff, nI_def, ssz_def, tN_def, iadd64, isub64, imul64, conv64, conv8, conv32, iadd32, imul32, irem_pos, iquo64, iquo32, imin_l, imin_r, imax_l, imax_r, Bool.not_eq_true', ← Bool.not_eq_true, Bool.not_eq_eq_eq_not, Bool.not_true, Bool.not_false, not_true_eq_false, not_false_eq_true, Bool.false_eq_true, List.length_append, List.length_cons, List.length_nil, List.length_take, List.length_drop, List.length_set, List.length_replicate] <;> omega) | omega)).trans ?_ | refine Eq.trans (Sum.elim_inl _ _ _) ?_ | refine Eq.trans (Sum.elim_inr _ _ _) ?_)
    rw [ho, hb, List.take_length]
  | succ n ih =>
    intro i v o b hn hi hv ho hb
    have hlt : i < d.length := by omega
    have hml : (i + a) % d.length < d.length := Nat.mod_lt _ (by omega)
    have hm : irem .i64 (iadd .i64 v (conv .i64 (a : Int))) (nI d.length) = (((i + a) % d.length : Nat) : Int) := by
      rw [conv64 (by omega), hv, iadd64 (by omega), nI_def, irem_pos (by omega), Int.natCast_emod, Int.natCast_add]
    have g1 := geti (l := d) (q := (((i + a) % d.length : Nat) : Int)) rfl hml
    have hol : o.length ≤ i := by rw [ho]; exact rotL_len d a i
    have hbl : b.length ≤ 1000 := by rw [hb]; simp [negL]; omega
    have hin : inI (((i + a) % d.length : Nat) : Int) d.length = true := by rw [inI_iff]; omega
    rw [P_law08_LedgerAny_l0_eq]
    simp only [hm]
    repeat (first | refine (if_pos (by first | with_reducible rfl | assumption | (simp (disch := omega) only [ltI_iff, eqI_iff, eqS_iff, eqB_iff, inI_iff, leI_iff, capI_iff, isZ_iff, eqN_iff, roomI_iff, nI_def, ssz_def, tN_def, iadd64, isub64, imul64, conv64, conv8, conv32, iadd32, imul32, irem_pos, iquo64, iquo32, imin_l, imin_r, imax_l, imax_r, Bool.not_eq_true', ← Bool.not_eq_true, Bool.not_eq_eq_eq_not, Bool.not_true, Bool.not_false, not_true_eq_false, not_false_eq_true, Bool.false_eq_true, List.length_append, List.length_cons, List.length_nil, List.length_take, List.length_drop, List.length_set, List.length_replicate, hin] <;> omega) | omega)).trans ?_ | refine (if_neg (by first | with_reducible rfl | assumption | (simp (disch := omega) only [ltI_iff, eqI_iff, eqS_iff, eqB_iff, inI_iff, leI_iff, capI_iff, isZ_iff, eqN_iff, roomI_iff, nI_def, ssz_def, tN_def, iadd64, isub64, imul64, conv64, conv8, conv32, iadd32, imul32, irem_pos, iquo64, iquo32, imin_l, imin_r, imax_l, imax_r, Bool.not_eq_true', ← Bool.not_eq_true, Bool.not_eq_eq_eq_not, Bool.not_true, Bool.not_false, not_true_eq_false, not_false_eq_true, Bool.false_eq_true, List.length_append, List.length_cons, List.length_nil, List.length_take, List.length_drop, List.length_set, List.length_replicate, hin] <;> omega) | omega)).trans ?_ | refine (bnd g1).trans ?_ | refine (bnd (geti hv hlt)).trans ?_ | refine Eq.trans (Sum.elim_inl _ _ _) ?_ | refine Eq.trans (Sum.elim_inr _ _ _) ?_)
    exact ih (i + 1) _ _ _ (by omega) (by omega) (by first | with_reducible rfl | assumption | (simp (disch := omega) only [ltI_iff, eqI_iff, eqS_iff, eqB_iff, inI_iff, leI_iff, capI_iff, isZ_iff, eqN_iff, roomI_iff, nI_def, ssz_def, tN_def, iadd64, isub64, imul64, conv64, conv8, conv32, iadd32, imul32, irem_pos, iquo64, iquo32, imin_l, imin_r, imax_l, imax_r, Bool.not_eq_true', ← Bool.not_eq_true, Bool.not_eq_eq_eq_not, Bool.not_true, Bool.not_false, not_true_eq_false, not_false_eq_true, Bool.false_eq_true, List.length_append, List.length_cons, List.length_nil, List.length_take, List.length_drop, List.length_set, List.length_replicate] <;> omega) | omega) (by rw [rotL_succ hml, ho]) (by rw [neg_succ hlt, hb])
theorem plain_any (x1 x2 : List (Int × Int)) (x3 : Int) (w1 : w_t22 x1) (w2 : w_t22 x2) (w3 : w_t5 x3) : P_law08_LedgerAny x1 x2 x3 = some true := by
  have hl1 : x1.length ≤ 9223372036854775807 := w1.1
  have hl2 : x2.length ≤ 9223372036854775807 := w2.1
  simp only [w_t5] at w3
  rw [P_law08_LedgerAny_eq]
  by_cases h1 : 100 < x1.length
  · repeat (first | refine (if_pos (by first | with_reducible rfl | assumption | (simp (disch := omega) only [ltI_iff, eqI_iff, eqS_iff, eqB_iff, inI_iff, leI_iff, capI_iff, isZ_iff, eqN_iff, roomI_iff, nI_def, ssz_def, tN_def, iadd64, isub64, imul64, conv64, conv8, conv32, iadd32, imul32, irem_pos, iquo64, iquo32, imin_l, imin_r, imax_l, imax_r, Bool.not_eq_true', ← Bool.not_eq_true, Bool.not_eq_eq_eq_not, Bool.not_true, Bool.not_false, not_true_eq_false, not_false_eq_true, Bool.false_eq_true, List.length_append, List.length_cons, List.length_nil, List.length_take, List.length_drop, List.length_set, List.length_replicate] <;> omega) | omega)).trans ?_ | refine (if_neg (by first | with_reducible rfl | assumption | (simp (disch := omega) only [ltI_iff, eqI_iff, eqS_iff, eqB_iff, inI_iff, leI_iff, capI_iff, isZ_iff, eqN_iff, roomI_iff, nI_def, ssz_def, tN_def, iadd64, isub64, imul64, conv64, conv8, conv32, iadd32, imul32, irem_pos, iquo64, iquo32, imin_l, imin_r, imax_l, imax_r, Bool.not_eq_true', ← Bool.not_eq_true, Bool.not_eq_eq_eq_not, Bool.not_true, Bool.not_false, not_true_eq_false, not_false_eq_true, Bool.false_eq_true, List.length_append, List.length_cons, List.length_nil, List.length_take, List.length_drop, List.length_set, List.length_replicate] <;> omega) | omega)).trans ?_ | refine (bnd alive_ok).trans ?_ | refine Eq.trans (Sum.elim_inl _ _ _) ?_ | refine Eq.trans (Sum.elim_inr _ _ _) ?_)
    rfl
  by_cases h2 : 100 < x2.length
  · repeat (first | refine (if_pos (by first | with_reducible rfl | assumption | (simp (disch := omega) only [ltI_iff, eqI_iff, eqS_iff, eqB_iff, inI_iff, leI_iff, capI_iff, isZ_iff, eqN_iff, roomI_iff, nI_def, ssz_def, tN_def, iadd64, isub64, imul64, conv64, conv8, conv32, iadd32, imul32, irem_pos, iquo64, iquo32, imin_l, imin_r, imax_l, imax_r, Bool.not_eq_true', ← Bool.not_eq_true, Bool.not_eq_eq_eq_not, Bool.not_true, Bool.not_false, not_true_eq_false, not_false_eq_true, Bool.false_eq_true, List.length_append, List.length_cons, List.length_nil, List.length_take, List.length_drop, List.length_set, List.length_replicate] <;> omega) | omega)).trans ?_ | refine (if_neg (by first | with_reducible rfl | assumption | (simp (disch := omega) only [ltI_iff, eqI_iff, eqS_iff, eqB_iff, inI_iff, leI_iff, capI_iff, isZ_iff, eqN_iff, roomI_iff, nI_def, ssz_def, tN_def, iadd64, isub64, imul64, conv64, conv8, conv32, iadd32, imul32, irem_pos, iquo64, iquo32, imin_l, imin_r, imax_l, imax_r, Bool.not_eq_true', ← Bool.not_eq_true, Bool.not_eq_eq_eq_not, Bool.not_true, Bool.not_false, not_true_eq_false, not_false_eq_true, Bool.false_eq_true, List.length_append, List.length_cons, List.length_nil, List.length_take, List.length_drop, List.length_set, List.length_replicate] <;> omega) | omega)).trans ?_ | refine (bnd alive_ok).trans ?_ | refine Eq.trans (Sum.elim_inl _ _ _) ?_ | refine Eq.trans (Sum.elim_inr _ _ _) ?_)
    rfl
  by_cases hr : Led x1
  rotate_left
  · repeat (first | refine (if_pos (by first | with_reducible rfl | assumption | (simp (disch := omega) only [ltI_iff, eqI_iff, eqS_iff, eqB_iff, inI_iff, leI_iff, capI_iff, isZ_iff, eqN_iff, roomI_iff, nI_def, ssz_def, tN_def, iadd64, isub64, imul64, conv64, conv8, conv32, iadd32, imul32, irem_pos, iquo64, iquo32, imin_l, imin_r, imax_l, imax_r, Bool.not_eq_true', ← Bool.not_eq_true, Bool.not_eq_eq_eq_not, Bool.not_true, Bool.not_false, not_true_eq_false, not_false_eq_true, Bool.false_eq_true, List.length_append, List.length_cons, List.length_nil, List.length_take, List.length_drop, List.length_set, List.length_replicate] <;> omega) | omega)).trans ?_ | refine (if_neg (by first | with_reducible rfl | assumption | (simp (disch := omega) only [ltI_iff, eqI_iff, eqS_iff, eqB_iff, inI_iff, leI_iff, capI_iff, isZ_iff, eqN_iff, roomI_iff, nI_def, ssz_def, tN_def, iadd64, isub64, imul64, conv64, conv8, conv32, iadd32, imul32, irem_pos, iquo64, iquo32, imin_l, imin_r, imax_l, imax_r, Bool.not_eq_true', ← Bool.not_eq_true, Bool.not_eq_eq_eq_not, Bool.not_true, Bool.not_false, not_true_eq_false, not_false_eq_true, Bool.false_eq_true, List.length_append, List.length_cons, List.length_nil, List.length_take, List.length_drop, List.length_set, List.length_replicate] <;> omega) | omega)).trans ?_ | refine (bnd alive_ok).trans ?_ | refine (bnd (ref08_right_f (wf_l w1) (by omega) hr)).trans ?_ | refine Eq.trans (Sum.elim_inl _ _ _) ?_ | refine Eq.trans (Sum.elim_inr _ _ _) ?_)
    rfl
  by_cases hk : keysOk x2
  rotate_left
  · repeat (first | refine (if_pos (by first | with_reducible rfl | assumption | (simp (disch := omega) only [ltI_iff, eqI_iff, eqS_iff, eqB_iff, inI_iff, leI_iff, capI_iff, isZ_iff, eqN_iff, roomI_iff, nI_def, ssz_def, tN_def, iadd64, isub64, imul64, conv64, conv8, conv32, iadd32, imul32, irem_pos, iquo64, iquo32, imin_l, imin_r, imax_l, imax_r, Bool.not_eq_true', ← Bool.not_eq_true, Bool.not_eq_eq_eq_not, Bool.not_true, Bool.not_false, not_true_eq_false, not_false_eq_true, Bool.false_eq_true, List.length_append, List.length_cons, List.length_nil, List.length_take, List.length_drop, List.length_set, List.length_replicate] <;> omega) | omega)).trans ?_ | refine (if_neg (by first | with_reducible rfl | assumption | (simp (disch := omega) only [ltI_iff, eqI_iff, eqS_iff, eqB_iff, inI_iff, leI_iff, capI_iff, isZ_iff, eqN_iff, roomI_iff, nI_def, ssz_def, tN_def, iadd64, isub64, imul64, conv64, conv8, conv32, iadd32, imul32, irem_pos, iquo64, iquo32, imin_l, imin_r, imax_l, imax_r, Bool.not_eq_true', ← Bool.not_eq_true, Bool.not_eq_eq_eq_not, Bool.not_true, Bool.not_false, not_true_eq_false, not_false_eq_true, Bool.false_eq_true, List.length_append, List.length_cons, List.length_nil, List.length_take, List.length_drop, List.length_set, List.length_replicate] <;> omega) | omega)).trans ?_ | refine (bnd alive_ok).trans ?_ | refine (bnd (ref08_right_t hr)).trans ?_ | refine (bnd ((keys_ok (l := x2) (by omega)).2 hk)).trans ?_ | refine Eq.trans (Sum.elim_inl _ _ _) ?_ | refine Eq.trans (Sum.elim_inr _ _ _) ?_)
    rfl
  obtain ⟨a, rfl⟩ : ∃ a : Nat, x3 = (a : Int) := ⟨x3.toNat, by omega⟩
  have hkd := key_l w2 hk
  have hloop := any_l0 (x1 := x1) (d := x2) (a := a) (by omega) (by omega) _ 0 0 [] [] rfl (by omega) rfl rfl rfl
  have hol := rotL_len x2 a x2.length
  have p2 := put_t hr (d := rotL x2 a x2.length) (fun x hx => hkd x (rotL_mem hx)) (by omega)
  have e2 : ofL (x1 ++ rotL x2 a x2.length) = ofL (x1 ++ x2) := ofL_congr fun k _ _ => by
    unfold sumK; rw [tot_app, tot_app, rotL_tot]
  rw [e2] at p2
  have hs := ofL_led (x1 ++ x2)
  have p3 := put_t hs (d := negL x2) (fun x hx => by
    obtain ⟨e, he, rfl⟩ := List.mem_map.1 hx
    exact ⟨(hkd e he).1, (hkd e he).2.1, W64_rng _⟩) (by simp [negL]; omega)
  have e3 : ofL (ofL (x1 ++ x2) ++ negL x2) = x1 := by
    have : ofL (ofL (x1 ++ x2) ++ negL x2) = ofL x1 := ofL_congr fun k k1 k2 => by
      rw [sumK_app (b := negL x2) (ofL_sum (x1 ++ x2) k k1 k2) rfl]
      unfold sumK
      rw [tot_app, tot_app]
      exact w64_congr (by have := tot_neg x2 k; omega)
    rw [this, hr.of]
  rw [e3] at p3
  have hsl := hs.len
  repeat (first | refine (if_pos (by first | with_reducible rfl | assumption | (simp (disch := omega) only [ltI_iff, eqI_iff, eqS_iff, eqB_iff, inI_iff, leI_iff, capI_iff, isZ_iff, eqN_iff, roomI_iff, nI_def, ssz_def, tN_def, iadd64, isub64, imul64, conv64, conv8, conv32, iadd32, imul32, irem_pos, iquo64, iquo32, imin_l, imin_r, imax_l, imax_r, Bool.not_eq_true', ← Bool.not_eq_true, Bool.not_eq_eq_eq_not, Bool.not_true, Bool.not_false, not_true_eq_false, not_false_eq_true, Bool.false_eq_true, List.length_append, List.length_cons, List.length_nil, List.length_take, List.length_drop, List.length_set, List.length_replicate] <;> omega) | omega)).trans ?_ | refine (if_neg (by first | with_reducible rfl | assumption | (simp (disch := omega) only [ltI_iff, eqI_iff, eqS_iff, eqB_iff, inI_iff, leI_iff, capI_iff, isZ_iff, eqN_iff, roomI_iff, nI_def, ssz_def, tN_def, iadd64, isub64, imul64, conv64, conv8, conv32, iadd32, imul32, irem_pos, iquo64, iquo32, imin_l, imin_r, imax_l, imax_r, Bool.not_eq_true', ← Bool.not_eq_true, Bool.not_eq_eq_eq_not, Bool.not_true, Bool.not_false, not_true_eq_false, not_false_eq_true, Bool.false_eq_true, List.length_append, List.length_cons, List.length_nil, List.length_take, List.length_drop, List.length_set, List.length_replicate] <;> omega) | omega)).trans ?_ | refine (bnd alive_ok).trans ?_ | refine (bnd (ref08_right_t hr)).trans ?_ | refine (bnd ((keys_ok (l := x2) (by omega)).1 hk)).trans ?_ | refine (bnd hloop).trans ?_ | refine (bnd (put_t hr hkd (by omega))).trans ?_ | refine (bnd p2).trans ?_ | refine (bnd p3).trans ?_ | refine (bnd (lsame_ok (x := ofL (x1 ++ x2)) (by omega))).trans ?_ | refine (bnd (lsame_ok (x := x1) (by omega))).trans ?_ | refine (bnd (ledger_right_t hs)).trans ?_ | refine Eq.trans (Sum.elim_inl _ _ _) ?_ | refine Eq.trans (Sum.elim_inr _ _ _) ?_)
  rfl
end Go.Ws
