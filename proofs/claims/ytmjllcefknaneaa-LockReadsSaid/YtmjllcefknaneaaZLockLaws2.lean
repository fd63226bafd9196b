/-
  LockReads and LockWrites, plainly.
  Conditions: none.
-/
import Derived.Test.YtmjllcefknaneaaZLockLaws
set_option linter.unusedVariables false
set_option linter.unusedSimpArgs false
namespace Go.Ws
set_option linter.unusedVariables false
set_option linter.unusedSimpArgs false
set_option maxHeartbeats 1000000

/-- Locks of readers of one key: just these. -/
def Rd (l : List Ho) (k : Int) (had : List Int) : Prop := Lk l ∧ (∀ h ∈ l, h.1 = k ∧ h.2.2 = false) ∧ ∀ t, (∃ h ∈ l, h.2.1 = t) ↔ t ∈ had
theorem Rd.got {l l' : List Ho} {k t : Int} {had : List Int} (h : Rd l k had) (hm : May (k, t, false)) (hg : Got l k t false l') : Rd l' k (had ++ [t]) := by
  obtain ⟨h1, h2, h3⟩ := h
  have hc : ¬ Conf l k t false := fun ⟨x, hx, _, _, hw⟩ => by have := (h2 x hx).2; rw [this] at hw; simp at hw
  obtain ⟨g1, _⟩ := hg.lk h1 hm hc
  have mem : ∀ x, x ∈ l' ↔ x ∈ l ∨ x = (k, t, false) := by
    rcases hg with ⟨A, b, R, rfl, rfl⟩ | ⟨A, R, rfl, _, _, rfl⟩
    · have hb : b = false := (h2 (k, t, b) (by simp)).2
      subst hb
      intro x
      simp only [List.mem_append, List.mem_cons, Bool.or_false]
      constructor
      · exact fun h => .inl h
      · rintro (h | h)
        · exact h
        · exact .inr (.inl h)
    · intro x
      simp only [List.mem_append, List.mem_cons]
      constructor
      · rintro (h | h | h)
        · exact .inl (.inl h)
        · exact .inr h
        · exact .inl (.inr h)
      · rintro ((h | h) | h)
        · exact .inl h
        · exact .inr (.inr h)
        · exact .inr (.inl h)
  refine ⟨g1, fun x hx => ?_, fun u => ?_⟩
  · rcases (mem x).1 hx with hx | rfl
    · exact h2 x hx
    · exact ⟨rfl, rfl⟩
  · rw [List.mem_append, List.mem_singleton, ← h3 u]
    constructor
    · rintro ⟨x, hx, rfl⟩
      rcases (mem x).1 hx with hx | rfl
      · exact .inl ⟨x, hx, rfl⟩
      · exact .inr rfl
    · rintro (⟨x, hx, rfl⟩ | rfl)
      · exact ⟨x, (mem x).2 (.inl hx), rfl⟩
      · exact ⟨_, (mem _).2 (.inr rfl), rfl⟩
theorem reads_l0 {x1 : List Int} {x2 : Int} (hx : ∀ t ∈ x1, 0 ≤ t ∧ t ≤ 65535) (hk : 0 ≤ x2 ∧ x2 ≤ 255) : ∀ (d i : Nat) (v : Int) (l : List Ho) (had : List Int), 100 - i = d → i ≤ 100 → v = (i : Int) → Rd l (irem .u8 x2 64) had → l.length ≤ i → had.length ≤ i → (∀ t ∈ had, 0 ≤ t ∧ t < 1000) →
    ∃ l' had', P_law07_LockReads_l0 x1 x2 l v had = some (.inl (l', had')) ∧ Rd l' (irem .u8 x2 64) had' ∧ l'.length ≤ 100 ∧ had'.length ≤ 100 ∧ ∀ t ∈ had', 0 ≤ t ∧ t < 1000 := by
  intro d
  induction d with
  | zero =>
    intro i v l had hd hi hv hr hl hh hht
    refine ⟨l, had, ?_, hr, by omega, by omega, hht⟩
    rw [P_law07_LockReads_l0_eq]
    by_cases hlx : i < x1.length
    · repeat (first | refine (if_pos (by first | with_reducible rfl | assumption | (simp (disch := omega) only [ltI_iff, eqI_iff, eqS_iff, eqB_iff, inI_iff, leI_iff, capI_iff, isZ_iff, eqN_iff, roomI_iff, nI_def, ssz_def, tN_def, iadd64, isub64, imul64, conv64, conv8, conv32, iadd32, imul32, irem_pos, iquo64, iquo32, imin_l, imin_r, imax_l, imax_r, Bool.not_eq_true', ← Bool.not_eq_true, Bool.not_eq_eq_eq_not, Bool.not_true, Bool.not_false, not_true_eq_false, not_false_eq_true, Bool.false_eq_true, List.length_append, List.length_cons, List.length_nil, List.length_take, List.length_drop, List.length_set, List.length_replicate] <;> omega) | omega)).trans ?_ | refine (if_neg (by first | with_reducible rfl | assumption | (simp (disch := omega) only [ltI_iff, eqI_iff, eqS_iff, eqB_iff, inI_iff, leI_iff, capI_iff, isZ_iff, eqN_iff, roomI_iff, nI_def, ssz_def, tN_def, iadd64, isub64, imul64, conv64, conv8, conv32, iadd32, imul32, irem_pos, iquo64, iquo32, imin_l, imin_r, imax_l, imax_r, Bool.not_eq_true', ← Bool.not_eq_true, Bool.not_eq_eq_eq_not, Bool.not_true, Bool.not_false, not_true_eq_false, not_false_eq_true, Bool.false_eq_true, List.length_append, List.length_cons, List.length_nil, List.length_take, List.length_drop, List.length_set, List.length_replicate] <;> omega) | omega)).trans ?_ | refine Eq.trans (Sum.elim_inl _ _ _) ?_ | refine Eq.trans (Sum.elim_inr _ _ _) ?_)
      rfl
    · repeat (first | refine (if_pos (by first | with_reducible rfl | assumption | (simp (disch := omega) only [ltI_iff, eqI_iff, eqS_iff, eqB_iff, inI_iff, leI_iff, capI_iff, isZ_iff, eqN_iff, roomI_iff, nI_def, ssz_def, tN_def, iadd64, isub64, imul64, conv64, conv8, conv32, iadd32, imul32, irem_pos, iquo64, iquo32, imin_l, imin_r, imax_l, imax_r, Bool.not_eq_true', ← Bool.not_eq_true, Bool.not_eq_eq_eq_not, Bool.not_true, Bool.not_false, not_true_eq_false, not_false_eq_true, Bool.false_eq_true, List.length_append, List.length_cons, List.length_nil, List.length_take, List.length_drop, List.length_set, List.length_replicate] <;> omega) | omega)).trans ?_ | refine (if_neg (by first | with_reducible rfl | assumption | (simp (disch := omega) only [ltI_iff, eqI_iff, eqS_iff, eqB_iff, inI_iff, leI_iff, capI_iff, isZ_iff, eqN_iff, roomI_iff, nI_def, ssz_def, tN_def, iadd64, isub64, imul64, conv64, conv8, conv32, iadd32, imul32, irem_pos, iquo64, iquo32, imin_l, imin_r, imax_l, imax_r, Bool.not_eq_true', ← Bool.not_eq_true, Bool.not_eq_eq_eq_not, Bool.not_true, Bool.not_false, not_true_eq_false, not_false_eq_true, Bool.false_eq_true, List.length_append, List.length_cons, List.length_nil, List.length_take, List.length_drop, List.length_set, List.length_replicate] <;> omega) | omega)).trans ?_ | refine Eq.trans (Sum.elim_inl _ _ _) ?_ | refine Eq.trans (Sum.elim_inr _ _ _) ?_)
      rfl
  | succ d ih =>
    intro i v l had hd hi hv hr hl hh hht
    by_cases hlx : i < x1.length
    rotate_left
    · refine ⟨l, had, ?_, hr, by omega, by omega, hht⟩
      rw [P_law07_LockReads_l0_eq]
      repeat (first | refine (if_pos (by first | with_reducible rfl | assumption | (simp (disch := omega) only [ltI_iff, eqI_iff, eqS_iff, eqB_iff, inI_iff, leI_iff, capI_iff, isZ_iff, eqN_iff, roomI_iff, nI_def, ssz_def, tN_def, iadd64, isub64, imul64, conv64, conv8, conv32, iadd32, imul32, irem_pos, iquo64, iquo32, imin_l, imin_r, imax_l, imax_r, Bool.not_eq_true', ← Bool.not_eq_true, Bool.not_eq_eq_eq_not, Bool.not_true, Bool.not_false, not_true_eq_false, not_false_eq_true, Bool.false_eq_true, List.length_append, List.length_cons, List.length_nil, List.length_take, List.length_drop, List.length_set, List.length_replicate] <;> omega) | omega)).trans ?_ | refine (if_neg (by first | with_reducible rfl | assumption | (simp (disch := omega) only [ltI_iff, eqI_iff, eqS_iff, eqB_iff, inI_iff, leI_iff, capI_iff, isZ_iff, eqN_iff, roomI_iff, nI_def, ssz_def, tN_def, iadd64, isub64, imul64, conv64, conv8, conv32, iadd32, imul32, irem_pos, iquo64, iquo32, imin_l, imin_r, imax_l, imax_r, Bool.not_eq_true', ← Bool.not_eq_true, Bool.not_eq_eq_eq_not, Bool.not_true, Bool.not_false, not_true_eq_false, not_false_eq_true, Bool.false_eq_true, List.length_append, List.length_cons, List.length_nil, List.length_take, List.length_drop, List.length_set, List.length_replicate] <;> omega) | omega)).trans ?_ | refine Eq.trans (Sum.elim_inl _ _ _) ?_ | refine Eq.trans (Sum.elim_inr _ _ _) ?_)
      rfl
    have ht := hx x1[i] (List.getElem_mem hlx)
    have e1 : irem .i64 (conv .i64 x1[i]) 1000 = x1[i] % 1000 := by rw [conv64 (by omega), irem_pos (by omega)]
    have e2 : irem .u8 x2 64 = x2 % 64 := irem_pos (by omega)
    have hm : mayb (irem .u8 x2 64, irem .i64 (conv .i64 x1[i]) 1000, false) := by unfold mayb; simp only [e1, e2]; omega
    have hc : ¬ Conf l (irem .u8 x2 64) (irem .i64 (conv .i64 x1[i]) 1000) false := fun ⟨x, hx, _, _, hw⟩ => by have := (hr.2.1 x hx).2; rw [this] at hw; simp at hw
    obtain ⟨a, a1, _, a3⟩ := take_t (w := false) hr.1 (by omega) (by rw [e2]; omega) hm hc
    have hra := hr.got ((mayb_may (by simp only [e2]; omega)).1 hm) a3
    have hal := a3.len
    obtain ⟨l', had', r1, r2, r3, r4, r5⟩ := ih (i + 1) (iadd .i64 v 1) a (had ++ [irem .i64 (conv .i64 x1[i]) 1000]) (by omega) (by omega) (by first | with_reducible rfl | assumption | (simp (disch := omega) only [ltI_iff, eqI_iff, eqS_iff, eqB_iff, inI_iff, leI_iff, capI_iff, isZ_iff, eqN_iff, roomI_iff, nI_def, ssz_def, tN_def, iadd64, isub64, imul64, conv64, conv8, conv32, iadd32, imul32, irem_pos, iquo64, iquo32, imin_l, imin_r, imax_l, imax_r, Bool.not_eq_true', ← Bool.not_eq_true, Bool.not_eq_eq_eq_not, Bool.not_true, Bool.not_false, not_true_eq_false, not_false_eq_true, Bool.false_eq_true, List.length_append, List.length_cons, List.length_nil, List.length_take, List.length_drop, List.length_set, List.length_replicate] <;> omega) | omega) hra (by omega) (by simp; omega) (fun t htt => by
      rcases List.mem_append.1 htt with h | h
      · exact hht t h
      · rw [List.mem_singleton] at h; rw [h, e1]; omega)
    refine ⟨l', had', ?_, r2, r3, r4, r5⟩
    rw [P_law07_LockReads_l0_eq]
    repeat (first | refine (if_pos (by first | with_reducible rfl | assumption | (simp (disch := omega) only [ltI_iff, eqI_iff, eqS_iff, eqB_iff, inI_iff, leI_iff, capI_iff, isZ_iff, eqN_iff, roomI_iff, nI_def, ssz_def, tN_def, iadd64, isub64, imul64, conv64, conv8, conv32, iadd32, imul32, irem_pos, iquo64, iquo32, imin_l, imin_r, imax_l, imax_r, Bool.not_eq_true', ← Bool.not_eq_true, Bool.not_eq_eq_eq_not, Bool.not_true, Bool.not_false, not_true_eq_false, not_false_eq_true, Bool.false_eq_true, List.length_append, List.length_cons, List.length_nil, List.length_take, List.length_drop, List.length_set, List.length_replicate] <;> omega) | omega)).trans ?_ | refine (if_neg (by first | with_reducible rfl | assumption | (simp (disch := omega) only [ltI_iff, eqI_iff, eqS_iff, eqB_iff, inI_iff, leI_iff, capI_iff, isZ_iff, eqN_iff, roomI_iff, nI_def, ssz_def, tN_def, iadd64, isub64, imul64, conv64, conv8, conv32, iadd32, imul32, irem_pos, iquo64, iquo32, imin_l, imin_r, imax_l, imax_r, Bool.not_eq_true', ← Bool.not_eq_true, Bool.not_eq_eq_eq_not, Bool.not_true, Bool.not_false, not_true_eq_false, not_false_eq_true, Bool.false_eq_true, List.length_append, List.length_cons, List.length_nil, List.length_take, List.length_drop, List.length_set, List.length_replicate] <;> omega) | omega)).trans ?_ | refine (bnd (geti hv hlx)).trans ?_ | refine (bnd a1).trans ?_ | refine Eq.trans (Sum.elim_inl _ _ _) ?_ | refine Eq.trans (Sum.elim_inr _ _ _) ?_)
    exact r1
theorem reads_l1 {x2 : Int} {l : List Ho} {had : List Int} (hr : Rd l (irem .u8 x2 64) had) (hl : l.length ≤ 100) (hh : had.length ≤ 100) : ∀ (d i : Nat) (v : Int), had.length - i = d → i ≤ had.length → v = (i : Int) → P_law07_LockReads_l1 x2 (l, had) v = some (.inl ()) := by
  intro d
  induction d with
  | zero =>
    intro i v hd hi hv
    rw [P_law07_LockReads_l1_eq]
    repeat (first | refine (if_pos (by first | with_reducible rfl | assumption | (simp (disch := omega) only [ltI_iff, eqI_iff, eqS_iff, eqB_iff, inI_iff, leI_iff, capI_iff, isZ_iff, eqN_iff, roomI_iff, nI_def, ssz_def, tN_def, iadd64, isub64, imul64, conv64, conv8, conv32, iadd32, imul32, irem_pos, iquo64, iquo32, imin_l, imin_r, imax_l, imax_r, Bool.not_eq_true', ← Bool.not_eq_true, Bool.not_eq_eq_eq_not, Bool.not_true, Bool.not_false, not_true_eq_false, not_false_eq_true, Bool.false_eq_true, List.length_append, List.length_cons, List.length_nil, List.length_take, List.length_drop, List.length_set, List.length_replicate] <;> omega) | omega)).trans ?_ | refine (if_neg (by first | with_reducible rfl | assumption | (simp (disch := omega) only [ltI_iff, eqI_iff, eqS_iff, eqB_iff, inI_iff, leI_iff, capI_iff, isZ_iff, eqN_iff, roomI_iff, nI_def, ssz_def, tN_def, iadd64, isub64, imul64, conv64, conv8, conv32, iadd32, imul32, irem_pos, iquo64, iquo32, imin_l, imin_r, imax_l, imax_r, Bool.not_eq_true', ← Bool.not_eq_true, Bool.not_eq_eq_eq_not, Bool.not_true, Bool.not_false, not_true_eq_false, not_false_eq_true, Bool.false_eq_true, List.length_append, List.length_cons, List.length_nil, List.length_take, List.length_drop, List.length_set, List.length_replicate] <;> omega) | omega)).trans ?_ | refine Eq.trans (Sum.elim_inl _ _ _) ?_ | refine Eq.trans (Sum.elim_inr _ _ _) ?_)
    rfl
  | succ d ih =>
    intro i v hd hi hv
    have hlt : i < had.length := by omega
    have hho := holds_ok (l := l) (by omega) had[i] (irem .u8 x2 64)
    obtain ⟨h, hm, ht⟩ := (hr.2.2 had[i]).2 (List.getElem_mem hlt)
    obtain ⟨h1, h2⟩ := hr.2.1 h hm
    have he : h = (irem .u8 x2 64, had[i], false) := by
      obtain ⟨a, b, c⟩ := h
      simp only at h1 h2 ht
      rw [h1, h2, ht]
    rw [he] at hm
    rw [hold_in hr.1 hm] at hho
    rw [P_law07_LockReads_l1_eq]
    repeat (first | refine (if_pos (by first | with_reducible rfl | assumption | (simp (disch := omega) only [ltI_iff, eqI_iff, eqS_iff, eqB_iff, inI_iff, leI_iff, capI_iff, isZ_iff, eqN_iff, roomI_iff, nI_def, ssz_def, tN_def, iadd64, isub64, imul64, conv64, conv8, conv32, iadd32, imul32, irem_pos, iquo64, iquo32, imin_l, imin_r, imax_l, imax_r, Bool.not_eq_true', ← Bool.not_eq_true, Bool.not_eq_eq_eq_not, Bool.not_true, Bool.not_false, not_true_eq_false, not_false_eq_true, Bool.false_eq_true, List.length_append, List.length_cons, List.length_nil, List.length_take, List.length_drop, List.length_set, List.length_replicate] <;> omega) | omega)).trans ?_ | refine (if_neg (by first | with_reducible rfl | assumption | (simp (disch := omega) only [ltI_iff, eqI_iff, eqS_iff, eqB_iff, inI_iff, leI_iff, capI_iff, isZ_iff, eqN_iff, roomI_iff, nI_def, ssz_def, tN_def, iadd64, isub64, imul64, conv64, conv8, conv32, iadd32, imul32, irem_pos, iquo64, iquo32, imin_l, imin_r, imax_l, imax_r, Bool.not_eq_true', ← Bool.not_eq_true, Bool.not_eq_eq_eq_not, Bool.not_true, Bool.not_false, not_true_eq_false, not_false_eq_true, Bool.false_eq_true, List.length_append, List.length_cons, List.length_nil, List.length_take, List.length_drop, List.length_set, List.length_replicate] <;> omega) | omega)).trans ?_ | refine (bnd (geti hv hlt)).trans ?_ | refine (bnd hho).trans ?_ | refine Eq.trans (Sum.elim_inl _ _ _) ?_ | refine Eq.trans (Sum.elim_inr _ _ _) ?_)
    exact ih (i + 1) _ (by omega) (by omega) (by first | with_reducible rfl | assumption | (simp (disch := omega) only [ltI_iff, eqI_iff, eqS_iff, eqB_iff, inI_iff, leI_iff, capI_iff, isZ_iff, eqN_iff, roomI_iff, nI_def, ssz_def, tN_def, iadd64, isub64, imul64, conv64, conv8, conv32, iadd32, imul32, irem_pos, iquo64, iquo32, imin_l, imin_r, imax_l, imax_r, Bool.not_eq_true', ← Bool.not_eq_true, Bool.not_eq_eq_eq_not, Bool.not_true, Bool.not_false, not_true_eq_false, not_false_eq_true, Bool.false_eq_true, List.length_append, List.length_cons, List.length_nil, List.length_take, List.length_drop, List.length_set, List.length_replicate] <;> omega) | omega)
theorem reads_l2 {x : List Ho × List Int} {y : List Ho × Int} (hh : x.2.length ≤ 100) : ∀ (d i : Nat) (v : Int) (b : Bool), x.2.length - i = d → i ≤ x.2.length → v = (i : Int) → P_law07_LockReads_l2 x y b v = some (b && (x.2.drop i).all fun t => eqI t 0) := by
  intro d
  induction d with
  | zero =>
    intro i v b hd hi hv
    rw [P_law07_LockReads_l2_eq]
    repeat (first | refine (if_pos (by first | with_reducible rfl | assumption | (simp (disch := omega) only [ltI_iff, eqI_iff, eqS_iff, eqB_iff, inI_iff, leI_iff, capI_iff, isZ_iff, eqN_iff, roomI_iff, nI_def, ssz_def, tN_def, iadd64, isub64, imul64, conv64, conv8, conv32, iadd32, imul32, irem_pos, iquo64, iquo32, imin_l, imin_r, imax_l, imax_r, Bool.not_eq_true', ← Bool.not_eq_true, Bool.not_eq_eq_eq_not, Bool.not_true, Bool.not_false, not_true_eq_false, not_false_eq_true, Bool.false_eq_true, List.length_append, List.length_cons, List.length_nil, List.length_take, List.length_drop, List.length_set, List.length_replicate] <;> omega) | omega)).trans ?_ | refine (if_neg (by first | with_reducible rfl | assumption | (simp (disch := omega) only [ltI_iff, eqI_iff, eqS_iff, eqB_iff, inI_iff, leI_iff, capI_iff, isZ_iff, eqN_iff, roomI_iff, nI_def, ssz_def, tN_def, iadd64, isub64, imul64, conv64, conv8, conv32, iadd32, imul32, irem_pos, iquo64, iquo32, imin_l, imin_r, imax_l, imax_r, Bool.not_eq_true', ← Bool.not_eq_true, Bool.not_eq_eq_eq_not, Bool.not_true, Bool.not_false, not_true_eq_false, not_false_eq_true, Bool.false_eq_true, List.length_append, List.length_cons, List.length_nil, List.length_take, List.length_drop, List.length_set, List.length_replicate] <;> omega) | omega)).trans ?_ | refine Eq.trans (Sum.elim_inl _ _ _) ?_ | refine Eq.trans (Sum.elim_inr _ _ _) ?_)
    rw [List.drop_of_length_le (by omega)]; simp
  | succ d ih =>
    intro i v b hd hi hv
    have hlt : i < x.2.length := by omega
    have ed : x.2.drop i = x.2[i] :: x.2.drop (i + 1) := List.drop_eq_getElem_cons hlt
    have h1 := ih (i + 1) (iadd .i64 v 1) (eqI x.2[i] 0) (by omega) (by omega) (by first | with_reducible rfl | assumption | (simp (disch := omega) only [ltI_iff, eqI_iff, eqS_iff, eqB_iff, inI_iff, leI_iff, capI_iff, isZ_iff, eqN_iff, roomI_iff, nI_def, ssz_def, tN_def, iadd64, isub64, imul64, conv64, conv8, conv32, iadd32, imul32, irem_pos, iquo64, iquo32, imin_l, imin_r, imax_l, imax_r, Bool.not_eq_true', ← Bool.not_eq_true, Bool.not_eq_eq_eq_not, Bool.not_true, Bool.not_false, not_true_eq_false, not_false_eq_true, Bool.false_eq_true, List.length_append, List.length_cons, List.length_nil, List.length_take, List.length_drop, List.length_set, List.length_replicate] <;> omega) | omega)
    have h2 := ih (i + 1) (iadd .i64 v 1) false (by omega) (by omega) (by first | with_reducible rfl | assumption | (simp (disch := omega) only [ltI_iff, eqI_iff, eqS_iff, eqB_iff, inI_iff, leI_iff, capI_iff, isZ_iff, eqN_iff, roomI_iff, nI_def, ssz_def, tN_def, iadd64, isub64, imul64, conv64, conv8, conv32, iadd32, imul32, irem_pos, iquo64, iquo32, imin_l, imin_r, imax_l, imax_r, Bool.not_eq_true', ← Bool.not_eq_true, Bool.not_eq_eq_eq_not, Bool.not_true, Bool.not_false, not_true_eq_false, not_false_eq_true, Bool.false_eq_true, List.length_append, List.length_cons, List.length_nil, List.length_take, List.length_drop, List.length_set, List.length_replicate] <;> omega) | omega)
    rw [P_law07_LockReads_l2_eq, ed]
    cases b with
    | true =>
      repeat (first | refine (if_pos (by first | with_reducible rfl | assumption | (simp (disch := omega) only [ltI_iff, eqI_iff, eqS_iff, eqB_iff, inI_iff, leI_iff, capI_iff, isZ_iff, eqN_iff, roomI_iff, nI_def, ssz_def, tN_def, iadd64, isub64, imul64, conv64, conv8, conv32, iadd32, imul32, irem_pos, iquo64, iquo32, imin_l, imin_r, imax_l, imax_r, Bool.not_eq_true', ← Bool.not_eq_true, Bool.not_eq_eq_eq_not, Bool.not_true, Bool.not_false, not_true_eq_false, not_false_eq_true, Bool.false_eq_true, List.length_append, List.length_cons, List.length_nil, List.length_take, List.length_drop, List.length_set, List.length_replicate] <;> omega) | omega)).trans ?_ | refine (if_neg (by first | with_reducible rfl | assumption | (simp (disch := omega) only [ltI_iff, eqI_iff, eqS_iff, eqB_iff, inI_iff, leI_iff, capI_iff, isZ_iff, eqN_iff, roomI_iff, nI_def, ssz_def, tN_def, iadd64, isub64, imul64, conv64, conv8, conv32, iadd32, imul32, irem_pos, iquo64, iquo32, imin_l, imin_r, imax_l, imax_r, Bool.not_eq_true', ← Bool.not_eq_true, Bool.not_eq_eq_eq_not, Bool.not_true, Bool.not_false, not_true_eq_false, not_false_eq_true, Bool.false_eq_true, List.length_append, List.length_cons, List.length_nil, List.length_take, List.length_drop, List.length_set, List.length_replicate] <;> omega) | omega)).trans ?_ | refine (bnd (geti hv hlt)).trans ?_ | refine Eq.trans (Sum.elim_inl _ _ _) ?_ | refine Eq.trans (Sum.elim_inr _ _ _) ?_)
      rw [h1]; rfl
    | false =>
      repeat (first | refine (if_pos (by first | with_reducible rfl | assumption | (simp (disch := omega) only [ltI_iff, eqI_iff, eqS_iff, eqB_iff, inI_iff, leI_iff, capI_iff, isZ_iff, eqN_iff, roomI_iff, nI_def, ssz_def, tN_def, iadd64, isub64, imul64, conv64, conv8, conv32, iadd32, imul32, irem_pos, iquo64, iquo32, imin_l, imin_r, imax_l, imax_r, Bool.not_eq_true', ← Bool.not_eq_true, Bool.not_eq_eq_eq_not, Bool.not_true, Bool.not_false, not_true_eq_false, not_false_eq_true, Bool.false_eq_true, List.length_append, List.length_cons, List.length_nil, List.length_take, List.length_drop, List.length_set, List.length_replicate] <;> omega) | omega)).trans ?_ | refine (if_neg (by first | with_reducible rfl | assumption | (simp (disch := omega) only [ltI_iff, eqI_iff, eqS_iff, eqB_iff, inI_iff, leI_iff, capI_iff, isZ_iff, eqN_iff, roomI_iff, nI_def, ssz_def, tN_def, iadd64, isub64, imul64, conv64, conv8, conv32, iadd32, imul32, irem_pos, iquo64, iquo32, imin_l, imin_r, imax_l, imax_r, Bool.not_eq_true', ← Bool.not_eq_true, Bool.not_eq_eq_eq_not, Bool.not_true, Bool.not_false, not_true_eq_false, not_false_eq_true, Bool.false_eq_true, List.length_append, List.length_cons, List.length_nil, List.length_take, List.length_drop, List.length_set, List.length_replicate] <;> omega) | omega)).trans ?_ | refine (bnd (geti hv hlt)).trans ?_ | refine Eq.trans (Sum.elim_inl _ _ _) ?_ | refine Eq.trans (Sum.elim_inr _ _ _) ?_)
      rw [h2]; rfl
theorem plain_reads (x1 : List Int) (x2 : Int) (w1 : w_t48 x1) (w2 : w_t5 x2) : P_law07_LockReads x1 x2 = some true := by
  simp only [w_t5] at w2
  have e2 : irem .u8 x2 64 = x2 % 64 := irem_pos (by omega)
  obtain ⟨l, had, q1, hr, hl, hh, hht⟩ := reads_l0 (x1 := x1) (x2 := x2) (fun t ht => w1.2 t ht) w2 100 0 0 [] [] rfl (by omega) rfl ⟨lk_nil, fun _ h => (by cases h), fun t => by simp⟩ (by simp) (by simp) (fun _ h => (by cases h))
  have q2 := reads_l1 hr hl hh _ 0 0 rfl (by omega) rfl
  have hm : mayb (irem .u8 x2 64, 0, true) := by unfold mayb; simp only [e2]; omega
  rw [P_law07_LockReads_eq]
  by_cases hc : Conf l (irem .u8 x2 64) 0 true
  · obtain ⟨c1, _⟩ := take_c hr.1 (by omega) hm hc
    have q3 := reads_l2 (x := (l, had)) (y := (l, 9)) hh _ 0 0 true rfl (by omega) rfl
    obtain ⟨h, hm1, _, ht, _⟩ := hc
    have hin : h.2.1 ∈ had := (hr.2.2 _).1 ⟨h, hm1, rfl⟩
    have e : (true && (had.drop 0).all fun t => eqI t 0) = false := by
      rw [List.drop_zero, Bool.true_and, ← Bool.not_eq_true]
      intro hall
      rw [List.all_eq_true] at hall
      exact ht (eqI_iff.1 (hall _ hin))
    simp only [e] at q3
    have e3 : eqB (eqI 9 0) false = true := rfl
    repeat (first | refine (if_pos (by first | with_reducible rfl | assumption | (simp (disch := omega) only [ltI_iff, eqI_iff, eqS_iff, eqB_iff, inI_iff, leI_iff, capI_iff, isZ_iff, eqN_iff, roomI_iff, nI_def, ssz_def, tN_def, iadd64, isub64, imul64, conv64, conv8, conv32, iadd32, imul32, irem_pos, iquo64, iquo32, imin_l, imin_r, imax_l, imax_r, Bool.not_eq_true', ← Bool.not_eq_true, Bool.not_eq_eq_eq_not, Bool.not_true, Bool.not_false, not_true_eq_false, not_false_eq_true, Bool.false_eq_true, List.length_append, List.length_cons, List.length_nil, List.length_take, List.length_drop, List.length_set, List.length_replicate, e3] <;> omega) | omega)).trans ?_ | refine (if_neg (by first | with_reducible rfl | assumption | (simp (disch := omega) only [ltI_iff, eqI_iff, eqS_iff, eqB_iff, inI_iff, leI_iff, capI_iff, isZ_iff, eqN_iff, roomI_iff, nI_def, ssz_def, tN_def, iadd64, isub64, imul64, conv64, conv8, conv32, iadd32, imul32, irem_pos, iquo64, iquo32, imin_l, imin_r, imax_l, imax_r, Bool.not_eq_true', ← Bool.not_eq_true, Bool.not_eq_eq_eq_not, Bool.not_true, Bool.not_false, not_true_eq_false, not_false_eq_true, Bool.false_eq_true, List.length_append, List.length_cons, List.length_nil, List.length_take, List.length_drop, List.length_set, List.length_replicate, e3] <;> omega) | omega)).trans ?_ | refine (bnd alive_ok).trans ?_ | refine (bnd q1).trans ?_ | refine (bnd q2).trans ?_ | refine (bnd c1).trans ?_ | refine (bnd q3).trans ?_ | refine (bnd (pright_t hr.1 (by omega))).trans ?_ | refine Eq.trans (Sum.elim_inl _ _ _) ?_ | refine Eq.trans (Sum.elim_inr _ _ _) ?_)
    rfl
  · obtain ⟨z, c1, _, c3⟩ := take_t (w := true) hr.1 (by omega) (by rw [e2]; omega) hm hc
    have q3 := reads_l2 (x := (l, had)) (y := (z, 0)) hh _ 0 0 true rfl (by omega) rfl
    have e : (true && (had.drop 0).all fun t => eqI t 0) = true := by
      rw [List.drop_zero, Bool.true_and, List.all_eq_true]
      intro t ht
      obtain ⟨h, hm1, rfl⟩ := (hr.2.2 t).2 ht
      rw [eqI_iff]
      exact Classical.byContradiction fun hne => hc ⟨h, hm1, (hr.2.1 h hm1).1, hne, .inl rfl⟩
    simp only [e] at q3
    have e3 : eqB (eqI 0 0) true = true := rfl
    repeat (first | refine (if_pos (by first | with_reducible rfl | assumption | (simp (disch := omega) only [ltI_iff, eqI_iff, eqS_iff, eqB_iff, inI_iff, leI_iff, capI_iff, isZ_iff, eqN_iff, roomI_iff, nI_def, ssz_def, tN_def, iadd64, isub64, imul64, conv64, conv8, conv32, iadd32, imul32, irem_pos, iquo64, iquo32, imin_l, imin_r, imax_l, imax_r, Bool.not_eq_true', ← Bool.not_eq_true, Bool.not_eq_eq_eq_not, Bool.not_true, Bool.not_false, not_true_eq_false, not_false_eq_true, Bool.false_eq_true, List.length_append, List.length_cons, List.length_nil, List.length_take, List.length_drop, List.length_set, List.length_replicate, e3] <;> omega) | omega)).trans ?_ | refine (if_neg (by first | with_reducible rfl | assumption | (simp (disch := omega) only [ltI_iff, eqI_iff, eqS_iff, eqB_iff, inI_iff, leI_iff, capI_iff, isZ_iff, eqN_iff, roomI_iff, nI_def, ssz_def, tN_def, iadd64, isub64, imul64, conv64, conv8, conv32, iadd32, imul32, irem_pos, iquo64, iquo32, imin_l, imin_r, imax_l, imax_r, Bool.not_eq_true', ← Bool.not_eq_true, Bool.not_eq_eq_eq_not, Bool.not_true, Bool.not_false, not_true_eq_false, not_false_eq_true, Bool.false_eq_true, List.length_append, List.length_cons, List.length_nil, List.length_take, List.length_drop, List.length_set, List.length_replicate, e3] <;> omega) | omega)).trans ?_ | refine (bnd alive_ok).trans ?_ | refine (bnd q1).trans ?_ | refine (bnd q2).trans ?_ | refine (bnd c1).trans ?_ | refine (bnd q3).trans ?_ | refine (bnd (pright_t hr.1 (by omega))).trans ?_ | refine Eq.trans (Sum.elim_inl _ _ _) ?_ | refine Eq.trans (Sum.elim_inr _ _ _) ?_)
    rfl

theorem one_take {k t : Int} {w : Bool} (hk : 0 ≤ k) (hm : mayb (k, t, w)) : P_lock_Take [] t k w = some ([(k, t, w)], 0) := by
  obtain ⟨l', q1, _, q3⟩ := take_t (w := w) lk_nil (by simp) hk hm (fun ⟨h, hh, _⟩ => by cases hh)
  rw [q1]
  rcases q3 with ⟨A, b, R, h, _⟩ | ⟨A, R, h, _, _, rfl⟩
  · have := congrArg List.length h; simp at this
  · have hA := congrArg List.length h
    simp at hA
    have : A = [] ∧ R = [] := by
      constructor
      · exact List.eq_nil_of_length_eq_zero (by omega)
      · exact List.eq_nil_of_length_eq_zero (by omega)
    rw [this.1, this.2]; rfl
theorem plain_writes (x1 x2 x3 : Int) (w1 : w_t53 (x1, x2)) (w2 : w_t5 x3) : P_law07_LockWrites x1 x2 x3 = some true := by
  have hw : (0 ≤ x1 ∧ x1 ≤ 65535) ∧ (0 ≤ x2 ∧ x2 ≤ 65535) := w1
  simp only [w_t5] at w2
  have e1 : irem .i64 (conv .i64 x1) 1000 = x1 % 1000 := by rw [conv64 (by omega), irem_pos (by omega)]
  have e2 : irem .i64 (conv .i64 x2) 1000 = x2 % 1000 := by rw [conv64 (by omega), irem_pos (by omega)]
  have e3 : irem .u8 x3 64 = x3 % 64 := irem_pos (by omega)
  obtain ⟨a, ha⟩ : ∃ a, a = x1 % 1000 := ⟨_, rfl⟩
  obtain ⟨b, hb⟩ : ∃ b, b = x2 % 1000 := ⟨_, rfl⟩
  obtain ⟨k, hk⟩ : ∃ k, k = x3 % 64 := ⟨_, rfl⟩
  have mb : ∀ t w, 0 ≤ t ∧ t < 1000 → mayb (k, t, w) := fun t w h => by unfold mayb; simp only; omega
  have ha0 : 0 ≤ a ∧ a < 1000 := by omega
  have hb0 : 0 ≤ b ∧ b < 1000 := by omega
  have hk0 : 0 ≤ k := by omega
  rw [P_law07_LockWrites_eq, e1, e2, e3, ← ha, ← hb, ← hk]
  have q1 := one_take (w := true) hk0 (mb a true ha0)
  have q5 := one_take (w := true) hk0 (mb b true hb0)
  have hlk : Lk [(k, a, true)] := by
    obtain ⟨l', q1', _, q3⟩ := take_t (w := true) lk_nil (by simp) hk0 (mb a true ha0) (fun ⟨h, hh, _⟩ => by cases hh)
    rw [q1] at q1'
    cases q1'
    exact (q3.lk lk_nil ((mayb_may hk0).1 (mb a true ha0)) (fun ⟨h, hh, _⟩ => by cases hh)).1
  have hfr := free_ok (l := [(k, a, true)]) (by simp) a
  have hfe : freeL [(k, a, true)] a = [] := by simp [freeL]
  rw [hfe] at hfr
  by_cases hab : a = b
  · subst hab
    have hnc : ∀ w, ¬ Conf [(k, a, true)] k a w := fun w ⟨h, hm, _, ht, _⟩ => by
      rw [List.mem_singleton] at hm; subst hm; exact ht rfl
    obtain ⟨z1, c1, _⟩ := take_t (w := false) hlk (by simp) hk0 (mb a false ha0) (hnc false)
    obtain ⟨z2, c2, _⟩ := take_t (w := true) hlk (by simp) hk0 (mb a true ha0) (hnc true)
    repeat (first | refine (if_pos (by first | with_reducible rfl | assumption | (simp (disch := omega) only [ltI_iff, eqI_iff, eqS_iff, eqB_iff, inI_iff, leI_iff, capI_iff, isZ_iff, eqN_iff, roomI_iff, nI_def, ssz_def, tN_def, iadd64, isub64, imul64, conv64, conv8, conv32, iadd32, imul32, irem_pos, iquo64, iquo32, imin_l, imin_r, imax_l, imax_r, Bool.not_eq_true', ← Bool.not_eq_true, Bool.not_eq_eq_eq_not, Bool.not_true, Bool.not_false, not_true_eq_false, not_false_eq_true, Bool.false_eq_true, List.length_append, List.length_cons, List.length_nil, List.length_take, List.length_drop, List.length_set, List.length_replicate] <;> omega) | omega)).trans ?_ | refine (if_neg (by first | with_reducible rfl | assumption | (simp (disch := omega) only [ltI_iff, eqI_iff, eqS_iff, eqB_iff, inI_iff, leI_iff, capI_iff, isZ_iff, eqN_iff, roomI_iff, nI_def, ssz_def, tN_def, iadd64, isub64, imul64, conv64, conv8, conv32, iadd32, imul32, irem_pos, iquo64, iquo32, imin_l, imin_r, imax_l, imax_r, Bool.not_eq_true', ← Bool.not_eq_true, Bool.not_eq_eq_eq_not, Bool.not_true, Bool.not_false, not_true_eq_false, not_false_eq_true, Bool.false_eq_true, List.length_append, List.length_cons, List.length_nil, List.length_take, List.length_drop, List.length_set, List.length_replicate] <;> omega) | omega)).trans ?_ | refine (bnd alive_ok).trans ?_ | refine (bnd q1).trans ?_ | refine (bnd c1).trans ?_ | refine (bnd c2).trans ?_ | refine (bnd hfr).trans ?_ | refine (bnd q5).trans ?_ | refine Eq.trans (Sum.elim_inl _ _ _) ?_ | refine Eq.trans (Sum.elim_inr _ _ _) ?_)
    rfl
  · have hcf : ∀ w, Conf [(k, a, true)] k b w := fun w => ⟨(k, a, true), by simp, rfl, hab, .inr rfl⟩
    obtain ⟨c1, _⟩ := take_c (w := false) hlk (by simp) (mb b false hb0) (hcf false)
    obtain ⟨c2, _⟩ := take_c (w := true) hlk (by simp) (mb b true hb0) (hcf true)
    repeat (first | refine (if_pos (by first | with_reducible rfl | assumption | (simp (disch := omega) only [ltI_iff, eqI_iff, eqS_iff, eqB_iff, inI_iff, leI_iff, capI_iff, isZ_iff, eqN_iff, roomI_iff, nI_def, ssz_def, tN_def, iadd64, isub64, imul64, conv64, conv8, conv32, iadd32, imul32, irem_pos, iquo64, iquo32, imin_l, imin_r, imax_l, imax_r, Bool.not_eq_true', ← Bool.not_eq_true, Bool.not_eq_eq_eq_not, Bool.not_true, Bool.not_false, not_true_eq_false, not_false_eq_true, Bool.false_eq_true, List.length_append, List.length_cons, List.length_nil, List.length_take, List.length_drop, List.length_set, List.length_replicate] <;> omega) | omega)).trans ?_ | refine (if_neg (by first | with_reducible rfl | assumption | (simp (disch := omega) only [ltI_iff, eqI_iff, eqS_iff, eqB_iff, inI_iff, leI_iff, capI_iff, isZ_iff, eqN_iff, roomI_iff, nI_def, ssz_def, tN_def, iadd64, isub64, imul64, conv64, conv8, conv32, iadd32, imul32, irem_pos, iquo64, iquo32, imin_l, imin_r, imax_l, imax_r, Bool.not_eq_true', ← Bool.not_eq_true, Bool.not_eq_eq_eq_not, Bool.not_true, Bool.not_false, not_true_eq_false, not_false_eq_true, Bool.false_eq_true, List.length_append, List.length_cons, List.length_nil, List.length_take, List.length_drop, List.length_set, List.length_replicate] <;> omega) | omega)).trans ?_ | refine (bnd alive_ok).trans ?_ | refine (bnd q1).trans ?_ | refine (bnd c1).trans ?_ | refine (bnd c2).trans ?_ | refine (bnd hfr).trans ?_ | refine (bnd q5).trans ?_ | refine Eq.trans (Sum.elim_inl _ _ _) ?_ | refine Eq.trans (Sum.elim_inr _ _ _) ?_)
    rfl
end Go.Ws
