/-
  PartCalls, PartRow, PartStays, plainly.
  Conditions: none.
-/
import Derived.Test.YtnokdedppgmliaaZPart
set_option linter.unusedVariables false
set_option linter.unusedSimpArgs false
namespace Go.Ws
set_option linter.unusedVariables false
set_option linter.unusedSimpArgs false
set_option maxHeartbeats 1000000

theorem deltas_any_l0 {x y : List (Int × Int)} (hl : x.length ≤ 100000) (hxy : x.length = y.length) : ∀ (d i : Nat) (v : Int), v = (i : Int) → x.length - i = d → i ≤ x.length → ∃ r, P_ref09_Deltas_l0 x y v = some r ∧ (r = .inl () ∨ r = .inr false) := by
  intro d
  induction d with
  | zero =>
    intro i v hv hd hi
    refine ⟨.inl (), ?_, .inl rfl⟩
    rw [P_ref09_Deltas_l0_eq]
    repeat (first | refine (if_pos (by first | with_reducible rfl | assumption | (simp (disch := omega) only [ltI_iff, eqI_iff, eqS_iff, eqB_iff, inI_iff, leI_iff, capI_iff, isZ_iff, eqN_iff, roomI_iff, nI_def, ssz_def, tN_def, iadd64, isub64, imul64, conv64, conv8, conv32, iadd32, imul32, irem_pos, iquo64, iquo32, imin_l, imin_r, imax_l, imax_r, Bool.not_eq_true', ← Bool.not_eq_true, Bool.not_eq_eq_eq_not, Bool.not_true, Bool.not_false, not_true_eq_false, not_false_eq_true, Bool.false_eq_true, List.length_append, List.length_cons, List.length_nil, List.length_take, List.length_drop, List.length_set, List.length_replicate] <;> omega) | omega)).trans ?_ | refine (if_neg (by first | with_reducible rfl | assumption | (simp (disch := omega) only [ltI_iff, eqI_iff, eqS_iff, eqB_iff, inI_iff, leI_iff, capI_iff, isZ_iff, eqN_iff, roomI_iff, nI_def, ssz_def, tN_def, iadd64, isub64, imul64, conv64, conv8, conv32, iadd32, imul32, irem_pos, iquo64, iquo32, imin_l, imin_r, imax_l, imax_r, Bool.not_eq_true', ← Bool.not_eq_true, Bool.not_eq_eq_eq_not, Bool.not_true, Bool.not_false, not_true_eq_false, not_false_eq_true, Bool.false_eq_true, List.length_append, List.length_cons, List.length_nil, List.length_take, List.length_drop, List.length_set, List.length_replicate] <;> omega) | omega)).trans ?_ | refine Eq.trans (Sum.elim_inl _ _ _) ?_ | refine Eq.trans (Sum.elim_inr _ _ _) ?_)
    rfl
  | succ d ih =>
    intro i v hv hd hi
    obtain ⟨r, q, hr⟩ := ih (i + 1) (iadd .i64 v 1) (by first | with_reducible rfl | assumption | (simp (disch := omega) only [ltI_iff, eqI_iff, eqS_iff, eqB_iff, inI_iff, leI_iff, capI_iff, isZ_iff, eqN_iff, roomI_iff, nI_def, ssz_def, tN_def, iadd64, isub64, imul64, conv64, conv8, conv32, iadd32, imul32, irem_pos, iquo64, iquo32, imin_l, imin_r, imax_l, imax_r, Bool.not_eq_true', ← Bool.not_eq_true, Bool.not_eq_eq_eq_not, Bool.not_true, Bool.not_false, not_true_eq_false, not_false_eq_true, Bool.false_eq_true, List.length_append, List.length_cons, List.length_nil, List.length_take, List.length_drop, List.length_set, List.length_replicate] <;> omega) | omega) (by omega) (by omega)
    by_cases h1 : (x[i]'(by omega)).1 = (y[i]'(by omega)).1
    · by_cases h2 : (x[i]'(by omega)).2 = (y[i]'(by omega)).2
      · refine ⟨r, ?_, hr⟩
        rw [P_ref09_Deltas_l0_eq]
        repeat (first | refine (if_pos (by first | with_reducible rfl | assumption | (simp (disch := omega) only [ltI_iff, eqI_iff, eqS_iff, eqB_iff, inI_iff, leI_iff, capI_iff, isZ_iff, eqN_iff, roomI_iff, nI_def, ssz_def, tN_def, iadd64, isub64, imul64, conv64, conv8, conv32, iadd32, imul32, irem_pos, iquo64, iquo32, imin_l, imin_r, imax_l, imax_r, Bool.not_eq_true', ← Bool.not_eq_true, Bool.not_eq_eq_eq_not, Bool.not_true, Bool.not_false, not_true_eq_false, not_false_eq_true, Bool.false_eq_true, List.length_append, List.length_cons, List.length_nil, List.length_take, List.length_drop, List.length_set, List.length_replicate] <;> omega) | omega)).trans ?_ | refine (if_neg (by first | with_reducible rfl | assumption | (simp (disch := omega) only [ltI_iff, eqI_iff, eqS_iff, eqB_iff, inI_iff, leI_iff, capI_iff, isZ_iff, eqN_iff, roomI_iff, nI_def, ssz_def, tN_def, iadd64, isub64, imul64, conv64, conv8, conv32, iadd32, imul32, irem_pos, iquo64, iquo32, imin_l, imin_r, imax_l, imax_r, Bool.not_eq_true', ← Bool.not_eq_true, Bool.not_eq_eq_eq_not, Bool.not_true, Bool.not_false, not_true_eq_false, not_false_eq_true, Bool.false_eq_true, List.length_append, List.length_cons, List.length_nil, List.length_take, List.length_drop, List.length_set, List.length_replicate] <;> omega) | omega)).trans ?_ | refine (bnd (geti (l := x) hv (by omega))).trans ?_ | refine (bnd (geti (l := y) hv (by omega))).trans ?_ | refine Eq.trans (Sum.elim_inl _ _ _) ?_ | refine Eq.trans (Sum.elim_inr _ _ _) ?_)
        exact q
      · refine ⟨_, ?_, .inr rfl⟩
        rw [P_ref09_Deltas_l0_eq]
        repeat (first | refine (if_pos (by first | with_reducible rfl | assumption | (simp (disch := omega) only [ltI_iff, eqI_iff, eqS_iff, eqB_iff, inI_iff, leI_iff, capI_iff, isZ_iff, eqN_iff, roomI_iff, nI_def, ssz_def, tN_def, iadd64, isub64, imul64, conv64, conv8, conv32, iadd32, imul32, irem_pos, iquo64, iquo32, imin_l, imin_r, imax_l, imax_r, Bool.not_eq_true', ← Bool.not_eq_true, Bool.not_eq_eq_eq_not, Bool.not_true, Bool.not_false, not_true_eq_false, not_false_eq_true, Bool.false_eq_true, List.length_append, List.length_cons, List.length_nil, List.length_take, List.length_drop, List.length_set, List.length_replicate] <;> omega) | omega)).trans ?_ | refine (if_neg (by first | with_reducible rfl | assumption | (simp (disch := omega) only [ltI_iff, eqI_iff, eqS_iff, eqB_iff, inI_iff, leI_iff, capI_iff, isZ_iff, eqN_iff, roomI_iff, nI_def, ssz_def, tN_def, iadd64, isub64, imul64, conv64, conv8, conv32, iadd32, imul32, irem_pos, iquo64, iquo32, imin_l, imin_r, imax_l, imax_r, Bool.not_eq_true', ← Bool.not_eq_true, Bool.not_eq_eq_eq_not, Bool.not_true, Bool.not_false, not_true_eq_false, not_false_eq_true, Bool.false_eq_true, List.length_append, List.length_cons, List.length_nil, List.length_take, List.length_drop, List.length_set, List.length_replicate] <;> omega) | omega)).trans ?_ | refine (bnd (geti (l := x) hv (by omega))).trans ?_ | refine (bnd (geti (l := y) hv (by omega))).trans ?_ | refine Eq.trans (Sum.elim_inl _ _ _) ?_ | refine Eq.trans (Sum.elim_inr _ _ _) ?_)
        rfl
    · refine ⟨_, ?_, .inr rfl⟩
      rw [P_ref09_Deltas_l0_eq]
      repeat (first | refine (if_pos (by first | with_reducible rfl | assumption | (simp (disch := omega) only [ltI_iff, eqI_iff, eqS_iff, eqB_iff, inI_iff, leI_iff, capI_iff, isZ_iff, eqN_iff, roomI_iff, nI_def, ssz_def, tN_def, iadd64, isub64, imul64, conv64, conv8, conv32, iadd32, imul32, irem_pos, iquo64, iquo32, imin_l, imin_r, imax_l, imax_r, Bool.not_eq_true', ← Bool.not_eq_true, Bool.not_eq_eq_eq_not, Bool.not_true, Bool.not_false, not_true_eq_false, not_false_eq_true, Bool.false_eq_true, List.length_append, List.length_cons, List.length_nil, List.length_take, List.length_drop, List.length_set, List.length_replicate] <;> omega) | omega)).trans ?_ | refine (if_neg (by first | with_reducible rfl | assumption | (simp (disch := omega) only [ltI_iff, eqI_iff, eqS_iff, eqB_iff, inI_iff, leI_iff, capI_iff, isZ_iff, eqN_iff, roomI_iff, nI_def, ssz_def, tN_def, iadd64, isub64, imul64, conv64, conv8, conv32, iadd32, imul32, irem_pos, iquo64, iquo32, imin_l, imin_r, imax_l, imax_r, Bool.not_eq_true', ← Bool.not_eq_true, Bool.not_eq_eq_eq_not, Bool.not_true, Bool.not_false, not_true_eq_false, not_false_eq_true, Bool.false_eq_true, List.length_append, List.length_cons, List.length_nil, List.length_take, List.length_drop, List.length_set, List.length_replicate] <;> omega) | omega)).trans ?_ | refine (bnd (geti (l := x) hv (by omega))).trans ?_ | refine (bnd (geti (l := y) hv (by omega))).trans ?_ | refine Eq.trans (Sum.elim_inl _ _ _) ?_ | refine Eq.trans (Sum.elim_inr _ _ _) ?_)
      rfl
theorem deltas_any {x y : List (Int × Int)} (hl : x.length ≤ 100000) (hy : y.length ≤ 100000) : ∃ r, P_ref09_Deltas x y = some r := by
  by_cases h : x.length = y.length
  · obtain ⟨r, q, hr⟩ := deltas_any_l0 hl h _ 0 0 rfl rfl (by omega)
    rcases hr with rfl | rfl
    · refine ⟨true, ?_⟩
      rw [P_ref09_Deltas_eq]
      repeat (first | refine (if_pos (by first | with_reducible rfl | assumption | (simp (disch := omega) only [ltI_iff, eqI_iff, eqS_iff, eqB_iff, inI_iff, leI_iff, capI_iff, isZ_iff, eqN_iff, roomI_iff, nI_def, ssz_def, tN_def, iadd64, isub64, imul64, conv64, conv8, conv32, iadd32, imul32, irem_pos, iquo64, iquo32, imin_l, imin_r, imax_l, imax_r, Bool.not_eq_true', ← Bool.not_eq_true, Bool.not_eq_eq_eq_not, Bool.not_true, Bool.not_false, not_true_eq_false, not_false_eq_true, Bool.false_eq_true, List.length_append, List.length_cons, List.length_nil, List.length_take, List.length_drop, List.length_set, List.length_replicate] <;> omega) | omega)).trans ?_ | refine (if_neg (by first | with_reducible rfl | assumption | (simp (disch := omega) only [ltI_iff, eqI_iff, eqS_iff, eqB_iff, inI_iff, leI_iff, capI_iff, isZ_iff, eqN_iff, roomI_iff, nI_def, ssz_def, tN_def, iadd64, isub64, imul64, conv64, conv8, conv32, iadd32, imul32, irem_pos, iquo64, iquo32, imin_l, imin_r, imax_l, imax_r, Bool.not_eq_true', ← Bool.not_eq_true, Bool.not_eq_eq_eq_not, Bool.not_true, Bool.not_false, not_true_eq_false, not_false_eq_true, Bool.false_eq_true, List.length_append, List.length_cons, List.length_nil, List.length_take, List.length_drop, List.length_set, List.length_replicate] <;> omega) | omega)).trans ?_ | refine (bnd q).trans ?_ | refine Eq.trans (Sum.elim_inl _ _ _) ?_ | refine Eq.trans (Sum.elim_inr _ _ _) ?_)
      rfl
    · refine ⟨false, ?_⟩
      rw [P_ref09_Deltas_eq]
      repeat (first | refine (if_pos (by first | with_reducible rfl | assumption | (simp (disch := omega) only [ltI_iff, eqI_iff, eqS_iff, eqB_iff, inI_iff, leI_iff, capI_iff, isZ_iff, eqN_iff, roomI_iff, nI_def, ssz_def, tN_def, iadd64, isub64, imul64, conv64, conv8, conv32, iadd32, imul32, irem_pos, iquo64, iquo32, imin_l, imin_r, imax_l, imax_r, Bool.not_eq_true', ← Bool.not_eq_true, Bool.not_eq_eq_eq_not, Bool.not_true, Bool.not_false, not_true_eq_false, not_false_eq_true, Bool.false_eq_true, List.length_append, List.length_cons, List.length_nil, List.length_take, List.length_drop, List.length_set, List.length_replicate] <;> omega) | omega)).trans ?_ | refine (if_neg (by first | with_reducible rfl | assumption | (simp (disch := omega) only [ltI_iff, eqI_iff, eqS_iff, eqB_iff, inI_iff, leI_iff, capI_iff, isZ_iff, eqN_iff, roomI_iff, nI_def, ssz_def, tN_def, iadd64, isub64, imul64, conv64, conv8, conv32, iadd32, imul32, irem_pos, iquo64, iquo32, imin_l, imin_r, imax_l, imax_r, Bool.not_eq_true', ← Bool.not_eq_true, Bool.not_eq_eq_eq_not, Bool.not_true, Bool.not_false, not_true_eq_false, not_false_eq_true, Bool.false_eq_true, List.length_append, List.length_cons, List.length_nil, List.length_take, List.length_drop, List.length_set, List.length_replicate] <;> omega) | omega)).trans ?_ | refine (bnd q).trans ?_ | refine Eq.trans (Sum.elim_inl _ _ _) ?_ | refine Eq.trans (Sum.elim_inr _ _ _) ?_)
      rfl
  · refine ⟨false, ?_⟩
    rw [P_ref09_Deltas_eq]
    repeat (first | refine (if_pos (by first | with_reducible rfl | assumption | (simp (disch := omega) only [ltI_iff, eqI_iff, eqS_iff, eqB_iff, inI_iff, leI_iff, capI_iff, isZ_iff, eqN_iff, roomI_iff, nI_def, ssz_def, tN_def, iadd64, isub64, imul64, conv64, conv8, conv32, iadd32, imul32, irem_pos, iquo64, iquo32, imin_l, imin_r, imax_l, imax_r, Bool.not_eq_true', ← Bool.not_eq_true, Bool.not_eq_eq_eq_not, Bool.not_true, Bool.not_false, not_true_eq_false, not_false_eq_true, Bool.false_eq_true, List.length_append, List.length_cons, List.length_nil, List.length_take, List.length_drop, List.length_set, List.length_replicate] <;> omega) | omega)).trans ?_ | refine (if_neg (by first | with_reducible rfl | assumption | (simp (disch := omega) only [ltI_iff, eqI_iff, eqS_iff, eqB_iff, inI_iff, leI_iff, capI_iff, isZ_iff, eqN_iff, roomI_iff, nI_def, ssz_def, tN_def, iadd64, isub64, imul64, conv64, conv8, conv32, iadd32, imul32, irem_pos, iquo64, iquo32, imin_l, imin_r, imax_l, imax_r, Bool.not_eq_true', ← Bool.not_eq_true, Bool.not_eq_eq_eq_not, Bool.not_true, Bool.not_false, not_true_eq_false, not_false_eq_true, Bool.false_eq_true, List.length_append, List.length_cons, List.length_nil, List.length_take, List.length_drop, List.length_set, List.length_replicate] <;> omega) | omega)).trans ?_ | refine Eq.trans (Sum.elim_inl _ _ _) ?_ | refine Eq.trans (Sum.elim_inr _ _ _) ?_)
    rfl

/-- What a call makes of a part; d: what it changes. -/
def St9 (s : Int) (l : List (Int × Int)) (c : Bool) (o : Int) (s' : Int) (l' : List (Int × Int)) (c' : Bool) (o' : Int) (d : List (Int × Int)) : Prop :=
  (l' = l ∧ c' = c ∧ o' = o ∧ d = [] ∧ ((Rt s l c o ∧ s = 0 ∧ (s' = 1 ∨ s' = 2)) ∨ s' = s)) ∨
  (s' = s ∧ l' = l ∧ o' = o ∧ Rt s l c o ∧ s = 1 ∧ c = false ∧ c' = true ∧ d = l) ∨
  (l' = l ∧ c' = c ∧ s' = 3 ∧ Rt s l c o ∧ (o' = 1 ∨ o' = 2) ∧ s ≠ 3 ∧ (o' = 1 → s = 1) ∧ d = dec l c o') ∨
  (s' = s ∧ c' = c ∧ o' = o ∧ d = [] ∧ Rt s l c o ∧ s = 0 ∧ l.length < 50 ∧ ∃ k b, k < 64 ∧ l' = l ++ [(k, b)])
section
variable {s : Int} {l : List (Int × Int)} {c : Bool} {o : Int}
theorem dec_len (w : Int) : (dec l c w).length ≤ l.length := by
  unfold dec
  split
  · split <;> simp
  · split
    · rw [oppL_len]; exact Nat.le_refl _
    · simp
/-- A call of both, of the same part. -/
theorem does_same (hl : l.length ≤ 1000) (kd k b : Int) (y : Bool) (w : Int) : ∃ s' l' c' o' d, P_law09_does s l c o s l c o kd k b y w = some (s', l', c', o', s', l', c', o', d, true) ∧ St9 s l c o s' l' c' o' d := by
  by_cases h25 : irem .u8 kd 6 = 2 ∨ irem .u8 kd 6 = 5
  · have key : ∀ y' : Bool, ∃ s', (∃ e, P_part_Vote s l c o y' = some (s', l, c, o, e) ∧ P_ref09_Vote s l c o y' = some (s', l, c, o, e)) ∧ St9 s l c o s' l c o [] := by
      intro y'
      obtain ⟨s', e, q1, q2, q3⟩ := vote_any (s := s) (c := c) (o := o) hl y'
      refine ⟨s', ⟨e, q1, q2⟩, .inl ⟨rfl, rfl, rfl, rfl, ?_⟩⟩
      rcases q3 with ⟨_, hr, hs, h⟩ | ⟨_, h, _⟩
      · left
        refine ⟨hr, hs, ?_⟩
        rw [h]; cases y' <;> simp
      · exact .inr h
    obtain ⟨y', hy'⟩ : ∃ y' : Bool, y' = (if y then true else eqI (irem .u8 kd 6) 5) := ⟨_, rfl⟩
    obtain ⟨s', ⟨e, q1, q2⟩, q3⟩ := key y'
    refine ⟨s', l, c, o, [], ?_, q3⟩
    rw [P_law09_does_eq]
    cases y with
    | true =>
      rw [if_pos rfl] at hy'
      subst hy'
      rcases h25 with h | h
      · repeat (first | refine (if_pos (by first | with_reducible rfl | assumption | (simp (disch := omega) only [ltI_iff, eqI_iff, eqS_iff, eqB_iff, inI_iff, leI_iff, capI_iff, isZ_iff, eqN_iff, roomI_iff, nI_def, ssz_def, tN_def, iadd64, isub64, imul64, conv64, conv8, conv32, iadd32, imul32, irem_pos, iquo64, iquo32, imin_l, imin_r, imax_l, imax_r, Bool.not_eq_true', ← Bool.not_eq_true, Bool.not_eq_eq_eq_not, Bool.not_true, Bool.not_false, not_true_eq_false, not_false_eq_true, Bool.false_eq_true, List.length_append, List.length_cons, List.length_nil, List.length_take, List.length_drop, List.length_set, List.length_replicate, h] <;> omega) | omega)).trans ?_ | refine (if_neg (by first | with_reducible rfl | assumption | (simp (disch := omega) only [ltI_iff, eqI_iff, eqS_iff, eqB_iff, inI_iff, leI_iff, capI_iff, isZ_iff, eqN_iff, roomI_iff, nI_def, ssz_def, tN_def, iadd64, isub64, imul64, conv64, conv8, conv32, iadd32, imul32, irem_pos, iquo64, iquo32, imin_l, imin_r, imax_l, imax_r, Bool.not_eq_true', ← Bool.not_eq_true, Bool.not_eq_eq_eq_not, Bool.not_true, Bool.not_false, not_true_eq_false, not_false_eq_true, Bool.false_eq_true, List.length_append, List.length_cons, List.length_nil, List.length_take, List.length_drop, List.length_set, List.length_replicate, h] <;> omega) | omega)).trans ?_ | refine (bnd q1).trans ?_ | refine (bnd q2).trans ?_ | refine Eq.trans (Sum.elim_inl _ _ _) ?_ | refine Eq.trans (Sum.elim_inr _ _ _) ?_)
        rw [eqI_self]
      · repeat (first | refine (if_pos (by first | with_reducible rfl | assumption | (simp (disch := omega) only [ltI_iff, eqI_iff, eqS_iff, eqB_iff, inI_iff, leI_iff, capI_iff, isZ_iff, eqN_iff, roomI_iff, nI_def, ssz_def, tN_def, iadd64, isub64, imul64, conv64, conv8, conv32, iadd32, imul32, irem_pos, iquo64, iquo32, imin_l, imin_r, imax_l, imax_r, Bool.not_eq_true', ← Bool.not_eq_true, Bool.not_eq_eq_eq_not, Bool.not_true, Bool.not_false, not_true_eq_false, not_false_eq_true, Bool.false_eq_true, List.length_append, List.length_cons, List.length_nil, List.length_take, List.length_drop, List.length_set, List.length_replicate, h] <;> omega) | omega)).trans ?_ | refine (if_neg (by first | with_reducible rfl | assumption | (simp (disch := omega) only [ltI_iff, eqI_iff, eqS_iff, eqB_iff, inI_iff, leI_iff, capI_iff, isZ_iff, eqN_iff, roomI_iff, nI_def, ssz_def, tN_def, iadd64, isub64, imul64, conv64, conv8, conv32, iadd32, imul32, irem_pos, iquo64, iquo32, imin_l, imin_r, imax_l, imax_r, Bool.not_eq_true', ← Bool.not_eq_true, Bool.not_eq_eq_eq_not, Bool.not_true, Bool.not_false, not_true_eq_false, not_false_eq_true, Bool.false_eq_true, List.length_append, List.length_cons, List.length_nil, List.length_take, List.length_drop, List.length_set, List.length_replicate, h] <;> omega) | omega)).trans ?_ | refine (bnd q1).trans ?_ | refine (bnd q2).trans ?_ | refine Eq.trans (Sum.elim_inl _ _ _) ?_ | refine Eq.trans (Sum.elim_inr _ _ _) ?_)
        rw [eqI_self]
    | false =>
      rw [if_neg (by simp)] at hy'
      subst hy'
      rcases h25 with h | h
      · repeat (first | refine (if_pos (by first | with_reducible rfl | assumption | (simp (disch := omega) only [ltI_iff, eqI_iff, eqS_iff, eqB_iff, inI_iff, leI_iff, capI_iff, isZ_iff, eqN_iff, roomI_iff, nI_def, ssz_def, tN_def, iadd64, isub64, imul64, conv64, conv8, conv32, iadd32, imul32, irem_pos, iquo64, iquo32, imin_l, imin_r, imax_l, imax_r, Bool.not_eq_true', ← Bool.not_eq_true, Bool.not_eq_eq_eq_not, Bool.not_true, Bool.not_false, not_true_eq_false, not_false_eq_true, Bool.false_eq_true, List.length_append, List.length_cons, List.length_nil, List.length_take, List.length_drop, List.length_set, List.length_replicate, h] <;> omega) | omega)).trans ?_ | refine (if_neg (by first | with_reducible rfl | assumption | (simp (disch := omega) only [ltI_iff, eqI_iff, eqS_iff, eqB_iff, inI_iff, leI_iff, capI_iff, isZ_iff, eqN_iff, roomI_iff, nI_def, ssz_def, tN_def, iadd64, isub64, imul64, conv64, conv8, conv32, iadd32, imul32, irem_pos, iquo64, iquo32, imin_l, imin_r, imax_l, imax_r, Bool.not_eq_true', ← Bool.not_eq_true, Bool.not_eq_eq_eq_not, Bool.not_true, Bool.not_false, not_true_eq_false, not_false_eq_true, Bool.false_eq_true, List.length_append, List.length_cons, List.length_nil, List.length_take, List.length_drop, List.length_set, List.length_replicate, h] <;> omega) | omega)).trans ?_ | refine (bnd q1).trans ?_ | refine (bnd q2).trans ?_ | refine Eq.trans (Sum.elim_inl _ _ _) ?_ | refine Eq.trans (Sum.elim_inr _ _ _) ?_)
        rw [eqI_self]
      · repeat (first | refine (if_pos (by first | with_reducible rfl | assumption | (simp (disch := omega) only [ltI_iff, eqI_iff, eqS_iff, eqB_iff, inI_iff, leI_iff, capI_iff, isZ_iff, eqN_iff, roomI_iff, nI_def, ssz_def, tN_def, iadd64, isub64, imul64, conv64, conv8, conv32, iadd32, imul32, irem_pos, iquo64, iquo32, imin_l, imin_r, imax_l, imax_r, Bool.not_eq_true', ← Bool.not_eq_true, Bool.not_eq_eq_eq_not, Bool.not_true, Bool.not_false, not_true_eq_false, not_false_eq_true, Bool.false_eq_true, List.length_append, List.length_cons, List.length_nil, List.length_take, List.length_drop, List.length_set, List.length_replicate, h] <;> omega) | omega)).trans ?_ | refine (if_neg (by first | with_reducible rfl | assumption | (simp (disch := omega) only [ltI_iff, eqI_iff, eqS_iff, eqB_iff, inI_iff, leI_iff, capI_iff, isZ_iff, eqN_iff, roomI_iff, nI_def, ssz_def, tN_def, iadd64, isub64, imul64, conv64, conv8, conv32, iadd32, imul32, irem_pos, iquo64, iquo32, imin_l, imin_r, imax_l, imax_r, Bool.not_eq_true', ← Bool.not_eq_true, Bool.not_eq_eq_eq_not, Bool.not_true, Bool.not_false, not_true_eq_false, not_false_eq_true, Bool.false_eq_true, List.length_append, List.length_cons, List.length_nil, List.length_take, List.length_drop, List.length_set, List.length_replicate, h] <;> omega) | omega)).trans ?_ | refine (bnd q1).trans ?_ | refine (bnd q2).trans ?_ | refine Eq.trans (Sum.elim_inl _ _ _) ?_ | refine Eq.trans (Sum.elim_inr _ _ _) ?_)
        rw [eqI_self]
  have h2 : irem .u8 kd 6 ≠ 2 := fun h => h25 (.inl h)
  have h5 : irem .u8 kd 6 ≠ 5 := fun h => h25 (.inr h)
  by_cases h3 : irem .u8 kd 6 = 3
  · obtain ⟨c', d, e, q1, q2, q3⟩ := local_any (s := s) (c := c) (o := o) hl
    have hst : St9 s l c o s l c' o d := by
      rcases q3 with ⟨_, hr, hs, hc, hc', hd⟩ | ⟨_, hc', hd, _⟩
      · exact .inr (.inl ⟨rfl, rfl, rfl, hr, hs, hc, hc', hd⟩)
      · exact .inl ⟨rfl, hc', rfl, hd, .inr rfl⟩
    have hdl : d.length ≤ 100000 := by
      rcases q3 with ⟨_, _, _, _, _, hd⟩ | ⟨_, _, hd, _⟩
      · rw [hd]; omega
      · rw [hd]; simp
    refine ⟨s, l, c', o, d, ?_, hst⟩
    rw [P_law09_does_eq]
    repeat (first | refine (if_pos (by first | with_reducible rfl | assumption | (simp (disch := omega) only [ltI_iff, eqI_iff, eqS_iff, eqB_iff, inI_iff, leI_iff, capI_iff, isZ_iff, eqN_iff, roomI_iff, nI_def, ssz_def, tN_def, iadd64, isub64, imul64, conv64, conv8, conv32, iadd32, imul32, irem_pos, iquo64, iquo32, imin_l, imin_r, imax_l, imax_r, Bool.not_eq_true', ← Bool.not_eq_true, Bool.not_eq_eq_eq_not, Bool.not_true, Bool.not_false, not_true_eq_false, not_false_eq_true, Bool.false_eq_true, List.length_append, List.length_cons, List.length_nil, List.length_take, List.length_drop, List.length_set, List.length_replicate, h2, h5, h3] <;> omega) | omega)).trans ?_ | refine (if_neg (by first | with_reducible rfl | assumption | (simp (disch := omega) only [ltI_iff, eqI_iff, eqS_iff, eqB_iff, inI_iff, leI_iff, capI_iff, isZ_iff, eqN_iff, roomI_iff, nI_def, ssz_def, tN_def, iadd64, isub64, imul64, conv64, conv8, conv32, iadd32, imul32, irem_pos, iquo64, iquo32, imin_l, imin_r, imax_l, imax_r, Bool.not_eq_true', ← Bool.not_eq_true, Bool.not_eq_eq_eq_not, Bool.not_true, Bool.not_false, not_true_eq_false, not_false_eq_true, Bool.false_eq_true, List.length_append, List.length_cons, List.length_nil, List.length_take, List.length_drop, List.length_set, List.length_replicate, h2, h5, h3] <;> omega) | omega)).trans ?_ | refine (bnd q1).trans ?_ | refine (bnd q2).trans ?_ | refine (bnd (deltas_ok rfl hdl)).trans ?_ | refine Eq.trans (Sum.elim_inl _ _ _) ?_ | refine Eq.trans (Sum.elim_inr _ _ _) ?_)
    rfl
  by_cases h4 : irem .u8 kd 6 = 4
  · obtain ⟨s', o', d, e, q1, q2, q3⟩ := decide_any (s := s) (c := c) (o := o) hl w
    have hst : St9 s l c o s' l c o' d := by
      rcases q3 with ⟨_, hr, hw, hs, hw1, hs', ho', hd⟩ | ⟨hs', ho', hd, _⟩
      · refine .inr (.inr (.inl ⟨rfl, rfl, hs', hr, by rw [ho']; exact hw, hs, fun h => hw1 (by rw [← ho']; exact h), by rw [hd, ho']⟩))
      · exact .inl ⟨rfl, rfl, ho', hd, .inr hs'⟩
    have hdl : d.length ≤ 100000 := by
      rcases q3 with ⟨_, _, _, _, _, _, _, hd⟩ | ⟨_, _, hd, _⟩
      · rw [hd]; have := dec_len (l := l) (c := c) w; omega
      · rw [hd]; simp
    refine ⟨s', l, c, o', d, ?_, hst⟩
    rw [P_law09_does_eq]
    repeat (first | refine (if_pos (by first | with_reducible rfl | assumption | (simp (disch := omega) only [ltI_iff, eqI_iff, eqS_iff, eqB_iff, inI_iff, leI_iff, capI_iff, isZ_iff, eqN_iff, roomI_iff, nI_def, ssz_def, tN_def, iadd64, isub64, imul64, conv64, conv8, conv32, iadd32, imul32, irem_pos, iquo64, iquo32, imin_l, imin_r, imax_l, imax_r, Bool.not_eq_true', ← Bool.not_eq_true, Bool.not_eq_eq_eq_not, Bool.not_true, Bool.not_false, not_true_eq_false, not_false_eq_true, Bool.false_eq_true, List.length_append, List.length_cons, List.length_nil, List.length_take, List.length_drop, List.length_set, List.length_replicate, h2, h5, h3, h4] <;> omega) | omega)).trans ?_ | refine (if_neg (by first | with_reducible rfl | assumption | (simp (disch := omega) only [ltI_iff, eqI_iff, eqS_iff, eqB_iff, inI_iff, leI_iff, capI_iff, isZ_iff, eqN_iff, roomI_iff, nI_def, ssz_def, tN_def, iadd64, isub64, imul64, conv64, conv8, conv32, iadd32, imul32, irem_pos, iquo64, iquo32, imin_l, imin_r, imax_l, imax_r, Bool.not_eq_true', ← Bool.not_eq_true, Bool.not_eq_eq_eq_not, Bool.not_true, Bool.not_false, not_true_eq_false, not_false_eq_true, Bool.false_eq_true, List.length_append, List.length_cons, List.length_nil, List.length_take, List.length_drop, List.length_set, List.length_replicate, h2, h5, h3, h4] <;> omega) | omega)).trans ?_ | refine (bnd q1).trans ?_ | refine (bnd q2).trans ?_ | refine (bnd (deltas_ok rfl hdl)).trans ?_ | refine Eq.trans (Sum.elim_inl _ _ _) ?_ | refine Eq.trans (Sum.elim_inr _ _ _) ?_)
    rfl
  · obtain ⟨l', e, q1, q2, q3⟩ := add_any (s := s) (c := c) (o := o) hl k b
    have hst : St9 s l c o s l' c o [] := by
      rcases q3 with ⟨_, hr, hs, hk, h5, hl'⟩ | ⟨_, hl', _⟩
      · exact .inr (.inr (.inr ⟨rfl, rfl, rfl, rfl, hr, hs, h5, k, b, hk, hl'⟩))
      · exact .inl ⟨hl', rfl, rfl, rfl, .inr rfl⟩
    refine ⟨s, l', c, o, [], ?_, hst⟩
    rw [P_law09_does_eq]
    repeat (first | refine (if_pos (by first | with_reducible rfl | assumption | (simp (disch := omega) only [ltI_iff, eqI_iff, eqS_iff, eqB_iff, inI_iff, leI_iff, capI_iff, isZ_iff, eqN_iff, roomI_iff, nI_def, ssz_def, tN_def, iadd64, isub64, imul64, conv64, conv8, conv32, iadd32, imul32, irem_pos, iquo64, iquo32, imin_l, imin_r, imax_l, imax_r, Bool.not_eq_true', ← Bool.not_eq_true, Bool.not_eq_eq_eq_not, Bool.not_true, Bool.not_false, not_true_eq_false, not_false_eq_true, Bool.false_eq_true, List.length_append, List.length_cons, List.length_nil, List.length_take, List.length_drop, List.length_set, List.length_replicate, h2, h5, h3, h4] <;> omega) | omega)).trans ?_ | refine (if_neg (by first | with_reducible rfl | assumption | (simp (disch := omega) only [ltI_iff, eqI_iff, eqS_iff, eqB_iff, inI_iff, leI_iff, capI_iff, isZ_iff, eqN_iff, roomI_iff, nI_def, ssz_def, tN_def, iadd64, isub64, imul64, conv64, conv8, conv32, iadd32, imul32, irem_pos, iquo64, iquo32, imin_l, imin_r, imax_l, imax_r, Bool.not_eq_true', ← Bool.not_eq_true, Bool.not_eq_eq_eq_not, Bool.not_true, Bool.not_false, not_true_eq_false, not_false_eq_true, Bool.false_eq_true, List.length_append, List.length_cons, List.length_nil, List.length_take, List.length_drop, List.length_set, List.length_replicate, h2, h5, h3, h4] <;> omega) | omega)).trans ?_ | refine (bnd q1).trans ?_ | refine (bnd q2).trans ?_ | refine Eq.trans (Sum.elim_inl _ _ _) ?_ | refine Eq.trans (Sum.elim_inr _ _ _) ?_)
    rw [eqI_self]
end

theorem St9.rt {s : Int} {l : List (Int × Int)} {c : Bool} {o s' : Int} {l' : List (Int × Int)} {c' : Bool} {o' : Int} {d : List (Int × Int)} (h : St9 s l c o s' l' c' o' d) (hr : Rt s l c o) : Rt s' l' c' o' := by
  obtain ⟨h1, h2, h3, h4⟩ := hr
  rcases h with ⟨rfl, rfl, rfl, rfl, ⟨_, hs, hs'⟩ | rfl⟩ | ⟨rfl, rfl, rfl, _, hs, hc, rfl, rfl⟩ | ⟨rfl, rfl, rfl, _, ho, hs, hs1, rfl⟩ | ⟨rfl, rfl, rfl, rfl, _, hs, hl, k, b, hk, rfl⟩
  · refine ⟨by omega, h2, h3, .inr ⟨by omega, ?_, ?_⟩⟩
    · omega
    · rcases h4 with h4 | h4
      · omega
      · intro hc; have := h4.2.2 hc; omega
  · exact ⟨h1, h2, h3, h4⟩
  · exact ⟨h1, h2, h3, .inr ⟨by omega, by omega, fun _ => hs⟩⟩
  · exact ⟨by omega, h2, h3, .inl ⟨rfl, ho⟩⟩
  · refine ⟨h1, by simp; omega, fun x hx => ?_, h4⟩
    rcases List.mem_append.1 hx with hx | hx
    · exact h3 x hx
    · simp at hx; subst hx; exact hk
theorem St9.len {s : Int} {l : List (Int × Int)} {c : Bool} {o s' : Int} {l' : List (Int × Int)} {c' : Bool} {o' : Int} {d : List (Int × Int)} (h : St9 s l c o s' l' c' o' d) : l'.length ≤ l.length + 1 := by
  rcases h with ⟨rfl, rfl, rfl, rfl, ⟨_, hs, hs'⟩ | rfl⟩ | ⟨rfl, rfl, rfl, _, hs, hc, rfl, rfl⟩ | ⟨rfl, rfl, rfl, _, ho, hs, hs1, rfl⟩ | ⟨rfl, rfl, rfl, rfl, _, hs, hl, k, b, hk, rfl⟩
  · omega
  · omega
  · omega
  · omega
  · simp
theorem plain_calls (x1 : Int) (x2 : List (Int × Int)) (x3 : Bool) (x4 x5 x6 x7 : Int) (x8 : Bool) (x9 : Int) (w1 : w_t24 (x1, x2, x3, x4)) (w2 : w_t28 (x5, x6, x7, x8, x9)) : P_law09_PartCalls x1 x2 x3 x4 x5 x6 x7 x8 x9 = some true := by
  have hl0 : x2.length ≤ 9223372036854775807 := w1.2.1.1
  rw [P_law09_PartCalls_eq]
  by_cases h8 : 80 < x2.length
  · repeat (first | refine (if_pos (by first | with_reducible rfl | assumption | (simp (disch := omega) only [ltI_iff, eqI_iff, eqS_iff, eqB_iff, inI_iff, leI_iff, capI_iff, isZ_iff, eqN_iff, roomI_iff, nI_def, ssz_def, tN_def, iadd64, isub64, imul64, conv64, conv8, conv32, iadd32, imul32, irem_pos, iquo64, iquo32, imin_l, imin_r, imax_l, imax_r, Bool.not_eq_true', ← Bool.not_eq_true, Bool.not_eq_eq_eq_not, Bool.not_true, Bool.not_false, not_true_eq_false, not_false_eq_true, Bool.false_eq_true, List.length_append, List.length_cons, List.length_nil, List.length_take, List.length_drop, List.length_set, List.length_replicate] <;> omega) | omega)).trans ?_ | refine (if_neg (by first | with_reducible rfl | assumption | (simp (disch := omega) only [ltI_iff, eqI_iff, eqS_iff, eqB_iff, inI_iff, leI_iff, capI_iff, isZ_iff, eqN_iff, roomI_iff, nI_def, ssz_def, tN_def, iadd64, isub64, imul64, conv64, conv8, conv32, iadd32, imul32, irem_pos, iquo64, iquo32, imin_l, imin_r, imax_l, imax_r, Bool.not_eq_true', ← Bool.not_eq_true, Bool.not_eq_eq_eq_not, Bool.not_true, Bool.not_false, not_true_eq_false, not_false_eq_true, Bool.false_eq_true, List.length_append, List.length_cons, List.length_nil, List.length_take, List.length_drop, List.length_set, List.length_replicate] <;> omega) | omega)).trans ?_ | refine (bnd alive_ok).trans ?_ | refine Eq.trans (Sum.elim_inl _ _ _) ?_ | refine Eq.trans (Sum.elim_inr _ _ _) ?_)
    rfl
  obtain ⟨s', l', c', o', d, q, hst⟩ := does_same (s := x1) (l := x2) (c := x3) (o := x4) (by omega) x5 x6 x7 x8 x9
  have hlen := hst.len
  by_cases hr : Rt x1 x2 x3 x4
  · obtain ⟨r1, r2⟩ := right_t hr
    obtain ⟨e1, e2⟩ := effect_t (by omega) hr
    have hel : (eff x1 x2 x3 x4).length ≤ 100000 := by
      unfold eff
      split
      · omega
      · split
        · omega
        · split
          · rw [List.length_append, oppL_len]; omega
          · simp
    repeat (first | refine (if_pos (by first | with_reducible rfl | assumption | (simp (disch := omega) only [ltI_iff, eqI_iff, eqS_iff, eqB_iff, inI_iff, leI_iff, capI_iff, isZ_iff, eqN_iff, roomI_iff, nI_def, ssz_def, tN_def, iadd64, isub64, imul64, conv64, conv8, conv32, iadd32, imul32, irem_pos, iquo64, iquo32, imin_l, imin_r, imax_l, imax_r, Bool.not_eq_true', ← Bool.not_eq_true, Bool.not_eq_eq_eq_not, Bool.not_true, Bool.not_false, not_true_eq_false, not_false_eq_true, Bool.false_eq_true, List.length_append, List.length_cons, List.length_nil, List.length_take, List.length_drop, List.length_set, List.length_replicate] <;> omega) | omega)).trans ?_ | refine (if_neg (by first | with_reducible rfl | assumption | (simp (disch := omega) only [ltI_iff, eqI_iff, eqS_iff, eqB_iff, inI_iff, leI_iff, capI_iff, isZ_iff, eqN_iff, roomI_iff, nI_def, ssz_def, tN_def, iadd64, isub64, imul64, conv64, conv8, conv32, iadd32, imul32, irem_pos, iquo64, iquo32, imin_l, imin_r, imax_l, imax_r, Bool.not_eq_true', ← Bool.not_eq_true, Bool.not_eq_eq_eq_not, Bool.not_true, Bool.not_false, not_true_eq_false, not_false_eq_true, Bool.false_eq_true, List.length_append, List.length_cons, List.length_nil, List.length_take, List.length_drop, List.length_set, List.length_replicate] <;> omega) | omega)).trans ?_ | refine (bnd alive_ok).trans ?_ | refine (bnd q).trans ?_ | refine (bnd (same_ok (s := s') (l := l') (c := c') (o := o') (by omega))).trans ?_ | refine (bnd r1).trans ?_ | refine (bnd r2).trans ?_ | refine (bnd e1).trans ?_ | refine (bnd e2).trans ?_ | refine (bnd (deltas_ok rfl hel)).trans ?_ | refine Eq.trans (Sum.elim_inl _ _ _) ?_ | refine Eq.trans (Sum.elim_inr _ _ _) ?_)
    rfl
  · obtain ⟨r1, r2⟩ := right_f (by omega) hr
    obtain ⟨e1, e2⟩ := effect_f (by omega) hr
    repeat (first | refine (if_pos (by first | with_reducible rfl | assumption | (simp (disch := omega) only [ltI_iff, eqI_iff, eqS_iff, eqB_iff, inI_iff, leI_iff, capI_iff, isZ_iff, eqN_iff, roomI_iff, nI_def, ssz_def, tN_def, iadd64, isub64, imul64, conv64, conv8, conv32, iadd32, imul32, irem_pos, iquo64, iquo32, imin_l, imin_r, imax_l, imax_r, Bool.not_eq_true', ← Bool.not_eq_true, Bool.not_eq_eq_eq_not, Bool.not_true, Bool.not_false, not_true_eq_false, not_false_eq_true, Bool.false_eq_true, List.length_append, List.length_cons, List.length_nil, List.length_take, List.length_drop, List.length_set, List.length_replicate] <;> omega) | omega)).trans ?_ | refine (if_neg (by first | with_reducible rfl | assumption | (simp (disch := omega) only [ltI_iff, eqI_iff, eqS_iff, eqB_iff, inI_iff, leI_iff, capI_iff, isZ_iff, eqN_iff, roomI_iff, nI_def, ssz_def, tN_def, iadd64, isub64, imul64, conv64, conv8, conv32, iadd32, imul32, irem_pos, iquo64, iquo32, imin_l, imin_r, imax_l, imax_r, Bool.not_eq_true', ← Bool.not_eq_true, Bool.not_eq_eq_eq_not, Bool.not_true, Bool.not_false, not_true_eq_false, not_false_eq_true, Bool.false_eq_true, List.length_append, List.length_cons, List.length_nil, List.length_take, List.length_drop, List.length_set, List.length_replicate] <;> omega) | omega)).trans ?_ | refine (bnd alive_ok).trans ?_ | refine (bnd q).trans ?_ | refine (bnd (same_ok (s := s') (l := l') (c := c') (o := o') (by omega))).trans ?_ | refine (bnd r1).trans ?_ | refine (bnd r2).trans ?_ | refine (bnd e1).trans ?_ | refine (bnd e2).trans ?_ | refine (bnd (deltas_ok (x := []) (y := []) rfl (by simp))).trans ?_ | refine Eq.trans (Sum.elim_inl _ _ _) ?_ | refine Eq.trans (Sum.elim_inr _ _ _) ?_)
    rfl

theorem row_l0 {x1 : List (Int × Int × Int × Bool × Int)} : ∀ (d i : Nat) (v : Int), 80 - i = d → i ≤ 80 → v = (i : Int) → ∀ {s : Int} {l : List (Int × Int)} {c : Bool} {o : Int}, Rt s l c o → P_law09_PartRow_l0 x1 v s l c o s l c o = some (.inl ()) := by
  intro d
  induction d with
  | zero =>
    intro i v hd hi hv s l c o hr
    rw [P_law09_PartRow_l0_eq]
    by_cases hl : i < x1.length
    · repeat (first | refine (if_pos (by first | with_reducible rfl | assumption | (simp (disch := omega) only [ltI_iff, eqI_iff, eqS_iff, eqB_iff, inI_iff, leI_iff, capI_iff, isZ_iff, eqN_iff, roomI_iff, nI_def, ssz_def, tN_def, iadd64, isub64, imul64, conv64, conv8, conv32, iadd32, imul32, irem_pos, iquo64, iquo32, imin_l, imin_r, imax_l, imax_r, Bool.not_eq_true', ← Bool.not_eq_true, Bool.not_eq_eq_eq_not, Bool.not_true, Bool.not_false, not_true_eq_false, not_false_eq_true, Bool.false_eq_true, List.length_append, List.length_cons, List.length_nil, List.length_take, List.length_drop, List.length_set, List.length_replicate] <;> omega) | omega)).trans ?_ | refine (if_neg (by first | with_reducible rfl | assumption | (simp (disch := omega) only [ltI_iff, eqI_iff, eqS_iff, eqB_iff, inI_iff, leI_iff, capI_iff, isZ_iff, eqN_iff, roomI_iff, nI_def, ssz_def, tN_def, iadd64, isub64, imul64, conv64, conv8, conv32, iadd32, imul32, irem_pos, iquo64, iquo32, imin_l, imin_r, imax_l, imax_r, Bool.not_eq_true', ← Bool.not_eq_true, Bool.not_eq_eq_eq_not, Bool.not_true, Bool.not_false, not_true_eq_false, not_false_eq_true, Bool.false_eq_true, List.length_append, List.length_cons, List.length_nil, List.length_take, List.length_drop, List.length_set, List.length_replicate] <;> omega) | omega)).trans ?_ | refine Eq.trans (Sum.elim_inl _ _ _) ?_ | refine Eq.trans (Sum.elim_inr _ _ _) ?_)
      rfl
    · repeat (first | refine (if_pos (by first | with_reducible rfl | assumption | (simp (disch := omega) only [ltI_iff, eqI_iff, eqS_iff, eqB_iff, inI_iff, leI_iff, capI_iff, isZ_iff, eqN_iff, roomI_iff, nI_def, ssz_def, tN_def, iadd64, isub64, imul64, conv64, conv8, conv32, iadd32, imul32, irem_pos, iquo64, iquo32, imin_l, imin_r, imax_l, imax_r, Bool.not_eq_true', ← Bool.not_eq_true, Bool.not_eq_eq_eq_not, Bool.not_true, Bool.not_false, not_true_eq_false, not_false_eq_true, Bool.false_eq_true, List.length_append, List.length_cons, List.length_nil, List.length_take, List.length_drop, List.length_set, List.length_replicate] <;> omega) | omega)).trans ?_ | refine (if_neg (by first | with_reducible rfl | assumption | (simp (disch := omega) only [ltI_iff, eqI_iff, eqS_iff, eqB_iff, inI_iff, leI_iff, capI_iff, isZ_iff, eqN_iff, roomI_iff, nI_def, ssz_def, tN_def, iadd64, isub64, imul64, conv64, conv8, conv32, iadd32, imul32, irem_pos, iquo64, iquo32, imin_l, imin_r, imax_l, imax_r, Bool.not_eq_true', ← Bool.not_eq_true, Bool.not_eq_eq_eq_not, Bool.not_true, Bool.not_false, not_true_eq_false, not_false_eq_true, Bool.false_eq_true, List.length_append, List.length_cons, List.length_nil, List.length_take, List.length_drop, List.length_set, List.length_replicate] <;> omega) | omega)).trans ?_ | refine Eq.trans (Sum.elim_inl _ _ _) ?_ | refine Eq.trans (Sum.elim_inr _ _ _) ?_)
      rfl
  | succ d ih =>
    intro i v hd hi hv s l c o hr
    rw [P_law09_PartRow_l0_eq]
    by_cases hl : i < x1.length
    · obtain ⟨s', l', c', o', dd, q, hst⟩ := does_same (s := s) (l := l) (c := c) (o := o) (by have := hr.2.1; omega) x1[i].1 x1[i].2.1 x1[i].2.2.1 x1[i].2.2.2.1 x1[i].2.2.2.2
      have hr' := hst.rt hr
      have hl' := hr'.2.1
      repeat (first | refine (if_pos (by first | with_reducible rfl | assumption | (simp (disch := omega) only [ltI_iff, eqI_iff, eqS_iff, eqB_iff, inI_iff, leI_iff, capI_iff, isZ_iff, eqN_iff, roomI_iff, nI_def, ssz_def, tN_def, iadd64, isub64, imul64, conv64, conv8, conv32, iadd32, imul32, irem_pos, iquo64, iquo32, imin_l, imin_r, imax_l, imax_r, Bool.not_eq_true', ← Bool.not_eq_true, Bool.not_eq_eq_eq_not, Bool.not_true, Bool.not_false, not_true_eq_false, not_false_eq_true, Bool.false_eq_true, List.length_append, List.length_cons, List.length_nil, List.length_take, List.length_drop, List.length_set, List.length_replicate] <;> omega) | omega)).trans ?_ | refine (if_neg (by first | with_reducible rfl | assumption | (simp (disch := omega) only [ltI_iff, eqI_iff, eqS_iff, eqB_iff, inI_iff, leI_iff, capI_iff, isZ_iff, eqN_iff, roomI_iff, nI_def, ssz_def, tN_def, iadd64, isub64, imul64, conv64, conv8, conv32, iadd32, imul32, irem_pos, iquo64, iquo32, imin_l, imin_r, imax_l, imax_r, Bool.not_eq_true', ← Bool.not_eq_true, Bool.not_eq_eq_eq_not, Bool.not_true, Bool.not_false, not_true_eq_false, not_false_eq_true, Bool.false_eq_true, List.length_append, List.length_cons, List.length_nil, List.length_take, List.length_drop, List.length_set, List.length_replicate] <;> omega) | omega)).trans ?_ | refine (bnd (geti hv hl)).trans ?_ | refine (bnd q).trans ?_ | refine (bnd (same_ok (s := s') (l := l') (c := c') (o := o') (by omega))).trans ?_ | refine (bnd (right_t hr').1).trans ?_ | refine Eq.trans (Sum.elim_inl _ _ _) ?_ | refine Eq.trans (Sum.elim_inr _ _ _) ?_)
      exact ih (i + 1) _ (by omega) (by omega) (by first | with_reducible rfl | assumption | (simp (disch := omega) only [ltI_iff, eqI_iff, eqS_iff, eqB_iff, inI_iff, leI_iff, capI_iff, isZ_iff, eqN_iff, roomI_iff, nI_def, ssz_def, tN_def, iadd64, isub64, imul64, conv64, conv8, conv32, iadd32, imul32, irem_pos, iquo64, iquo32, imin_l, imin_r, imax_l, imax_r, Bool.not_eq_true', ← Bool.not_eq_true, Bool.not_eq_eq_eq_not, Bool.not_true, Bool.not_false, not_true_eq_false, not_false_eq_true, Bool.false_eq_true, List.length_append, List.length_cons, List.length_nil, List.length_take, List.length_drop, List.length_set, List.length_replicate] <;> omega) | omega) hr'
    · repeat (first | refine (if_pos (by first | with_reducible rfl | assumption | (simp (disch := omega) only [ltI_iff, eqI_iff, eqS_iff, eqB_iff, inI_iff, leI_iff, capI_iff, isZ_iff, eqN_iff, roomI_iff, nI_def, ssz_def, tN_def, iadd64, isub64, imul64, conv64, conv8, conv32, iadd32, imul32, irem_pos, iquo64, iquo32, imin_l, imin_r, imax_l, imax_r, Bool.not_eq_true', ← Bool.not_eq_true, Bool.not_eq_eq_eq_not, Bool.not_true, Bool.not_false, not_true_eq_false, not_false_eq_true, Bool.false_eq_true, List.length_append, List.length_cons, List.length_nil, List.length_take, List.length_drop, List.length_set, List.length_replicate] <;> omega) | omega)).trans ?_ | refine (if_neg (by first | with_reducible rfl | assumption | (simp (disch := omega) only [ltI_iff, eqI_iff, eqS_iff, eqB_iff, inI_iff, leI_iff, capI_iff, isZ_iff, eqN_iff, roomI_iff, nI_def, ssz_def, tN_def, iadd64, isub64, imul64, conv64, conv8, conv32, iadd32, imul32, irem_pos, iquo64, iquo32, imin_l, imin_r, imax_l, imax_r, Bool.not_eq_true', ← Bool.not_eq_true, Bool.not_eq_eq_eq_not, Bool.not_true, Bool.not_false, not_true_eq_false, not_false_eq_true, Bool.false_eq_true, List.length_append, List.length_cons, List.length_nil, List.length_take, List.length_drop, List.length_set, List.length_replicate] <;> omega) | omega)).trans ?_ | refine Eq.trans (Sum.elim_inl _ _ _) ?_ | refine Eq.trans (Sum.elim_inr _ _ _) ?_)
      rfl
theorem rt0 : Rt 0 [] false 0 := ⟨by omega, by simp, fun x h => (by cases h), .inr ⟨by omega, rfl, fun h => by cases h⟩⟩
theorem plain_row (x1 : List (Int × Int × Int × Bool × Int)) (w : w_t40 x1) : P_law09_PartRow x1 = some true := by
  rw [P_law09_PartRow_eq]
  repeat (first | refine (if_pos (by first | with_reducible rfl | assumption | (simp (disch := omega) only [ltI_iff, eqI_iff, eqS_iff, eqB_iff, inI_iff, leI_iff, capI_iff, isZ_iff, eqN_iff, roomI_iff, nI_def, ssz_def, tN_def, iadd64, isub64, imul64, conv64, conv8, conv32, iadd32, imul32, irem_pos, iquo64, iquo32, imin_l, imin_r, imax_l, imax_r, Bool.not_eq_true', ← Bool.not_eq_true, Bool.not_eq_eq_eq_not, Bool.not_true, Bool.not_false, not_true_eq_false, not_false_eq_true, Bool.false_eq_true, List.length_append, List.length_cons, List.length_nil, List.length_take, List.length_drop, List.length_set, List.length_replicate] <;> omega) | omega)).trans ?_ | refine (if_neg (by first | with_reducible rfl | assumption | (simp (disch := omega) only [ltI_iff, eqI_iff, eqS_iff, eqB_iff, inI_iff, leI_iff, capI_iff, isZ_iff, eqN_iff, roomI_iff, nI_def, ssz_def, tN_def, iadd64, isub64, imul64, conv64, conv8, conv32, iadd32, imul32, irem_pos, iquo64, iquo32, imin_l, imin_r, imax_l, imax_r, Bool.not_eq_true', ← Bool.not_eq_true, Bool.not_eq_eq_eq_not, Bool.not_true, Bool.not_false, not_true_eq_false, not_false_eq_true, Bool.false_eq_true, List.length_append, List.length_cons, List.length_nil, List.length_take, List.length_drop, List.length_set, List.length_replicate] <;> omega) | omega)).trans ?_ | refine (bnd alive_ok).trans ?_ | refine (bnd (row_l0 80 0 0 rfl (by omega) rfl rt0)).trans ?_ | refine Eq.trans (Sum.elim_inl _ _ _) ?_ | refine Eq.trans (Sum.elim_inr _ _ _) ?_)
  rfl
end Go.Ws
