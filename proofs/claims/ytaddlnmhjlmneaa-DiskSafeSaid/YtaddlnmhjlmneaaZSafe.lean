/-
  DiskSafe, plainly.
  Conditions: none.
-/
import Derived.Test.YtaddlnmhjlmneaaZDiskLaws
set_option linter.unusedVariables false
set_option linter.unusedSimpArgs false
namespace Go.Ws
set_option linter.unusedVariables false
set_option linter.unusedSimpArgs false
set_option maxHeartbeats 1000000

theorem cut_at : ∀ (L : List (List Int)) (n : Nat), ∃ w, w ≤ L.length ∧ (cat (L.take w)).length ≤ n ∧ (w = L.length ∨ n < (cat (L.take (w + 1))).length)
  | [], n => ⟨0, Nat.le_refl _, by simp [cat], .inl rfl⟩
  | l :: t, n => by
    by_cases h : n < (fr l).length
    · exact ⟨0, Nat.zero_le _, by simp [cat], .inr (by simp [cat]; omega)⟩
    · obtain ⟨w, h1, h2, h3⟩ := cut_at t (n - (fr l).length)
      refine ⟨w + 1, by simp; omega, by simp [cat]; omega, ?_⟩
      rcases h3 with h3 | h3
      · left; simp [h3]
      · right; simp [cat]; omega
theorem cat_cut (L : List (List Int)) (w : Nat) : (cat L).take (cat (L.take w)).length = cat (L.take w) := by
  have : cat L = cat (L.take w) ++ cat (L.drop w) := by rw [← cat_append, List.take_append_drop]
  rw [this, List.take_left]
theorem cat_mono2 {L : List (List Int)} {a b : Nat} (h : a ≤ b) : (cat (L.take a)).length ≤ (cat (L.take b)).length := by
  obtain ⟨c, rfl⟩ : ∃ c, b = a + c := ⟨b - a, by omega⟩
  rw [List.take_add, cat_append, List.length_append]; omega
theorem safe_l0 {x1 : List (List Int)} {x2 x3 : Int} (h30 : x1.length ≤ 30) : ∀ (d i : Nat) (v : Int), x1.length - i = d → i ≤ x1.length → v = (i : Int) →
    ((∀ x ∈ x1.drop i, x.length ≤ 4000) → P_law04_DiskSafe_l0 x1 x2 x3 v = some (.inl ())) ∧ ((¬ ∀ x ∈ x1.drop i, x.length ≤ 4000) → P_law04_DiskSafe_l0 x1 x2 x3 v = some (.inr true)) := by
  intro d
  induction d with
  | zero =>
    intro i v hd hi hv
    have hz : x1.drop i = [] := List.drop_of_length_le (by omega)
    rw [hz]
    refine ⟨fun _ => ?_, fun h => absurd (fun x hx => by cases hx) h⟩
    rw [P_law04_DiskSafe_l0_eq]
    repeat (first | refine (if_pos (by first | with_reducible rfl | assumption | (simp (disch := omega) only [ltI_iff, eqI_iff, eqS_iff, eqB_iff, inI_iff, leI_iff, capI_iff, isZ_iff, eqN_iff, roomI_iff, nI_def, ssz_def, tN_def, iadd64, isub64, imul64, conv64, conv8, conv32, iadd32, imul32, irem_pos, iquo64, iquo32, imin_l, imin_r, imax_l, imax_r, Bool.not_eq_true', ← Bool.not_eq_true, Bool.not_eq_eq_eq_not, Bool.not_true, Bool.not_false, not_true_eq_false, not_false_eq_true, List.length_append, List.length_cons, List.length_nil, List.length_take, List.length_drop, List.length_set, List.length_replicate] <;> omega) | omega)).trans ?_ | refine (if_neg (by first | with_reducible rfl | assumption | (simp (disch := omega) only [ltI_iff, eqI_iff, eqS_iff, eqB_iff, inI_iff, leI_iff, capI_iff, isZ_iff, eqN_iff, roomI_iff, nI_def, ssz_def, tN_def, iadd64, isub64, imul64, conv64, conv8, conv32, iadd32, imul32, irem_pos, iquo64, iquo32, imin_l, imin_r, imax_l, imax_r, Bool.not_eq_true', ← Bool.not_eq_true, Bool.not_eq_eq_eq_not, Bool.not_true, Bool.not_false, not_true_eq_false, not_false_eq_true, List.length_append, List.length_cons, List.length_nil, List.length_take, List.length_drop, List.length_set, List.length_replicate] <;> omega) | omega)).trans ?_ | refine Eq.trans (Sum.elim_inl _ _ _) ?_ | refine Eq.trans (Sum.elim_inr _ _ _) ?_)
    rfl
  | succ d ih =>
    intro i v hd hi hv
    have hlt : i < x1.length := by omega
    have hdr : x1.drop i = x1[i] :: x1.drop (i + 1) := List.drop_eq_getElem_cons hlt
    obtain ⟨q1, q2⟩ := ih (i + 1) (iadd .i64 v 1) (by omega) (by omega) (by first | with_reducible rfl | assumption | (simp (disch := omega) only [ltI_iff, eqI_iff, eqS_iff, eqB_iff, inI_iff, leI_iff, capI_iff, isZ_iff, eqN_iff, roomI_iff, nI_def, ssz_def, tN_def, iadd64, isub64, imul64, conv64, conv8, conv32, iadd32, imul32, irem_pos, iquo64, iquo32, imin_l, imin_r, imax_l, imax_r, Bool.not_eq_true', ← Bool.not_eq_true, Bool.not_eq_eq_eq_not, Bool.not_true, Bool.not_false, not_true_eq_false, not_false_eq_true, List.length_append, List.length_cons, List.length_nil, List.length_take, List.length_drop, List.length_set, List.length_replicate] <;> omega) | omega)
    by_cases hc : 4000 < x1[i].length
    · refine ⟨fun h => absurd (h x1[i] (by rw [hdr]; exact List.mem_cons_self)) (by omega), fun _ => ?_⟩
      rw [P_law04_DiskSafe_l0_eq]
      repeat (first | refine (if_pos (by first | with_reducible rfl | assumption | (simp (disch := omega) only [ltI_iff, eqI_iff, eqS_iff, eqB_iff, inI_iff, leI_iff, capI_iff, isZ_iff, eqN_iff, roomI_iff, nI_def, ssz_def, tN_def, iadd64, isub64, imul64, conv64, conv8, conv32, iadd32, imul32, irem_pos, iquo64, iquo32, imin_l, imin_r, imax_l, imax_r, Bool.not_eq_true', ← Bool.not_eq_true, Bool.not_eq_eq_eq_not, Bool.not_true, Bool.not_false, not_true_eq_false, not_false_eq_true, List.length_append, List.length_cons, List.length_nil, List.length_take, List.length_drop, List.length_set, List.length_replicate] <;> omega) | omega)).trans ?_ | refine (if_neg (by first | with_reducible rfl | assumption | (simp (disch := omega) only [ltI_iff, eqI_iff, eqS_iff, eqB_iff, inI_iff, leI_iff, capI_iff, isZ_iff, eqN_iff, roomI_iff, nI_def, ssz_def, tN_def, iadd64, isub64, imul64, conv64, conv8, conv32, iadd32, imul32, irem_pos, iquo64, iquo32, imin_l, imin_r, imax_l, imax_r, Bool.not_eq_true', ← Bool.not_eq_true, Bool.not_eq_eq_eq_not, Bool.not_true, Bool.not_false, not_true_eq_false, not_false_eq_true, List.length_append, List.length_cons, List.length_nil, List.length_take, List.length_drop, List.length_set, List.length_replicate] <;> omega) | omega)).trans ?_ | refine (bnd (geti hv hlt)).trans ?_ | refine Eq.trans (Sum.elim_inl _ _ _) ?_ | refine Eq.trans (Sum.elim_inr _ _ _) ?_)
      rfl
    · refine ⟨fun h => ?_, fun h => ?_⟩
      · rw [P_law04_DiskSafe_l0_eq]
        repeat (first | refine (if_pos (by first | with_reducible rfl | assumption | (simp (disch := omega) only [ltI_iff, eqI_iff, eqS_iff, eqB_iff, inI_iff, leI_iff, capI_iff, isZ_iff, eqN_iff, roomI_iff, nI_def, ssz_def, tN_def, iadd64, isub64, imul64, conv64, conv8, conv32, iadd32, imul32, irem_pos, iquo64, iquo32, imin_l, imin_r, imax_l, imax_r, Bool.not_eq_true', ← Bool.not_eq_true, Bool.not_eq_eq_eq_not, Bool.not_true, Bool.not_false, not_true_eq_false, not_false_eq_true, List.length_append, List.length_cons, List.length_nil, List.length_take, List.length_drop, List.length_set, List.length_replicate] <;> omega) | omega)).trans ?_ | refine (if_neg (by first | with_reducible rfl | assumption | (simp (disch := omega) only [ltI_iff, eqI_iff, eqS_iff, eqB_iff, inI_iff, leI_iff, capI_iff, isZ_iff, eqN_iff, roomI_iff, nI_def, ssz_def, tN_def, iadd64, isub64, imul64, conv64, conv8, conv32, iadd32, imul32, irem_pos, iquo64, iquo32, imin_l, imin_r, imax_l, imax_r, Bool.not_eq_true', ← Bool.not_eq_true, Bool.not_eq_eq_eq_not, Bool.not_true, Bool.not_false, not_true_eq_false, not_false_eq_true, List.length_append, List.length_cons, List.length_nil, List.length_take, List.length_drop, List.length_set, List.length_replicate] <;> omega) | omega)).trans ?_ | refine (bnd (geti hv hlt)).trans ?_ | refine Eq.trans (Sum.elim_inl _ _ _) ?_ | refine Eq.trans (Sum.elim_inr _ _ _) ?_)
        exact q1 (fun x hx => h x (by rw [hdr]; exact List.mem_cons_of_mem _ hx))
      · rw [P_law04_DiskSafe_l0_eq]
        repeat (first | refine (if_pos (by first | with_reducible rfl | assumption | (simp (disch := omega) only [ltI_iff, eqI_iff, eqS_iff, eqB_iff, inI_iff, leI_iff, capI_iff, isZ_iff, eqN_iff, roomI_iff, nI_def, ssz_def, tN_def, iadd64, isub64, imul64, conv64, conv8, conv32, iadd32, imul32, irem_pos, iquo64, iquo32, imin_l, imin_r, imax_l, imax_r, Bool.not_eq_true', ← Bool.not_eq_true, Bool.not_eq_eq_eq_not, Bool.not_true, Bool.not_false, not_true_eq_false, not_false_eq_true, List.length_append, List.length_cons, List.length_nil, List.length_take, List.length_drop, List.length_set, List.length_replicate] <;> omega) | omega)).trans ?_ | refine (if_neg (by first | with_reducible rfl | assumption | (simp (disch := omega) only [ltI_iff, eqI_iff, eqS_iff, eqB_iff, inI_iff, leI_iff, capI_iff, isZ_iff, eqN_iff, roomI_iff, nI_def, ssz_def, tN_def, iadd64, isub64, imul64, conv64, conv8, conv32, iadd32, imul32, irem_pos, iquo64, iquo32, imin_l, imin_r, imax_l, imax_r, Bool.not_eq_true', ← Bool.not_eq_true, Bool.not_eq_eq_eq_not, Bool.not_true, Bool.not_false, not_true_eq_false, not_false_eq_true, List.length_append, List.length_cons, List.length_nil, List.length_take, List.length_drop, List.length_set, List.length_replicate] <;> omega) | omega)).trans ?_ | refine (bnd (geti hv hlt)).trans ?_ | refine Eq.trans (Sum.elim_inl _ _ _) ?_ | refine Eq.trans (Sum.elim_inr _ _ _) ?_)
        exact q2 (fun hh => h (fun x hx => by
          rw [hdr] at hx
          rcases List.mem_cons.1 hx with rfl | hx
          · omega
          · exact hh x hx))
theorem safe_l1 {x1 : List (List Int)} {x2 x3 : Int} (hg : good x1) (h30 : x1.length ≤ 30) {k : Nat} (hk : irem .i64 (conv .i64 x2) (iadd .i64 (nI x1.length) 1) = (k : Int)) :
    ∀ (d i : Nat) (v : Int) (b : List Int) (s : Int), x1.length - i = d → i ≤ x1.length → v = (i : Int) → b = cat (x1.take i) → s = (if k < i then ((cat (x1.take k)).length : Int) else 0) →
    ∃ s', P_law04_DiskSafe_l1 x1 x2 x3 v b s 1048576 = some (.inl (cat x1, s', 1048576)) ∧ s' = (if k < x1.length then ((cat (x1.take k)).length : Int) else 0) := by
  intro d
  induction d with
  | zero =>
    intro i v b s hd hi hv hb hs
    have hi' : i = x1.length := by omega
    subst hi'
    refine ⟨s, ?_, hs⟩
    rw [P_law04_DiskSafe_l1_eq]
    repeat (first | refine (if_pos (by first | with_reducible rfl | assumption | (simp (disch := omega) only [ltI_iff, eqI_iff, eqS_iff, eqB_iff, inI_iff, leI_iff, capI_iff, isZ_iff, eqN_iff, roomI_iff, nI_def, ssz_def, tN_def, iadd64, isub64, imul64, conv64, conv8, conv32, iadd32, imul32, irem_pos, iquo64, iquo32, imin_l, imin_r, imax_l, imax_r, Bool.not_eq_true', ← Bool.not_eq_true, Bool.not_eq_eq_eq_not, Bool.not_true, Bool.not_false, not_true_eq_false, not_false_eq_true, List.length_append, List.length_cons, List.length_nil, List.length_take, List.length_drop, List.length_set, List.length_replicate] <;> omega) | omega)).trans ?_ | refine (if_neg (by first | with_reducible rfl | assumption | (simp (disch := omega) only [ltI_iff, eqI_iff, eqS_iff, eqB_iff, inI_iff, leI_iff, capI_iff, isZ_iff, eqN_iff, roomI_iff, nI_def, ssz_def, tN_def, iadd64, isub64, imul64, conv64, conv8, conv32, iadd32, imul32, irem_pos, iquo64, iquo32, imin_l, imin_r, imax_l, imax_r, Bool.not_eq_true', ← Bool.not_eq_true, Bool.not_eq_eq_eq_not, Bool.not_true, Bool.not_false, not_true_eq_false, not_false_eq_true, List.length_append, List.length_cons, List.length_nil, List.length_take, List.length_drop, List.length_set, List.length_replicate] <;> omega) | omega)).trans ?_ | refine Eq.trans (Sum.elim_inl _ _ _) ?_ | refine Eq.trans (Sum.elim_inr _ _ _) ?_)
    rw [hb, List.take_length]
  | succ d ih =>
    intro i v b s hd hi hv hb hs
    have hlt : i < x1.length := by omega
    have hl := cat_len (hg.take i)
    rw [List.length_take] at hl
    have D : Dk (cat (x1.take i)) s 1048576 := by
      have hm : k < i → (cat (x1.take k)).length ≤ (cat (x1.take i)).length := fun h => cat_mono2 (by omega)
      refine ⟨cat_bytes (hg.take i), by omega, ?_, ?_, by omega, by omega⟩
      · rw [hs]; split <;> omega
      · rw [hs]; split
        · have := hm (by assumption); omega
        · omega
    subst hb
    obtain ⟨hxb, hx4⟩ := hg _ (List.getElem_mem hlt)
    by_cases he : i = k
    · subst he
      have D2 := D.sync
      obtain ⟨s', q1, q2⟩ := ih (i + 1) (iadd .i64 v 1) (cat (x1.take i) ++ fr x1[i]) ((cat (x1.take i)).length : Int) (by omega) (by omega) (by first | with_reducible rfl | assumption | (simp (disch := omega) only [ltI_iff, eqI_iff, eqS_iff, eqB_iff, inI_iff, leI_iff, capI_iff, isZ_iff, eqN_iff, roomI_iff, nI_def, ssz_def, tN_def, iadd64, isub64, imul64, conv64, conv8, conv32, iadd32, imul32, irem_pos, iquo64, iquo32, imin_l, imin_r, imax_l, imax_r, Bool.not_eq_true', ← Bool.not_eq_true, Bool.not_eq_eq_eq_not, Bool.not_true, Bool.not_false, not_true_eq_false, not_false_eq_true, List.length_append, List.length_cons, List.length_nil, List.length_take, List.length_drop, List.length_set, List.length_replicate] <;> omega) | omega) (cat_snoc hlt).symm (by rw [if_pos (by omega)])
      refine ⟨s', ?_, q2⟩
      rw [P_law04_DiskSafe_l1_eq]
      simp only [hk]
      repeat (first | refine (if_pos (by first | with_reducible rfl | assumption | (simp (disch := omega) only [ltI_iff, eqI_iff, eqS_iff, eqB_iff, inI_iff, leI_iff, capI_iff, isZ_iff, eqN_iff, roomI_iff, nI_def, ssz_def, tN_def, iadd64, isub64, imul64, conv64, conv8, conv32, iadd32, imul32, irem_pos, iquo64, iquo32, imin_l, imin_r, imax_l, imax_r, Bool.not_eq_true', ← Bool.not_eq_true, Bool.not_eq_eq_eq_not, Bool.not_true, Bool.not_false, not_true_eq_false, not_false_eq_true, List.length_append, List.length_cons, List.length_nil, List.length_take, List.length_drop, List.length_set, List.length_replicate] <;> omega) | omega)).trans ?_ | refine (if_neg (by first | with_reducible rfl | assumption | (simp (disch := omega) only [ltI_iff, eqI_iff, eqS_iff, eqB_iff, inI_iff, leI_iff, capI_iff, isZ_iff, eqN_iff, roomI_iff, nI_def, ssz_def, tN_def, iadd64, isub64, imul64, conv64, conv8, conv32, iadd32, imul32, irem_pos, iquo64, iquo32, imin_l, imin_r, imax_l, imax_r, Bool.not_eq_true', ← Bool.not_eq_true, Bool.not_eq_eq_eq_not, Bool.not_true, Bool.not_false, not_true_eq_false, not_false_eq_true, List.length_append, List.length_cons, List.length_nil, List.length_take, List.length_drop, List.length_set, List.length_replicate] <;> omega) | omega)).trans ?_ | refine (bnd (geti hv hlt)).trans ?_ | refine (bnd (sync_ok D)).trans ?_ | refine (bnd (append_ok D2 hxb hx4 (by omega)).1).trans ?_ | refine Eq.trans (Sum.elim_inl _ _ _) ?_ | refine Eq.trans (Sum.elim_inr _ _ _) ?_)
      exact q1
    · obtain ⟨s', q1, q2⟩ := ih (i + 1) (iadd .i64 v 1) (cat (x1.take i) ++ fr x1[i]) s (by omega) (by omega) (by first | with_reducible rfl | assumption | (simp (disch := omega) only [ltI_iff, eqI_iff, eqS_iff, eqB_iff, inI_iff, leI_iff, capI_iff, isZ_iff, eqN_iff, roomI_iff, nI_def, ssz_def, tN_def, iadd64, isub64, imul64, conv64, conv8, conv32, iadd32, imul32, irem_pos, iquo64, iquo32, imin_l, imin_r, imax_l, imax_r, Bool.not_eq_true', ← Bool.not_eq_true, Bool.not_eq_eq_eq_not, Bool.not_true, Bool.not_false, not_true_eq_false, not_false_eq_true, List.length_append, List.length_cons, List.length_nil, List.length_take, List.length_drop, List.length_set, List.length_replicate] <;> omega) | omega) (cat_snoc hlt).symm (by rw [hs]; split <;> split <;> omega)
      refine ⟨s', ?_, q2⟩
      rw [P_law04_DiskSafe_l1_eq]
      simp only [hk]
      repeat (first | refine (if_pos (by first | with_reducible rfl | assumption | (simp (disch := omega) only [ltI_iff, eqI_iff, eqS_iff, eqB_iff, inI_iff, leI_iff, capI_iff, isZ_iff, eqN_iff, roomI_iff, nI_def, ssz_def, tN_def, iadd64, isub64, imul64, conv64, conv8, conv32, iadd32, imul32, irem_pos, iquo64, iquo32, imin_l, imin_r, imax_l, imax_r, Bool.not_eq_true', ← Bool.not_eq_true, Bool.not_eq_eq_eq_not, Bool.not_true, Bool.not_false, not_true_eq_false, not_false_eq_true, List.length_append, List.length_cons, List.length_nil, List.length_take, List.length_drop, List.length_set, List.length_replicate] <;> omega) | omega)).trans ?_ | refine (if_neg (by first | with_reducible rfl | assumption | (simp (disch := omega) only [ltI_iff, eqI_iff, eqS_iff, eqB_iff, inI_iff, leI_iff, capI_iff, isZ_iff, eqN_iff, roomI_iff, nI_def, ssz_def, tN_def, iadd64, isub64, imul64, conv64, conv8, conv32, iadd32, imul32, irem_pos, iquo64, iquo32, imin_l, imin_r, imax_l, imax_r, Bool.not_eq_true', ← Bool.not_eq_true, Bool.not_eq_eq_eq_not, Bool.not_true, Bool.not_false, not_true_eq_false, not_false_eq_true, List.length_append, List.length_cons, List.length_nil, List.length_take, List.length_drop, List.length_set, List.length_replicate] <;> omega) | omega)).trans ?_ | refine (bnd (geti hv hlt)).trans ?_ | refine (bnd (append_ok D hxb hx4 (by omega)).1).trans ?_ | refine Eq.trans (Sum.elim_inl _ _ _) ?_ | refine Eq.trans (Sum.elim_inr _ _ _) ?_)
      exact q1
theorem plain_safe (x1 : List (List Int)) (x2 x3 : Int) (w1 : w_t34 x1) (w2 : w_t5 x2) (w3 : w_t25 x3) : P_law04_DiskSafe x1 x2 x3 = some true := by
  simp only [w_t5] at w2
  simp only [w_t25] at w3
  rw [P_law04_DiskSafe_eq]
  obtain ⟨t, f1, f2⟩ := few_ok w1
  cases t with
  | false =>
    repeat (first | refine (if_pos (by first | with_reducible rfl | assumption | (simp (disch := omega) only [ltI_iff, eqI_iff, eqS_iff, eqB_iff, inI_iff, leI_iff, capI_iff, isZ_iff, eqN_iff, roomI_iff, nI_def, ssz_def, tN_def, iadd64, isub64, imul64, conv64, conv8, conv32, iadd32, imul32, irem_pos, iquo64, iquo32, imin_l, imin_r, imax_l, imax_r, Bool.not_eq_true', ← Bool.not_eq_true, Bool.not_eq_eq_eq_not, Bool.not_true, Bool.not_false, not_true_eq_false, not_false_eq_true, List.length_append, List.length_cons, List.length_nil, List.length_take, List.length_drop, List.length_set, List.length_replicate] <;> omega) | omega)).trans ?_ | refine (if_neg (by first | with_reducible rfl | assumption | (simp (disch := omega) only [ltI_iff, eqI_iff, eqS_iff, eqB_iff, inI_iff, leI_iff, capI_iff, isZ_iff, eqN_iff, roomI_iff, nI_def, ssz_def, tN_def, iadd64, isub64, imul64, conv64, conv8, conv32, iadd32, imul32, irem_pos, iquo64, iquo32, imin_l, imin_r, imax_l, imax_r, Bool.not_eq_true', ← Bool.not_eq_true, Bool.not_eq_eq_eq_not, Bool.not_true, Bool.not_false, not_true_eq_false, not_false_eq_true, List.length_append, List.length_cons, List.length_nil, List.length_take, List.length_drop, List.length_set, List.length_replicate] <;> omega) | omega)).trans ?_ | refine (bnd alive_ok).trans ?_ | refine (bnd f1).trans ?_ | refine Eq.trans (Sum.elim_inl _ _ _) ?_ | refine Eq.trans (Sum.elim_inr _ _ _) ?_)
    rfl
  | true =>
    have h30 := f2 rfl
    obtain ⟨q1, q2⟩ := safe_l0 (x2 := x2) (x3 := x3) h30 _ 0 0 rfl (by omega) rfl
    rw [List.drop_zero] at q1 q2
    by_cases hg4 : ∀ x ∈ x1, x.length ≤ 4000
    rotate_left
    · have q := q2 hg4
      repeat (first | refine (if_pos (by first | with_reducible rfl | assumption | (simp (disch := omega) only [ltI_iff, eqI_iff, eqS_iff, eqB_iff, inI_iff, leI_iff, capI_iff, isZ_iff, eqN_iff, roomI_iff, nI_def, ssz_def, tN_def, iadd64, isub64, imul64, conv64, conv8, conv32, iadd32, imul32, irem_pos, iquo64, iquo32, imin_l, imin_r, imax_l, imax_r, Bool.not_eq_true', ← Bool.not_eq_true, Bool.not_eq_eq_eq_not, Bool.not_true, Bool.not_false, not_true_eq_false, not_false_eq_true, List.length_append, List.length_cons, List.length_nil, List.length_take, List.length_drop, List.length_set, List.length_replicate] <;> omega) | omega)).trans ?_ | refine (if_neg (by first | with_reducible rfl | assumption | (simp (disch := omega) only [ltI_iff, eqI_iff, eqS_iff, eqB_iff, inI_iff, leI_iff, capI_iff, isZ_iff, eqN_iff, roomI_iff, nI_def, ssz_def, tN_def, iadd64, isub64, imul64, conv64, conv8, conv32, iadd32, imul32, irem_pos, iquo64, iquo32, imin_l, imin_r, imax_l, imax_r, Bool.not_eq_true', ← Bool.not_eq_true, Bool.not_eq_eq_eq_not, Bool.not_true, Bool.not_false, not_true_eq_false, not_false_eq_true, List.length_append, List.length_cons, List.length_nil, List.length_take, List.length_drop, List.length_set, List.length_replicate] <;> omega) | omega)).trans ?_ | refine (bnd alive_ok).trans ?_ | refine (bnd f1).trans ?_ | refine (bnd q).trans ?_ | refine Eq.trans (Sum.elim_inl _ _ _) ?_ | refine Eq.trans (Sum.elim_inr _ _ _) ?_)
      rfl
    have q := q1 hg4
    have hg := good_of w1 hg4
    obtain ⟨c, rfl⟩ : ∃ c : Nat, x2 = (c : Int) := ⟨x2.toNat, by omega⟩
    obtain ⟨e, rfl⟩ : ∃ c : Nat, x3 = (c : Int) := ⟨x3.toNat, by omega⟩
    have hk : irem .i64 (conv .i64 (c : Int)) (iadd .i64 (nI x1.length) 1) = ((c % (x1.length + 1) : Nat) : Int) := by
      rw [conv64 (by omega), nI_def, iadd64 (by omega), irem_pos (by omega)]; simp
    have hkl : c % (x1.length + 1) ≤ x1.length := by have := Nat.mod_lt c (show 0 < x1.length + 1 by omega); omega
    generalize c % (x1.length + 1) = k at hk hkl
    obtain ⟨s, u1, u2⟩ := safe_l1 (x3 := (e : Int)) hg h30 hk _ 0 0 [] 0 rfl (by omega) rfl (by simp [cat]) (by rw [if_neg (by omega)])
    have hcl := cat_len hg
    have hck := cat_mono2 (L := x1) hkl
    rw [List.take_length] at hck
    have D : Dk (cat x1) ((cat (x1.take k)).length : Int) 1048576 := ⟨cat_bytes hg, by omega, by omega, by omega, by omega, by omega⟩
    obtain ⟨n, hn, hnl, hns⟩ := crash_n D e
    have cr := (crash_ok D rfl (by omega) hn).1
    have D2 := D.take hnl (s' := (n : Int)) (by omega) (by omega)
    obtain ⟨w, v1, v2, v3⟩ := cut_at x1 n
    have ht := all_take hg n w v1 v2 v3
    have hwk : k ≤ w := by
      rcases Nat.lt_or_ge w k with h | h
      · rcases v3 with v3 | v3
        · omega
        · have := cat_mono2 (L := x1) (show w + 1 ≤ k by omega); omega
      · exact h
    have rc := records_ok D2
    rw [ht] at rc
    have rp := (repair_ok D2).1
    have D3 := D2.repair
    have ec : List.take (cat (x1.take w)).length ((cat x1).take n) = cat (x1.take w) := by
      rw [List.take_take, Nat.min_eq_left v2, cat_cut]
    have em : imin (n : Int) ((cat (x1.take w)).length : Int) = ((cat (x1.take w)).length : Int) := imin_r (by omega)
    rw [ht] at rp D3
    simp only [ec, em] at rp D3
    have hgw := hg.take w
    have rc3 := records_ok D3
    rw [all_cat0 hgw] at rc3
    have hm : Bytes [109, 111, 114, 101] := .cons (by omega) (.cons (by omega) (.cons (by omega) (.cons (by omega) .nil)))
    have hlw : (x1.take w).length = w := by rw [List.length_take]; omega
    have ap := (append_ok D3 hm (by simp) (by simp; omega)).1
    have D4 := D3.more hm (by simp) (by simp; omega) (by simp; omega)
    have rc4 := records_ok D4
    have hc4 : cat (x1.take w) ++ fr [109, 111, 114, 101] = cat (x1.take w ++ [[109, 111, 114, 101]]) := by rw [cat_append]; rfl
    have hg4' : good (x1.take w ++ [[109, 111, 114, 101]]) := fun y hy => by
      rcases List.mem_append.1 hy with h | h
      · exact hgw y h
      · simp at h; subst h; exact ⟨hm, by simp⟩
    rw [hc4, all_cat0 hg4', ← hc4] at rc4
    have g4 : (x1.take w ++ [[109, 111, 114, 101]])[(x1.take w).length]? = some [109, 111, 114, 101] := by simp
    have htake : (x1.take w) = List.take (x1.take w).length x1 := by rw [hlw]
    have hln : ((cat x1).take n).length = n := by rw [List.length_take]; omega
    have fin : eqS (strOf [109, 111, 114, 101]) (ByteArray.mk #[109, 111, 114, 101]) = true := by rw [eqS_iff]; rfl
    repeat (first | refine (if_pos (by first | with_reducible rfl | assumption | (simp (disch := omega) only [ltI_iff, eqI_iff, eqS_iff, eqB_iff, inI_iff, leI_iff, capI_iff, isZ_iff, eqN_iff, roomI_iff, nI_def, ssz_def, tN_def, iadd64, isub64, imul64, conv64, conv8, conv32, iadd32, imul32, irem_pos, iquo64, iquo32, imin_l, imin_r, imax_l, imax_r, Bool.not_eq_true', ← Bool.not_eq_true, Bool.not_eq_eq_eq_not, Bool.not_true, Bool.not_false, not_true_eq_false, not_false_eq_true, List.length_append, List.length_cons, List.length_nil, List.length_take, List.length_drop, List.length_set, List.length_replicate] <;> omega) | omega)).trans ?_ | refine (if_neg (by first | with_reducible rfl | assumption | (simp (disch := omega) only [ltI_iff, eqI_iff, eqS_iff, eqB_iff, inI_iff, leI_iff, capI_iff, isZ_iff, eqN_iff, roomI_iff, nI_def, ssz_def, tN_def, iadd64, isub64, imul64, conv64, conv8, conv32, iadd32, imul32, irem_pos, iquo64, iquo32, imin_l, imin_r, imax_l, imax_r, Bool.not_eq_true', ← Bool.not_eq_true, Bool.not_eq_eq_eq_not, Bool.not_true, Bool.not_false, not_true_eq_false, not_false_eq_true, List.length_append, List.length_cons, List.length_nil, List.length_take, List.length_drop, List.length_set, List.length_replicate] <;> omega) | omega)).trans ?_ | refine (bnd alive_ok).trans ?_ | refine (bnd f1).trans ?_ | refine (bnd q).trans ?_ | refine (bnd u1).trans ?_ | refine Eq.trans (Sum.elim_inl _ _ _) ?_ | refine Eq.trans (Sum.elim_inr _ _ _) ?_)
    simp only [hk]
    by_cases hke : k = x1.length
    · rw [if_neg (by omega)] at u2
      subst hke
      have D0 : Dk (cat x1) s 1048576 := ⟨cat_bytes hg, by omega, by omega, by omega, by omega, by omega⟩
      have sy := sync_ok D0
      rw [List.take_length] at cr
      repeat (first | refine (if_pos (by first | with_reducible rfl | assumption | (simp (disch := omega) only [ltI_iff, eqI_iff, eqS_iff, eqB_iff, inI_iff, leI_iff, capI_iff, isZ_iff, eqN_iff, roomI_iff, nI_def, ssz_def, tN_def, iadd64, isub64, imul64, conv64, conv8, conv32, iadd32, imul32, irem_pos, iquo64, iquo32, imin_l, imin_r, imax_l, imax_r, Bool.not_eq_true', ← Bool.not_eq_true, Bool.not_eq_eq_eq_not, Bool.not_true, Bool.not_false, not_true_eq_false, not_false_eq_true, List.length_append, List.length_cons, List.length_nil, List.length_take, List.length_drop, List.length_set, List.length_replicate, hlw, hln] <;> omega) | omega)).trans ?_ | refine (if_neg (by first | with_reducible rfl | assumption | (simp (disch := omega) only [ltI_iff, eqI_iff, eqS_iff, eqB_iff, inI_iff, leI_iff, capI_iff, isZ_iff, eqN_iff, roomI_iff, nI_def, ssz_def, tN_def, iadd64, isub64, imul64, conv64, conv8, conv32, iadd32, imul32, irem_pos, iquo64, iquo32, imin_l, imin_r, imax_l, imax_r, Bool.not_eq_true', ← Bool.not_eq_true, Bool.not_eq_eq_eq_not, Bool.not_true, Bool.not_false, not_true_eq_false, not_false_eq_true, List.length_append, List.length_cons, List.length_nil, List.length_take, List.length_drop, List.length_set, List.length_replicate, hlw, hln] <;> omega) | omega)).trans ?_ | refine (bnd sy).trans ?_ | refine (bnd cr).trans ?_ | refine (bnd rc).trans ?_ | refine (bnd (same_ok (x := x1.take w) (y := List.take (x1.take w).length x1) htake (by omega))).trans ?_ | refine (bnd rp).trans ?_ | refine (bnd rc3).trans ?_ | refine (bnd (same_ok (x := x1.take w) (y := x1.take w) rfl (by omega))).trans ?_ | refine (bnd ap).trans ?_ | refine (bnd rc4).trans ?_ | refine (bnd g4).trans ?_ | refine Eq.trans (Sum.elim_inl _ _ _) ?_ | refine Eq.trans (Sum.elim_inr _ _ _) ?_)
      exact congrArg some fin
    · rw [if_pos (by omega)] at u2
      subst u2
      repeat (first | refine (if_pos (by first | with_reducible rfl | assumption | (simp (disch := omega) only [ltI_iff, eqI_iff, eqS_iff, eqB_iff, inI_iff, leI_iff, capI_iff, isZ_iff, eqN_iff, roomI_iff, nI_def, ssz_def, tN_def, iadd64, isub64, imul64, conv64, conv8, conv32, iadd32, imul32, irem_pos, iquo64, iquo32, imin_l, imin_r, imax_l, imax_r, Bool.not_eq_true', ← Bool.not_eq_true, Bool.not_eq_eq_eq_not, Bool.not_true, Bool.not_false, not_true_eq_false, not_false_eq_true, List.length_append, List.length_cons, List.length_nil, List.length_take, List.length_drop, List.length_set, List.length_replicate, hlw, hln] <;> omega) | omega)).trans ?_ | refine (if_neg (by first | with_reducible rfl | assumption | (simp (disch := omega) only [ltI_iff, eqI_iff, eqS_iff, eqB_iff, inI_iff, leI_iff, capI_iff, isZ_iff, eqN_iff, roomI_iff, nI_def, ssz_def, tN_def, iadd64, isub64, imul64, conv64, conv8, conv32, iadd32, imul32, irem_pos, iquo64, iquo32, imin_l, imin_r, imax_l, imax_r, Bool.not_eq_true', ← Bool.not_eq_true, Bool.not_eq_eq_eq_not, Bool.not_true, Bool.not_false, not_true_eq_false, not_false_eq_true, List.length_append, List.length_cons, List.length_nil, List.length_take, List.length_drop, List.length_set, List.length_replicate, hlw, hln] <;> omega) | omega)).trans ?_ | refine (bnd cr).trans ?_ | refine (bnd rc).trans ?_ | refine (bnd (same_ok (x := x1.take w) (y := List.take (x1.take w).length x1) htake (by omega))).trans ?_ | refine (bnd rp).trans ?_ | refine (bnd rc3).trans ?_ | refine (bnd (same_ok (x := x1.take w) (y := x1.take w) rfl (by omega))).trans ?_ | refine (bnd ap).trans ?_ | refine (bnd rc4).trans ?_ | refine (bnd g4).trans ?_ | refine Eq.trans (Sum.elim_inl _ _ _) ?_ | refine Eq.trans (Sum.elim_inr _ _ _) ?_)
      exact congrArg some fin
end Go.Ws
