/-
  The laws SumBack, SumTurned, SumBytes, SumJoins, SumSwaps, plainly.
  Conditions: none.
-/
import Derived.Test.YtmpoiddaolpjgaaZAlls
set_option linter.unusedVariables false
set_option linter.unusedSimpArgs false
namespace Go.Ws
set_option linter.unusedVariables false
set_option linter.unusedSimpArgs false
set_option maxHeartbeats 1000000

theorem fr_cons (l : List Int) : fr l = 1 :: ((l.length : Int) / 256) :: ((l.length : Int) % 256) :: (l ++ s4 (sumR (hd l ++ l))) := rfl
theorem s4_len (s : Int) : (s4 s).length = 4 := rfl
theorem first_fr {l : List Int} (h : l.length ≤ 4000) (r : List Int) : first (fr l ++ r) = (l, (l.length : Int) + 7, 0) := by
  have e : (l.length : Int) / 256 * 256 + (l.length : Int) % 256 = l.length := by omega
  have e2 : ((l ++ s4 (sumR (hd l ++ l)) ++ r).drop l.length).take 4 = s4 (sumR (hd l ++ l)) := by
    rw [List.append_assoc, List.drop_left, List.take_left' (s4_len _)]
  have e3 : (l ++ s4 (sumR (hd l ++ l)) ++ r).take l.length = l := by rw [List.append_assoc, List.take_left]
  have e4 : sumR (1 :: ((l.length : Int) / 256) :: ((l.length : Int) % 256) :: l) = sumR (hd l ++ l) := rfl
  rw [fr_cons, List.cons_append, List.cons_append, List.cons_append, first, e, if_pos (by simp [s4_len]; omega), Int.toNat_natCast, e3, e2, e4, if_pos rfl]
theorem all_fr {l : List Int} (hb : Bytes l) (h : l.length ≤ 4000) {r : List Int} (hr : Bytes r) : all (fr l ++ r) = (l :: (all r).1, l.length + 7 + (all r).2) := by
  have f := first_fr h r
  have q := all_ok ((fr_bytes hb h).append hr) (n := l.length + 7) (by rw [f]) (by rw [f]; simp)
  rw [q, f, ← fr_len l, List.drop_left]
theorem first_cut {l : List Int} (h : l.length ≤ 4000) (r : List Int) {k : Nat} (hk : k < l.length + 7) : ¬ (first ((fr l ++ r).take k)).2.2 = 0 := by
  rw [fr_cons]
  match k, hk with
  | 0, _ => simp [first]
  | 1, _ => simp [first]
  | 2, _ => simp [first]
  | k + 3, hk =>
    rw [List.cons_append, List.cons_append, List.cons_append, List.take_succ_cons, List.take_succ_cons, List.take_succ_cons, first, if_neg (by rw [List.length_take]; omega)]
    simp

/-- Frames behind one another. -/
def cat : List (List Int) → List Int
  | [] => []
  | l :: t => fr l ++ cat t
def good (L : List (List Int)) : Prop := ∀ l ∈ L, Bytes l ∧ l.length ≤ 300
theorem good.cons {l : List Int} {t : List (List Int)} (h : good (l :: t)) : (Bytes l ∧ l.length ≤ 300) ∧ good t := ⟨h l (by simp), fun x hx => h x (by simp [hx])⟩
theorem cat_append : ∀ (a b : List (List Int)), cat (a ++ b) = cat a ++ cat b
  | [], b => rfl
  | l :: a, b => by rw [List.cons_append, cat, cat_append a b, cat, List.append_assoc]
theorem cat_bytes : ∀ {L : List (List Int)}, good L → Bytes (cat L)
  | [], _ => Bytes.nil
  | l :: t, h => (fr_bytes h.cons.1.1 (by have := h.cons.1.2; omega)).append (cat_bytes h.cons.2)
theorem cat_len : ∀ {L : List (List Int)}, good L → (cat L).length ≤ 307 * L.length ∧ 7 * L.length ≤ (cat L).length
  | [], _ => ⟨Nat.le_refl _, Nat.le_refl _⟩
  | l :: t, h => by
    have := cat_len h.cons.2
    have h2 := h.cons.1.2
    simp only [cat, List.length_append, fr_len, List.length_cons]
    omega
theorem good.take {L : List (List Int)} (h : good L) (n : Nat) : good (L.take n) := fun l hl => h l (List.mem_of_mem_take hl)
theorem all_cat : ∀ {L : List (List Int)}, good L → ∀ {r : List Int}, Bytes r → all (cat L ++ r) = (L ++ (all r).1, (cat L).length + (all r).2)
  | [], _, r, _ => by simp [cat]
  | l :: t, h, r, hr => by
    rw [cat, List.append_assoc, all_fr h.cons.1.1 (by have := h.cons.1.2; omega) ((cat_bytes h.cons.2).append hr), all_cat h.cons.2 hr, List.length_append, fr_len]
    simp; omega
theorem all_nil : all [] = ([], 0) := rfl
/-- Of a beginning of them those that are whole. -/
theorem all_take : ∀ {L : List (List Int)}, good L → ∀ (k w : Nat), w ≤ L.length → (cat (L.take w)).length ≤ k → (w = L.length ∨ k < (cat (L.take (w + 1))).length) → all ((cat L).take k) = (L.take w, (cat (L.take w)).length)
  | [], _, k, w, hw, _, _ => by simp [cat, all_nil]
  | l :: t, h, k, 0, hw, _, h2 => by
    have hk : k < l.length + 7 := by
      rcases h2 with h2 | h2
      · simp at h2
      · simpa [cat, fr_len] using h2
    rw [cat, all_no (first_cut (by have := h.cons.1.2; omega) _ hk)]
    simp [cat]
  | l :: t, h, k, w + 1, hw, h1, h2 => by
    have h300 := h.cons.1.2
    simp only [List.take_succ_cons, cat, List.length_append, fr_len] at h1
    have ih := all_take h.cons.2 (k - (l.length + 7)) w (by simpa using hw) (by omega) (by
      rcases h2 with h2 | h2
      · left; simpa using h2
      · right
        simp only [List.take_succ_cons, cat, List.length_append, fr_len] at h2
        omega)
    have et : (cat (l :: t)).take k = fr l ++ (cat t).take (k - (l.length + 7)) := by
      rw [cat, List.take_append, fr_len, List.take_of_length_le (by rw [fr_len]; omega)]
    rw [et, all_fr h.cons.1.1 (by omega) ((cat_bytes h.cons.2).take _), ih]
    simp only [List.take_succ_cons, cat, List.length_append, fr_len]

/-! ### SumJoins -/
theorem joins_l0 {x1 : List (List Int)} {x2 : List Int} (hx : ∀ l ∈ x1, Bytes l) : ∀ (d i : Nat) (v n : Int) (L : List (List Int)) (a : List Int), 20 - i = d → i ≤ 20 → v = (i : Int) → n = (L.length : Int) → a = cat L → good L → L.length ≤ i →
    ∃ L', good L' ∧ L'.length ≤ 20 ∧ P_law03_SumJoins_l0 x1 x2 v n a = some (.inl ((L'.length : Int), cat L')) := by
  intro d
  induction d with
  | zero =>
    intro i v n L a hd hi hv hn ha hg hL
    refine ⟨L, hg, by omega, ?_⟩
    rw [P_law03_SumJoins_l0_eq]
    by_cases hl : i < x1.length
    · repeat (first | refine (if_pos (by first | with_reducible rfl | assumption | (simp (disch := omega) only [ltI_iff, eqI_iff, eqS_iff, eqB_iff, inI_iff, leI_iff, capI_iff, isZ_iff, eqN_iff, roomI_iff, nI_def, ssz_def, tN_def, iadd64, isub64, imul64, conv64, conv8, conv32, iadd32, imul32, irem_pos, iquo64, iquo32, Bool.not_eq_true', ← Bool.not_eq_true, Bool.not_eq_eq_eq_not, Bool.not_true, Bool.not_false, not_true_eq_false, not_false_eq_true, List.length_append, List.length_cons, List.length_nil, List.length_take, List.length_drop, List.length_set, List.length_replicate] <;> omega) | omega)).trans ?_ | refine (if_neg (by first | with_reducible rfl | assumption | (simp (disch := omega) only [ltI_iff, eqI_iff, eqS_iff, eqB_iff, inI_iff, leI_iff, capI_iff, isZ_iff, eqN_iff, roomI_iff, nI_def, ssz_def, tN_def, iadd64, isub64, imul64, conv64, conv8, conv32, iadd32, imul32, irem_pos, iquo64, iquo32, Bool.not_eq_true', ← Bool.not_eq_true, Bool.not_eq_eq_eq_not, Bool.not_true, Bool.not_false, not_true_eq_false, not_false_eq_true, List.length_append, List.length_cons, List.length_nil, List.length_take, List.length_drop, List.length_set, List.length_replicate] <;> omega) | omega)).trans ?_ | refine Eq.trans (Sum.elim_inl _ _ _) ?_ | refine Eq.trans (Sum.elim_inr _ _ _) ?_)
      rw [hn, ha]
    · repeat (first | refine (if_pos (by first | with_reducible rfl | assumption | (simp (disch := omega) only [ltI_iff, eqI_iff, eqS_iff, eqB_iff, inI_iff, leI_iff, capI_iff, isZ_iff, eqN_iff, roomI_iff, nI_def, ssz_def, tN_def, iadd64, isub64, imul64, conv64, conv8, conv32, iadd32, imul32, irem_pos, iquo64, iquo32, Bool.not_eq_true', ← Bool.not_eq_true, Bool.not_eq_eq_eq_not, Bool.not_true, Bool.not_false, not_true_eq_false, not_false_eq_true, List.length_append, List.length_cons, List.length_nil, List.length_take, List.length_drop, List.length_set, List.length_replicate] <;> omega) | omega)).trans ?_ | refine (if_neg (by first | with_reducible rfl | assumption | (simp (disch := omega) only [ltI_iff, eqI_iff, eqS_iff, eqB_iff, inI_iff, leI_iff, capI_iff, isZ_iff, eqN_iff, roomI_iff, nI_def, ssz_def, tN_def, iadd64, isub64, imul64, conv64, conv8, conv32, iadd32, imul32, irem_pos, iquo64, iquo32, Bool.not_eq_true', ← Bool.not_eq_true, Bool.not_eq_eq_eq_not, Bool.not_true, Bool.not_false, not_true_eq_false, not_false_eq_true, List.length_append, List.length_cons, List.length_nil, List.length_take, List.length_drop, List.length_set, List.length_replicate] <;> omega) | omega)).trans ?_ | refine Eq.trans (Sum.elim_inl _ _ _) ?_ | refine Eq.trans (Sum.elim_inr _ _ _) ?_)
      rw [hn, ha]
  | succ d ih =>
    intro i v n L a hd hi hv hn ha hg hL
    by_cases hl : i < x1.length
    · by_cases hb : 300 < x1[i].length
      · obtain ⟨L', q1, q2, q3⟩ := ih (i + 1) (iadd .i64 v 1) n L a (by omega) (by omega) (by first | with_reducible rfl | assumption | (simp (disch := omega) only [ltI_iff, eqI_iff, eqS_iff, eqB_iff, inI_iff, leI_iff, capI_iff, isZ_iff, eqN_iff, roomI_iff, nI_def, ssz_def, tN_def, iadd64, isub64, imul64, conv64, conv8, conv32, iadd32, imul32, irem_pos, iquo64, iquo32, Bool.not_eq_true', ← Bool.not_eq_true, Bool.not_eq_eq_eq_not, Bool.not_true, Bool.not_false, not_true_eq_false, not_false_eq_true, List.length_append, List.length_cons, List.length_nil, List.length_take, List.length_drop, List.length_set, List.length_replicate] <;> omega) | omega) hn ha hg (by omega)
        refine ⟨L', q1, q2, ?_⟩
        rw [P_law03_SumJoins_l0_eq]
        repeat (first | refine (if_pos (by first | with_reducible rfl | assumption | (simp (disch := omega) only [ltI_iff, eqI_iff, eqS_iff, eqB_iff, inI_iff, leI_iff, capI_iff, isZ_iff, eqN_iff, roomI_iff, nI_def, ssz_def, tN_def, iadd64, isub64, imul64, conv64, conv8, conv32, iadd32, imul32, irem_pos, iquo64, iquo32, Bool.not_eq_true', ← Bool.not_eq_true, Bool.not_eq_eq_eq_not, Bool.not_true, Bool.not_false, not_true_eq_false, not_false_eq_true, List.length_append, List.length_cons, List.length_nil, List.length_take, List.length_drop, List.length_set, List.length_replicate] <;> omega) | omega)).trans ?_ | refine (if_neg (by first | with_reducible rfl | assumption | (simp (disch := omega) only [ltI_iff, eqI_iff, eqS_iff, eqB_iff, inI_iff, leI_iff, capI_iff, isZ_iff, eqN_iff, roomI_iff, nI_def, ssz_def, tN_def, iadd64, isub64, imul64, conv64, conv8, conv32, iadd32, imul32, irem_pos, iquo64, iquo32, Bool.not_eq_true', ← Bool.not_eq_true, Bool.not_eq_eq_eq_not, Bool.not_true, Bool.not_false, not_true_eq_false, not_false_eq_true, List.length_append, List.length_cons, List.length_nil, List.length_take, List.length_drop, List.length_set, List.length_replicate] <;> omega) | omega)).trans ?_ | refine (bnd (geti hv hl)).trans ?_ | refine Eq.trans (Sum.elim_inl _ _ _) ?_ | refine Eq.trans (Sum.elim_inr _ _ _) ?_)
        exact q3
      · have hbi := hx _ (List.getElem_mem hl)
        have hg' : good (L ++ [x1[i]]) := fun l hl' => by
          rcases List.mem_append.1 hl' with h | h
          · exact hg l h
          · simp at h; subst h; exact ⟨hbi, by omega⟩
        obtain ⟨L', q1, q2, q3⟩ := ih (i + 1) (iadd .i64 v 1) (iadd .i64 n 1) (L ++ [x1[i]]) (a ++ fr x1[i]) (by omega) (by omega) (by first | with_reducible rfl | assumption | (simp (disch := omega) only [ltI_iff, eqI_iff, eqS_iff, eqB_iff, inI_iff, leI_iff, capI_iff, isZ_iff, eqN_iff, roomI_iff, nI_def, ssz_def, tN_def, iadd64, isub64, imul64, conv64, conv8, conv32, iadd32, imul32, irem_pos, iquo64, iquo32, Bool.not_eq_true', ← Bool.not_eq_true, Bool.not_eq_eq_eq_not, Bool.not_true, Bool.not_false, not_true_eq_false, not_false_eq_true, List.length_append, List.length_cons, List.length_nil, List.length_take, List.length_drop, List.length_set, List.length_replicate] <;> omega) | omega) (by first | with_reducible rfl | assumption | (simp (disch := omega) only [ltI_iff, eqI_iff, eqS_iff, eqB_iff, inI_iff, leI_iff, capI_iff, isZ_iff, eqN_iff, roomI_iff, nI_def, ssz_def, tN_def, iadd64, isub64, imul64, conv64, conv8, conv32, iadd32, imul32, irem_pos, iquo64, iquo32, Bool.not_eq_true', ← Bool.not_eq_true, Bool.not_eq_eq_eq_not, Bool.not_true, Bool.not_false, not_true_eq_false, not_false_eq_true, List.length_append, List.length_cons, List.length_nil, List.length_take, List.length_drop, List.length_set, List.length_replicate] <;> omega) | omega) (by rw [cat_append, ha]; simp [cat]) hg' (by simp; omega)
        refine ⟨L', q1, q2, ?_⟩
        have hcl := cat_len hg'
        rw [cat_append, ← ha] at hcl
        simp only [cat, List.append_nil, List.length_append, List.length_cons, List.length_nil] at hcl
        rw [P_law03_SumJoins_l0_eq]
        repeat (first | refine (if_pos (by first | with_reducible rfl | assumption | (simp (disch := omega) only [ltI_iff, eqI_iff, eqS_iff, eqB_iff, inI_iff, leI_iff, capI_iff, isZ_iff, eqN_iff, roomI_iff, nI_def, ssz_def, tN_def, iadd64, isub64, imul64, conv64, conv8, conv32, iadd32, imul32, irem_pos, iquo64, iquo32, Bool.not_eq_true', ← Bool.not_eq_true, Bool.not_eq_eq_eq_not, Bool.not_true, Bool.not_false, not_true_eq_false, not_false_eq_true, List.length_append, List.length_cons, List.length_nil, List.length_take, List.length_drop, List.length_set, List.length_replicate] <;> omega) | omega)).trans ?_ | refine (if_neg (by first | with_reducible rfl | assumption | (simp (disch := omega) only [ltI_iff, eqI_iff, eqS_iff, eqB_iff, inI_iff, leI_iff, capI_iff, isZ_iff, eqN_iff, roomI_iff, nI_def, ssz_def, tN_def, iadd64, isub64, imul64, conv64, conv8, conv32, iadd32, imul32, irem_pos, iquo64, iquo32, Bool.not_eq_true', ← Bool.not_eq_true, Bool.not_eq_eq_eq_not, Bool.not_true, Bool.not_false, not_true_eq_false, not_false_eq_true, List.length_append, List.length_cons, List.length_nil, List.length_take, List.length_drop, List.length_set, List.length_replicate] <;> omega) | omega)).trans ?_ | refine (bnd (geti hv hl)).trans ?_ | refine (bnd (frame_ok hbi (by omega)).1).trans ?_ | refine Eq.trans (Sum.elim_inl _ _ _) ?_ | refine Eq.trans (Sum.elim_inr _ _ _) ?_)
        exact q3
    · refine ⟨L, hg, by omega, ?_⟩
      rw [P_law03_SumJoins_l0_eq]
      repeat (first | refine (if_pos (by first | with_reducible rfl | assumption | (simp (disch := omega) only [ltI_iff, eqI_iff, eqS_iff, eqB_iff, inI_iff, leI_iff, capI_iff, isZ_iff, eqN_iff, roomI_iff, nI_def, ssz_def, tN_def, iadd64, isub64, imul64, conv64, conv8, conv32, iadd32, imul32, irem_pos, iquo64, iquo32, Bool.not_eq_true', ← Bool.not_eq_true, Bool.not_eq_eq_eq_not, Bool.not_true, Bool.not_false, not_true_eq_false, not_false_eq_true, List.length_append, List.length_cons, List.length_nil, List.length_take, List.length_drop, List.length_set, List.length_replicate] <;> omega) | omega)).trans ?_ | refine (if_neg (by first | with_reducible rfl | assumption | (simp (disch := omega) only [ltI_iff, eqI_iff, eqS_iff, eqB_iff, inI_iff, leI_iff, capI_iff, isZ_iff, eqN_iff, roomI_iff, nI_def, ssz_def, tN_def, iadd64, isub64, imul64, conv64, conv8, conv32, iadd32, imul32, irem_pos, iquo64, iquo32, Bool.not_eq_true', ← Bool.not_eq_true, Bool.not_eq_eq_eq_not, Bool.not_true, Bool.not_false, not_true_eq_false, not_false_eq_true, List.length_append, List.length_cons, List.length_nil, List.length_take, List.length_drop, List.length_set, List.length_replicate] <;> omega) | omega)).trans ?_ | refine Eq.trans (Sum.elim_inl _ _ _) ?_ | refine Eq.trans (Sum.elim_inr _ _ _) ?_)
      rw [hn, ha]
theorem bytes_w2 {x : List (List Int)} (w : w_t36 x) : ∀ l ∈ x, Bytes l := fun l hl => bytes_w (w.2 l hl)
theorem plain_joins (x1 : List (List Int)) (x2 : List Int) (w1 : w_t36 x1) (w2 : w_t22 x2) : P_law03_SumJoins x1 x2 = some true := by
  have hb := bytes_w w2
  rw [P_law03_SumJoins_eq]
  by_cases h3 : 3000 < x2.length
  · repeat (first | refine (if_pos (by first | with_reducible rfl | assumption | (simp (disch := omega) only [ltI_iff, eqI_iff, eqS_iff, eqB_iff, inI_iff, leI_iff, capI_iff, isZ_iff, eqN_iff, roomI_iff, nI_def, ssz_def, tN_def, iadd64, isub64, imul64, conv64, conv8, conv32, iadd32, imul32, irem_pos, iquo64, iquo32, Bool.not_eq_true', ← Bool.not_eq_true, Bool.not_eq_eq_eq_not, Bool.not_true, Bool.not_false, not_true_eq_false, not_false_eq_true, List.length_append, List.length_cons, List.length_nil, List.length_take, List.length_drop, List.length_set, List.length_replicate] <;> omega) | omega)).trans ?_ | refine (if_neg (by first | with_reducible rfl | assumption | (simp (disch := omega) only [ltI_iff, eqI_iff, eqS_iff, eqB_iff, inI_iff, leI_iff, capI_iff, isZ_iff, eqN_iff, roomI_iff, nI_def, ssz_def, tN_def, iadd64, isub64, imul64, conv64, conv8, conv32, iadd32, imul32, irem_pos, iquo64, iquo32, Bool.not_eq_true', ← Bool.not_eq_true, Bool.not_eq_eq_eq_not, Bool.not_true, Bool.not_false, not_true_eq_false, not_false_eq_true, List.length_append, List.length_cons, List.length_nil, List.length_take, List.length_drop, List.length_set, List.length_replicate] <;> omega) | omega)).trans ?_ | refine (bnd alive_ok).trans ?_ | refine Eq.trans (Sum.elim_inl _ _ _) ?_ | refine Eq.trans (Sum.elim_inr _ _ _) ?_)
    rfl
  obtain ⟨L, hg, hL, q⟩ := joins_l0 (x2 := x2) (bytes_w2 w1) 20 0 0 0 [] [] rfl (by omega) rfl rfl rfl (fun l h => by cases h) (by simp)
  have hcl := cat_len hg
  have hcb := cat_bytes hg
  have ha := all_cat hg hb
  have hln := all_len (x2.length + 1) x2 hb
  have hln2 : (all x2).1.length ≤ 3000 ∧ (all x2).2 ≤ 3000 := by unfold all; omega
  have e1 : ((all (cat L ++ x2)).1.length : Int) = L.length + (all x2).1.length := by rw [ha]; simp
  have e1' : (all (cat L ++ x2)).1.length = L.length + (all x2).1.length := by omega
  have e2 : ((all (cat L ++ x2)).2 : Int) = (cat L).length + (all x2).2 := by rw [ha]; simp
  repeat (first | refine (if_pos (by first | with_reducible rfl | assumption | (simp (disch := omega) only [ltI_iff, eqI_iff, eqS_iff, eqB_iff, inI_iff, leI_iff, capI_iff, isZ_iff, eqN_iff, roomI_iff, nI_def, ssz_def, tN_def, iadd64, isub64, imul64, conv64, conv8, conv32, iadd32, imul32, irem_pos, iquo64, iquo32, Bool.not_eq_true', ← Bool.not_eq_true, Bool.not_eq_eq_eq_not, Bool.not_true, Bool.not_false, not_true_eq_false, not_false_eq_true, List.length_append, List.length_cons, List.length_nil, List.length_take, List.length_drop, List.length_set, List.length_replicate, e1, e1', e2] <;> omega) | omega)).trans ?_ | refine (if_neg (by first | with_reducible rfl | assumption | (simp (disch := omega) only [ltI_iff, eqI_iff, eqS_iff, eqB_iff, inI_iff, leI_iff, capI_iff, isZ_iff, eqN_iff, roomI_iff, nI_def, ssz_def, tN_def, iadd64, isub64, imul64, conv64, conv8, conv32, iadd32, imul32, irem_pos, iquo64, iquo32, Bool.not_eq_true', ← Bool.not_eq_true, Bool.not_eq_eq_eq_not, Bool.not_true, Bool.not_false, not_true_eq_false, not_false_eq_true, List.length_append, List.length_cons, List.length_nil, List.length_take, List.length_drop, List.length_set, List.length_replicate, e1, e1', e2] <;> omega) | omega)).trans ?_ | refine (bnd alive_ok).trans ?_ | refine (bnd q).trans ?_ | refine (bnd (sum_all (hcb.append hb) (by simp; omega))).trans ?_ | refine (bnd (sum_all hb (by omega))).trans ?_ | refine (bnd (same_ok (by rw [ha]; simp [tN_nat]) (by rw [List.length_drop, e1']; omega))).trans ?_ | refine Eq.trans (Sum.elim_inl _ _ _) ?_ | refine Eq.trans (Sum.elim_inr _ _ _) ?_)
  rfl

/-! ### SumBack -/
def ends (L : List (List Int)) : List Int := (List.range L.length).map fun i => ((cat (L.take (i + 1))).length : Int)
theorem ends_snoc (L : List (List Int)) (l : List Int) : ends (L ++ [l]) = ends L ++ [((cat (L ++ [l])).length : Int)] := by
  unfold ends
  rw [List.length_append, List.length_cons, List.length_nil, List.range_succ, List.map_append]
  congr 1
  · apply List.map_congr_left
    intro i hi
    rw [List.mem_range] at hi
    rw [List.take_append_of_le_length (by omega)]
  · simp [List.take_of_length_le]
theorem back_l0 {x1 : List (List Int)} {x2 : Int} (hx : ∀ l ∈ x1, Bytes l) : ∀ (d i : Nat) (v : Int) (L : List (List Int)) (a : List Int) (e : List Int), 20 - i = d → i ≤ 20 → v = (i : Int) → a = cat L → e = ends L → good L → L.length ≤ i →
    ∃ L', good L' ∧ L'.length ≤ 20 ∧ P_law03_SumBack_l0 x1 x2 v a L e = some (.inl (cat L', L', ends L')) := by
  intro d
  induction d with
  | zero =>
    intro i v L a e hd hi hv ha he hg hL
    refine ⟨L, hg, by omega, ?_⟩
    rw [P_law03_SumBack_l0_eq]
    by_cases hl : i < x1.length
    · repeat (first | refine (if_pos (by first | with_reducible rfl | assumption | (simp (disch := omega) only [ltI_iff, eqI_iff, eqS_iff, eqB_iff, inI_iff, leI_iff, capI_iff, isZ_iff, eqN_iff, roomI_iff, nI_def, ssz_def, tN_def, iadd64, isub64, imul64, conv64, conv8, conv32, iadd32, imul32, irem_pos, iquo64, iquo32, Bool.not_eq_true', ← Bool.not_eq_true, Bool.not_eq_eq_eq_not, Bool.not_true, Bool.not_false, not_true_eq_false, not_false_eq_true, List.length_append, List.length_cons, List.length_nil, List.length_take, List.length_drop, List.length_set, List.length_replicate] <;> omega) | omega)).trans ?_ | refine (if_neg (by first | with_reducible rfl | assumption | (simp (disch := omega) only [ltI_iff, eqI_iff, eqS_iff, eqB_iff, inI_iff, leI_iff, capI_iff, isZ_iff, eqN_iff, roomI_iff, nI_def, ssz_def, tN_def, iadd64, isub64, imul64, conv64, conv8, conv32, iadd32, imul32, irem_pos, iquo64, iquo32, Bool.not_eq_true', ← Bool.not_eq_true, Bool.not_eq_eq_eq_not, Bool.not_true, Bool.not_false, not_true_eq_false, not_false_eq_true, List.length_append, List.length_cons, List.length_nil, List.length_take, List.length_drop, List.length_set, List.length_replicate] <;> omega) | omega)).trans ?_ | refine Eq.trans (Sum.elim_inl _ _ _) ?_ | refine Eq.trans (Sum.elim_inr _ _ _) ?_)
      rw [he, ha]
    · repeat (first | refine (if_pos (by first | with_reducible rfl | assumption | (simp (disch := omega) only [ltI_iff, eqI_iff, eqS_iff, eqB_iff, inI_iff, leI_iff, capI_iff, isZ_iff, eqN_iff, roomI_iff, nI_def, ssz_def, tN_def, iadd64, isub64, imul64, conv64, conv8, conv32, iadd32, imul32, irem_pos, iquo64, iquo32, Bool.not_eq_true', ← Bool.not_eq_true, Bool.not_eq_eq_eq_not, Bool.not_true, Bool.not_false, not_true_eq_false, not_false_eq_true, List.length_append, List.length_cons, List.length_nil, List.length_take, List.length_drop, List.length_set, List.length_replicate] <;> omega) | omega)).trans ?_ | refine (if_neg (by first | with_reducible rfl | assumption | (simp (disch := omega) only [ltI_iff, eqI_iff, eqS_iff, eqB_iff, inI_iff, leI_iff, capI_iff, isZ_iff, eqN_iff, roomI_iff, nI_def, ssz_def, tN_def, iadd64, isub64, imul64, conv64, conv8, conv32, iadd32, imul32, irem_pos, iquo64, iquo32, Bool.not_eq_true', ← Bool.not_eq_true, Bool.not_eq_eq_eq_not, Bool.not_true, Bool.not_false, not_true_eq_false, not_false_eq_true, List.length_append, List.length_cons, List.length_nil, List.length_take, List.length_drop, List.length_set, List.length_replicate] <;> omega) | omega)).trans ?_ | refine Eq.trans (Sum.elim_inl _ _ _) ?_ | refine Eq.trans (Sum.elim_inr _ _ _) ?_)
      rw [he, ha]
  | succ d ih =>
    intro i v L a e hd hi hv ha he hg hL
    by_cases hl : i < x1.length
    · by_cases hb : 300 < x1[i].length
      · obtain ⟨L', q1, q2, q3⟩ := ih (i + 1) (iadd .i64 v 1) L a e (by omega) (by omega) (by first | with_reducible rfl | assumption | (simp (disch := omega) only [ltI_iff, eqI_iff, eqS_iff, eqB_iff, inI_iff, leI_iff, capI_iff, isZ_iff, eqN_iff, roomI_iff, nI_def, ssz_def, tN_def, iadd64, isub64, imul64, conv64, conv8, conv32, iadd32, imul32, irem_pos, iquo64, iquo32, Bool.not_eq_true', ← Bool.not_eq_true, Bool.not_eq_eq_eq_not, Bool.not_true, Bool.not_false, not_true_eq_false, not_false_eq_true, List.length_append, List.length_cons, List.length_nil, List.length_take, List.length_drop, List.length_set, List.length_replicate] <;> omega) | omega) ha he hg (by omega)
        refine ⟨L', q1, q2, ?_⟩
        rw [P_law03_SumBack_l0_eq]
        repeat (first | refine (if_pos (by first | with_reducible rfl | assumption | (simp (disch := omega) only [ltI_iff, eqI_iff, eqS_iff, eqB_iff, inI_iff, leI_iff, capI_iff, isZ_iff, eqN_iff, roomI_iff, nI_def, ssz_def, tN_def, iadd64, isub64, imul64, conv64, conv8, conv32, iadd32, imul32, irem_pos, iquo64, iquo32, Bool.not_eq_true', ← Bool.not_eq_true, Bool.not_eq_eq_eq_not, Bool.not_true, Bool.not_false, not_true_eq_false, not_false_eq_true, List.length_append, List.length_cons, List.length_nil, List.length_take, List.length_drop, List.length_set, List.length_replicate] <;> omega) | omega)).trans ?_ | refine (if_neg (by first | with_reducible rfl | assumption | (simp (disch := omega) only [ltI_iff, eqI_iff, eqS_iff, eqB_iff, inI_iff, leI_iff, capI_iff, isZ_iff, eqN_iff, roomI_iff, nI_def, ssz_def, tN_def, iadd64, isub64, imul64, conv64, conv8, conv32, iadd32, imul32, irem_pos, iquo64, iquo32, Bool.not_eq_true', ← Bool.not_eq_true, Bool.not_eq_eq_eq_not, Bool.not_true, Bool.not_false, not_true_eq_false, not_false_eq_true, List.length_append, List.length_cons, List.length_nil, List.length_take, List.length_drop, List.length_set, List.length_replicate] <;> omega) | omega)).trans ?_ | refine (bnd (geti hv hl)).trans ?_ | refine Eq.trans (Sum.elim_inl _ _ _) ?_ | refine Eq.trans (Sum.elim_inr _ _ _) ?_)
        exact q3
      · have hbi := hx _ (List.getElem_mem hl)
        have hg' : good (L ++ [x1[i]]) := fun l hl' => by
          rcases List.mem_append.1 hl' with h | h
          · exact hg l h
          · simp at h; subst h; exact ⟨hbi, by omega⟩
        have hc : cat (L ++ [x1[i]]) = a ++ fr x1[i] := by rw [cat_append, ha]; simp [cat]
        obtain ⟨L', q1, q2, q3⟩ := ih (i + 1) (iadd .i64 v 1) (L ++ [x1[i]]) (a ++ fr x1[i]) (e ++ [nI (a ++ fr x1[i]).length]) (by omega) (by omega) (by first | with_reducible rfl | assumption | (simp (disch := omega) only [ltI_iff, eqI_iff, eqS_iff, eqB_iff, inI_iff, leI_iff, capI_iff, isZ_iff, eqN_iff, roomI_iff, nI_def, ssz_def, tN_def, iadd64, isub64, imul64, conv64, conv8, conv32, iadd32, imul32, irem_pos, iquo64, iquo32, Bool.not_eq_true', ← Bool.not_eq_true, Bool.not_eq_eq_eq_not, Bool.not_true, Bool.not_false, not_true_eq_false, not_false_eq_true, List.length_append, List.length_cons, List.length_nil, List.length_take, List.length_drop, List.length_set, List.length_replicate] <;> omega) | omega) hc.symm (by rw [ends_snoc, hc, he, nI_def]) hg' (by simp; omega)
        refine ⟨L', q1, q2, ?_⟩
        have hcl := cat_len hg'
        rw [hc] at hcl
        simp only [List.length_append, List.length_cons, List.length_nil] at hcl
        have hel : e.length = L.length := by rw [he]; simp [ends]
        have hf := fr_len x1[i]
        rw [P_law03_SumBack_l0_eq]
        repeat (first | refine (if_pos (by first | with_reducible rfl | assumption | (simp (disch := omega) only [ltI_iff, eqI_iff, eqS_iff, eqB_iff, inI_iff, leI_iff, capI_iff, isZ_iff, eqN_iff, roomI_iff, nI_def, ssz_def, tN_def, iadd64, isub64, imul64, conv64, conv8, conv32, iadd32, imul32, irem_pos, iquo64, iquo32, Bool.not_eq_true', ← Bool.not_eq_true, Bool.not_eq_eq_eq_not, Bool.not_true, Bool.not_false, not_true_eq_false, not_false_eq_true, List.length_append, List.length_cons, List.length_nil, List.length_take, List.length_drop, List.length_set, List.length_replicate, hel, hf] <;> omega) | omega)).trans ?_ | refine (if_neg (by first | with_reducible rfl | assumption | (simp (disch := omega) only [ltI_iff, eqI_iff, eqS_iff, eqB_iff, inI_iff, leI_iff, capI_iff, isZ_iff, eqN_iff, roomI_iff, nI_def, ssz_def, tN_def, iadd64, isub64, imul64, conv64, conv8, conv32, iadd32, imul32, irem_pos, iquo64, iquo32, Bool.not_eq_true', ← Bool.not_eq_true, Bool.not_eq_eq_eq_not, Bool.not_true, Bool.not_false, not_true_eq_false, not_false_eq_true, List.length_append, List.length_cons, List.length_nil, List.length_take, List.length_drop, List.length_set, List.length_replicate, hel, hf] <;> omega) | omega)).trans ?_ | refine (bnd (geti hv hl)).trans ?_ | refine (bnd (frame_ok hbi (by omega)).1).trans ?_ | refine Eq.trans (Sum.elim_inl _ _ _) ?_ | refine Eq.trans (Sum.elim_inr _ _ _) ?_)
        exact q3
    · refine ⟨L, hg, by omega, ?_⟩
      rw [P_law03_SumBack_l0_eq]
      repeat (first | refine (if_pos (by first | with_reducible rfl | assumption | (simp (disch := omega) only [ltI_iff, eqI_iff, eqS_iff, eqB_iff, inI_iff, leI_iff, capI_iff, isZ_iff, eqN_iff, roomI_iff, nI_def, ssz_def, tN_def, iadd64, isub64, imul64, conv64, conv8, conv32, iadd32, imul32, irem_pos, iquo64, iquo32, Bool.not_eq_true', ← Bool.not_eq_true, Bool.not_eq_eq_eq_not, Bool.not_true, Bool.not_false, not_true_eq_false, not_false_eq_true, List.length_append, List.length_cons, List.length_nil, List.length_take, List.length_drop, List.length_set, List.length_replicate] <;> omega) | omega)).trans ?_ | refine (if_neg (by first | with_reducible rfl | assumption | (simp (disch := omega) only [ltI_iff, eqI_iff, eqS_iff, eqB_iff, inI_iff, leI_iff, capI_iff, isZ_iff, eqN_iff, roomI_iff, nI_def, ssz_def, tN_def, iadd64, isub64, imul64, conv64, conv8, conv32, iadd32, imul32, irem_pos, iquo64, iquo32, Bool.not_eq_true', ← Bool.not_eq_true, Bool.not_eq_eq_eq_not, Bool.not_true, Bool.not_false, not_true_eq_false, not_false_eq_true, List.length_append, List.length_cons, List.length_nil, List.length_take, List.length_drop, List.length_set, List.length_replicate] <;> omega) | omega)).trans ?_ | refine Eq.trans (Sum.elim_inl _ _ _) ?_ | refine Eq.trans (Sum.elim_inr _ _ _) ?_)
      rw [he, ha]
theorem cat_mono {L : List (List Int)} {a b : Nat} (h : a ≤ b) : (cat (L.take a)).length ≤ (cat (L.take b)).length := by
  obtain ⟨c, rfl⟩ : ∃ c, b = a + c := ⟨b - a, by omega⟩
  rw [List.take_add, cat_append, List.length_append]; omega
theorem back_l1 {x2 : Int} {k : Nat} {x5 : List Int × List (List Int) × List Int} {L : List (List Int)} (hg : good L) (hL : L.length ≤ 20) (h1 : x5.1 = cat L) (h3 : x5.2.2 = ends L) (hk : irem .i64 (conv .i64 x2) (iadd .i64 (nI x5.1.length) 1) = (k : Int)) :
    ∀ (d i w : Nat) (v v2 v3 : Int), L.length - i = d → i ≤ L.length → v = (i : Int) → v2 = (w : Int) → v3 = ((cat (L.take w)).length : Int) → w ≤ i → (cat (L.take w)).length ≤ k → (w = i ∨ k < (cat (L.take (w + 1))).length) →
    ∃ w', w' ≤ L.length ∧ (cat (L.take w')).length ≤ k ∧ (w' = L.length ∨ k < (cat (L.take (w' + 1))).length) ∧ P_law03_SumBack_l1 x2 x5 v v2 v3 = some ((w' : Int), ((cat (L.take w')).length : Int)) := by
  have hel : x5.2.2.length = L.length := by rw [h3]; simp [ends]
  intro d
  induction d with
  | zero =>
    intro i w v v2 v3 hd hi hv hv2 hv3 hw hw2 hw3
    refine ⟨w, by omega, hw2, by omega, ?_⟩
    rw [P_law03_SumBack_l1_eq]
    repeat (first | refine (if_pos (by first | with_reducible rfl | assumption | (simp (disch := omega) only [ltI_iff, eqI_iff, eqS_iff, eqB_iff, inI_iff, leI_iff, capI_iff, isZ_iff, eqN_iff, roomI_iff, nI_def, ssz_def, tN_def, iadd64, isub64, imul64, conv64, conv8, conv32, iadd32, imul32, irem_pos, iquo64, iquo32, Bool.not_eq_true', ← Bool.not_eq_true, Bool.not_eq_eq_eq_not, Bool.not_true, Bool.not_false, not_true_eq_false, not_false_eq_true, List.length_append, List.length_cons, List.length_nil, List.length_take, List.length_drop, List.length_set, List.length_replicate, hel] <;> omega) | omega)).trans ?_ | refine (if_neg (by first | with_reducible rfl | assumption | (simp (disch := omega) only [ltI_iff, eqI_iff, eqS_iff, eqB_iff, inI_iff, leI_iff, capI_iff, isZ_iff, eqN_iff, roomI_iff, nI_def, ssz_def, tN_def, iadd64, isub64, imul64, conv64, conv8, conv32, iadd32, imul32, irem_pos, iquo64, iquo32, Bool.not_eq_true', ← Bool.not_eq_true, Bool.not_eq_eq_eq_not, Bool.not_true, Bool.not_false, not_true_eq_false, not_false_eq_true, List.length_append, List.length_cons, List.length_nil, List.length_take, List.length_drop, List.length_set, List.length_replicate, hel] <;> omega) | omega)).trans ?_ | refine Eq.trans (Sum.elim_inl _ _ _) ?_ | refine Eq.trans (Sum.elim_inr _ _ _) ?_)
    rw [hv2, hv3]
  | succ d ih =>
    intro i w v v2 v3 hd hi hv hv2 hv3 hw hw2 hw3
    have g : x5.2.2[i]? = some ((cat (L.take (i + 1))).length : Int) := by
      rw [h3, ends, List.getElem?_map, List.getElem?_range (by omega)]; rfl
    rw [P_law03_SumBack_l1_eq]
    simp only [hk]
    by_cases hc : k < (cat (L.take (i + 1))).length
    · obtain ⟨w', q1, q2, q3, q4⟩ := ih (i + 1) w (iadd .i64 v 1) v2 v3 (by omega) (by omega) (by first | with_reducible rfl | assumption | (simp (disch := omega) only [ltI_iff, eqI_iff, eqS_iff, eqB_iff, inI_iff, leI_iff, capI_iff, isZ_iff, eqN_iff, roomI_iff, nI_def, ssz_def, tN_def, iadd64, isub64, imul64, conv64, conv8, conv32, iadd32, imul32, irem_pos, iquo64, iquo32, Bool.not_eq_true', ← Bool.not_eq_true, Bool.not_eq_eq_eq_not, Bool.not_true, Bool.not_false, not_true_eq_false, not_false_eq_true, List.length_append, List.length_cons, List.length_nil, List.length_take, List.length_drop, List.length_set, List.length_replicate] <;> omega) | omega) hv2 hv3 (by omega) hw2 (by
        rcases hw3 with rfl | h
        · exact .inr hc
        · exact .inr h)
      refine ⟨w', q1, q2, q3, ?_⟩
      repeat (first | refine (if_pos (by first | with_reducible rfl | assumption | (simp (disch := omega) only [ltI_iff, eqI_iff, eqS_iff, eqB_iff, inI_iff, leI_iff, capI_iff, isZ_iff, eqN_iff, roomI_iff, nI_def, ssz_def, tN_def, iadd64, isub64, imul64, conv64, conv8, conv32, iadd32, imul32, irem_pos, iquo64, iquo32, Bool.not_eq_true', ← Bool.not_eq_true, Bool.not_eq_eq_eq_not, Bool.not_true, Bool.not_false, not_true_eq_false, not_false_eq_true, List.length_append, List.length_cons, List.length_nil, List.length_take, List.length_drop, List.length_set, List.length_replicate, hel] <;> omega) | omega)).trans ?_ | refine (if_neg (by first | with_reducible rfl | assumption | (simp (disch := omega) only [ltI_iff, eqI_iff, eqS_iff, eqB_iff, inI_iff, leI_iff, capI_iff, isZ_iff, eqN_iff, roomI_iff, nI_def, ssz_def, tN_def, iadd64, isub64, imul64, conv64, conv8, conv32, iadd32, imul32, irem_pos, iquo64, iquo32, Bool.not_eq_true', ← Bool.not_eq_true, Bool.not_eq_eq_eq_not, Bool.not_true, Bool.not_false, not_true_eq_false, not_false_eq_true, List.length_append, List.length_cons, List.length_nil, List.length_take, List.length_drop, List.length_set, List.length_replicate, hel] <;> omega) | omega)).trans ?_ | refine (bnd (getn hv g)).trans ?_ | refine Eq.trans (Sum.elim_inl _ _ _) ?_ | refine Eq.trans (Sum.elim_inr _ _ _) ?_)
      exact q4
    · have hwi : w = i := by
        rcases hw3 with h | h
        · exact h
        · have := cat_mono (L := L) (show w + 1 ≤ i + 1 by omega); omega
      subst hwi
      obtain ⟨w', q1, q2, q3, q4⟩ := ih (w + 1) (w + 1) (iadd .i64 v 1) (iadd .i64 v2 1) ((cat (L.take (w + 1))).length : Int) (by omega) (by omega) (by first | with_reducible rfl | assumption | (simp (disch := omega) only [ltI_iff, eqI_iff, eqS_iff, eqB_iff, inI_iff, leI_iff, capI_iff, isZ_iff, eqN_iff, roomI_iff, nI_def, ssz_def, tN_def, iadd64, isub64, imul64, conv64, conv8, conv32, iadd32, imul32, irem_pos, iquo64, iquo32, Bool.not_eq_true', ← Bool.not_eq_true, Bool.not_eq_eq_eq_not, Bool.not_true, Bool.not_false, not_true_eq_false, not_false_eq_true, List.length_append, List.length_cons, List.length_nil, List.length_take, List.length_drop, List.length_set, List.length_replicate] <;> omega) | omega) (by first | with_reducible rfl | assumption | (simp (disch := omega) only [ltI_iff, eqI_iff, eqS_iff, eqB_iff, inI_iff, leI_iff, capI_iff, isZ_iff, eqN_iff, roomI_iff, nI_def, ssz_def, tN_def, iadd64, isub64, imul64, conv64, conv8, conv32, iadd32, imul32, irem_pos, iquo64, iquo32, Bool.not_eq_true', ← Bool.not_eq_true, Bool.not_eq_eq_eq_not, Bool.not_true, Bool.not_false, not_true_eq_false, not_false_eq_true, List.length_append, List.length_cons, List.length_nil, List.length_take, List.length_drop, List.length_set, List.length_replicate] <;> omega) | omega) rfl (by omega) (by omega) (.inl rfl)
      refine ⟨w', q1, q2, q3, ?_⟩
      repeat (first | refine (if_pos (by first | with_reducible rfl | assumption | (simp (disch := omega) only [ltI_iff, eqI_iff, eqS_iff, eqB_iff, inI_iff, leI_iff, capI_iff, isZ_iff, eqN_iff, roomI_iff, nI_def, ssz_def, tN_def, iadd64, isub64, imul64, conv64, conv8, conv32, iadd32, imul32, irem_pos, iquo64, iquo32, Bool.not_eq_true', ← Bool.not_eq_true, Bool.not_eq_eq_eq_not, Bool.not_true, Bool.not_false, not_true_eq_false, not_false_eq_true, List.length_append, List.length_cons, List.length_nil, List.length_take, List.length_drop, List.length_set, List.length_replicate, hel] <;> omega) | omega)).trans ?_ | refine (if_neg (by first | with_reducible rfl | assumption | (simp (disch := omega) only [ltI_iff, eqI_iff, eqS_iff, eqB_iff, inI_iff, leI_iff, capI_iff, isZ_iff, eqN_iff, roomI_iff, nI_def, ssz_def, tN_def, iadd64, isub64, imul64, conv64, conv8, conv32, iadd32, imul32, irem_pos, iquo64, iquo32, Bool.not_eq_true', ← Bool.not_eq_true, Bool.not_eq_eq_eq_not, Bool.not_true, Bool.not_false, not_true_eq_false, not_false_eq_true, List.length_append, List.length_cons, List.length_nil, List.length_take, List.length_drop, List.length_set, List.length_replicate, hel] <;> omega) | omega)).trans ?_ | refine (bnd (getn hv g)).trans ?_ | refine Eq.trans (Sum.elim_inl _ _ _) ?_ | refine Eq.trans (Sum.elim_inr _ _ _) ?_)
      exact q4
theorem plain_back (x1 : List (List Int)) (x2 : Int) (w1 : w_t36 x1) (w2 : w_t40 x2) : P_law03_SumBack x1 x2 = some true := by
  rw [P_law03_SumBack_eq]
  obtain ⟨L, hg, hL, q⟩ := back_l0 (x2 := x2) (bytes_w2 w1) 20 0 0 [] [] [] rfl (by omega) rfl rfl rfl (fun l h => by cases h) (by simp)
  have hcl := cat_len hg
  have hcb := cat_bytes hg
  simp only [w_t40] at w2
  obtain ⟨c, rfl⟩ : ∃ c : Nat, x2 = (c : Int) := ⟨x2.toNat, by omega⟩
  have hk : irem .i64 (conv .i64 (c : Int)) (iadd .i64 (nI (cat L).length) 1) = ((c % ((cat L).length + 1) : Nat) : Int) := by
    rw [conv64 (by omega), nI_def, iadd64 (by omega), irem_pos (by omega)]; simp
  have hkl : c % ((cat L).length + 1) ≤ (cat L).length := by have := Nat.mod_lt c (show 0 < (cat L).length + 1 by omega); omega
  obtain ⟨w, u1, u2, u3, u4⟩ := back_l1 (x2 := (c : Int)) (x5 := (cat L, L, ends L)) hg hL rfl rfl hk _ 0 0 0 0 0 rfl (by omega) rfl rfl (by simp [cat]) (by omega) (by simp [cat]) (.inl rfl)
  generalize c % ((cat L).length + 1) = k at hk hkl u2 u3
  have ht := all_take hg k w u1 u2 u3
  have ha := all_cat hg Bytes.nil
  rw [List.append_nil, all_nil] at ha
  simp only [List.append_nil, Nat.add_zero] at ha
  by_cases hz : L = []
  · subst hz
    obtain rfl : w = 0 := by simpa using u1
    have hk0 : k = 0 := by simpa [cat] using hkl
    subst hk0
    simp only [cat, List.length_nil, List.take_nil] at hk u4 q
    repeat (first | refine (if_pos (by first | with_reducible rfl | assumption | (simp (disch := omega) only [ltI_iff, eqI_iff, eqS_iff, eqB_iff, inI_iff, leI_iff, capI_iff, isZ_iff, eqN_iff, roomI_iff, nI_def, ssz_def, tN_def, iadd64, isub64, imul64, conv64, conv8, conv32, iadd32, imul32, irem_pos, iquo64, iquo32, Bool.not_eq_true', ← Bool.not_eq_true, Bool.not_eq_eq_eq_not, Bool.not_true, Bool.not_false, not_true_eq_false, not_false_eq_true, List.length_append, List.length_cons, List.length_nil, List.length_take, List.length_drop, List.length_set, List.length_replicate, hk] <;> omega) | omega)).trans ?_ | refine (if_neg (by first | with_reducible rfl | assumption | (simp (disch := omega) only [ltI_iff, eqI_iff, eqS_iff, eqB_iff, inI_iff, leI_iff, capI_iff, isZ_iff, eqN_iff, roomI_iff, nI_def, ssz_def, tN_def, iadd64, isub64, imul64, conv64, conv8, conv32, iadd32, imul32, irem_pos, iquo64, iquo32, Bool.not_eq_true', ← Bool.not_eq_true, Bool.not_eq_eq_eq_not, Bool.not_true, Bool.not_false, not_true_eq_false, not_false_eq_true, List.length_append, List.length_cons, List.length_nil, List.length_take, List.length_drop, List.length_set, List.length_replicate, hk] <;> omega) | omega)).trans ?_ | refine (bnd alive_ok).trans ?_ | refine (bnd q).trans ?_ | refine (bnd u4).trans ?_ | refine (bnd (sum_all Bytes.nil (by simp))).trans ?_ | refine (bnd (same_ok (x := (all []).1) (y := []) rfl (by simp [all_nil]))).trans ?_ | refine Eq.trans (Sum.elim_inl _ _ _) ?_ | refine Eq.trans (Sum.elim_inr _ _ _) ?_)
    rfl
  · have hL0 : 0 < L.length := List.length_pos_iff.2 hz
    have u4 := u4
    repeat (first | refine (if_pos (by first | with_reducible rfl | assumption | (simp (disch := omega) only [ltI_iff, eqI_iff, eqS_iff, eqB_iff, inI_iff, leI_iff, capI_iff, isZ_iff, eqN_iff, roomI_iff, nI_def, ssz_def, tN_def, iadd64, isub64, imul64, conv64, conv8, conv32, iadd32, imul32, irem_pos, iquo64, iquo32, Bool.not_eq_true', ← Bool.not_eq_true, Bool.not_eq_eq_eq_not, Bool.not_true, Bool.not_false, not_true_eq_false, not_false_eq_true, List.length_append, List.length_cons, List.length_nil, List.length_take, List.length_drop, List.length_set, List.length_replicate] <;> omega) | omega)).trans ?_ | refine (if_neg (by first | with_reducible rfl | assumption | (simp (disch := omega) only [ltI_iff, eqI_iff, eqS_iff, eqB_iff, inI_iff, leI_iff, capI_iff, isZ_iff, eqN_iff, roomI_iff, nI_def, ssz_def, tN_def, iadd64, isub64, imul64, conv64, conv8, conv32, iadd32, imul32, irem_pos, iquo64, iquo32, Bool.not_eq_true', ← Bool.not_eq_true, Bool.not_eq_eq_eq_not, Bool.not_true, Bool.not_false, not_true_eq_false, not_false_eq_true, List.length_append, List.length_cons, List.length_nil, List.length_take, List.length_drop, List.length_set, List.length_replicate] <;> omega) | omega)).trans ?_ | refine (bnd alive_ok).trans ?_ | refine (bnd q).trans ?_ | refine Eq.trans (Sum.elim_inl _ _ _) ?_ | refine Eq.trans (Sum.elim_inr _ _ _) ?_)
    simp only [hk]
    repeat (first | refine (if_pos (by first | with_reducible rfl | assumption | (simp (disch := omega) only [ltI_iff, eqI_iff, eqS_iff, eqB_iff, inI_iff, leI_iff, capI_iff, isZ_iff, eqN_iff, roomI_iff, nI_def, ssz_def, tN_def, iadd64, isub64, imul64, conv64, conv8, conv32, iadd32, imul32, irem_pos, iquo64, iquo32, Bool.not_eq_true', ← Bool.not_eq_true, Bool.not_eq_eq_eq_not, Bool.not_true, Bool.not_false, not_true_eq_false, not_false_eq_true, List.length_append, List.length_cons, List.length_nil, List.length_take, List.length_drop, List.length_set, List.length_replicate] <;> omega) | omega)).trans ?_ | refine (if_neg (by first | with_reducible rfl | assumption | (simp (disch := omega) only [ltI_iff, eqI_iff, eqS_iff, eqB_iff, inI_iff, leI_iff, capI_iff, isZ_iff, eqN_iff, roomI_iff, nI_def, ssz_def, tN_def, iadd64, isub64, imul64, conv64, conv8, conv32, iadd32, imul32, irem_pos, iquo64, iquo32, Bool.not_eq_true', ← Bool.not_eq_true, Bool.not_eq_eq_eq_not, Bool.not_true, Bool.not_false, not_true_eq_false, not_false_eq_true, List.length_append, List.length_cons, List.length_nil, List.length_take, List.length_drop, List.length_set, List.length_replicate] <;> omega) | omega)).trans ?_ | refine (bnd u4).trans ?_ | refine Eq.trans (Sum.elim_inl _ _ _) ?_ | refine Eq.trans (Sum.elim_inr _ _ _) ?_)
    simp only [tN_nat]
    repeat (first | refine (if_pos (by first | with_reducible rfl | assumption | (simp (disch := omega) only [ltI_iff, eqI_iff, eqS_iff, eqB_iff, inI_iff, leI_iff, capI_iff, isZ_iff, eqN_iff, roomI_iff, nI_def, ssz_def, tN_def, iadd64, isub64, imul64, conv64, conv8, conv32, iadd32, imul32, irem_pos, iquo64, iquo32, Bool.not_eq_true', ← Bool.not_eq_true, Bool.not_eq_eq_eq_not, Bool.not_true, Bool.not_false, not_true_eq_false, not_false_eq_true, List.length_append, List.length_cons, List.length_nil, List.length_take, List.length_drop, List.length_set, List.length_replicate, ht, ha] <;> omega) | omega)).trans ?_ | refine (if_neg (by first | with_reducible rfl | assumption | (simp (disch := omega) only [ltI_iff, eqI_iff, eqS_iff, eqB_iff, inI_iff, leI_iff, capI_iff, isZ_iff, eqN_iff, roomI_iff, nI_def, ssz_def, tN_def, iadd64, isub64, imul64, conv64, conv8, conv32, iadd32, imul32, irem_pos, iquo64, iquo32, Bool.not_eq_true', ← Bool.not_eq_true, Bool.not_eq_eq_eq_not, Bool.not_true, Bool.not_false, not_true_eq_false, not_false_eq_true, List.length_append, List.length_cons, List.length_nil, List.length_take, List.length_drop, List.length_set, List.length_replicate, ht, ha] <;> omega) | omega)).trans ?_ | refine (bnd (sum_all (hcb.take k) (by simp; omega))).trans ?_ | refine (bnd (sum_all hcb (by omega))).trans ?_ | refine (bnd (same_ok (by rw [ht]) (by rw [ht]; simp; omega))).trans ?_ | refine (bnd (same_ok (x := (all (cat L)).1) (y := L) (by rw [ha]) (by rw [ha]; simp; omega))).trans ?_ | refine Eq.trans (Sum.elim_inl _ _ _) ?_ | refine Eq.trans (Sum.elim_inr _ _ _) ?_)
    rw [ha, nI_def]
    exact congrArg some (eqI_self _)

/-! ### One byte -/
theorem split_at {l : List Int} {i : Nat} (h : i < l.length) : l = l.take i ++ l[i] :: l.drop (i + 1) := by
  rw [← List.drop_eq_getElem_cons h, List.take_append_drop]
theorem set_split {l : List Int} {i : Nat} (h : i < l.length) (y : Int) : l.set i y = l.take i ++ y :: l.drop (i + 1) := List.set_eq_take_append_cons_drop .. |>.trans (if_pos h)
theorem ixor8 {a b : Int} (ha : 0 ≤ a ∧ a < 256) (hb : 0 ≤ b ∧ b < 256) : (0 ≤ ixor .u8 a b ∧ ixor .u8 a b < 256) ∧ (ixor .u8 a b = a → b = 0) := by
  obtain ⟨m, rfl⟩ := Int.eq_ofNat_of_zero_le ha.1
  obtain ⟨n, rfl⟩ := Int.eq_ofNat_of_zero_le hb.1
  have hlt : (BitVec.ofNat 8 m ^^^ BitVec.ofNat 8 n).toNat < 256 := (BitVec.ofNat 8 m ^^^ BitVec.ofNat 8 n).isLt
  have e : ixor .u8 (m : Int) (n : Int) = ((BitVec.ofNat 8 m ^^^ BitVec.ofNat 8 n).toNat : Int) := by
    show IntKind.u8.wrap ((BitVec.ofInt 8 (m : Int) ^^^ BitVec.ofInt 8 (n : Int)).toNat : Int) = _
    rw [BitVec.ofInt_natCast, BitVec.ofInt_natCast, wrap8 (by omega)]
  rw [e]
  refine ⟨by omega, fun h => ?_⟩
  have h2 : BitVec.ofNat 8 m ^^^ BitVec.ofNat 8 n = BitVec.ofNat 8 m := by
    apply BitVec.eq_of_toNat_eq
    rw [BitVec.toNat_ofNat, Nat.mod_eq_of_lt (show m < 2 ^ 8 by omega)]
    omega
  have h3 : BitVec.ofNat 8 n = 0#8 := by
    have := congrArg (BitVec.ofNat 8 m ^^^ ·) h2
    simpa [← BitVec.xor_assoc] using this
  have h4 := congrArg BitVec.toNat h3
  rw [BitVec.toNat_ofNat, Nat.mod_eq_of_lt (show n < 2 ^ 8 by omega)] at h4
  simp at h4
  omega
theorem sum_set {l : List Int} (hl : Bytes l) {i : Nat} (h : i < l.length) {y : Int} (hy : 0 ≤ y ∧ y < 256) (a : List Int) (hs : sumR (a ++ l) = sumR (a ++ l.set i y)) : l[i] = y := by
  have e1 : a ++ l = (a ++ l.take i) ++ l[i] :: l.drop (i + 1) := by rw [List.append_assoc, ← split_at h]
  have e2 : a ++ l.set i y = (a ++ l.take i) ++ y :: l.drop (i + 1) := by rw [List.append_assoc, ← set_split h]
  rw [e1, e2] at hs
  exact sumR_one (hl _ (List.getElem_mem h)) hy hs
theorem set_bytes {l : List Int} (hl : Bytes l) (i : Nat) {y : Int} (hy : 0 ≤ y ∧ y < 256) : Bytes (l.set i y) := fun x hx => by
  rcases List.mem_or_eq_of_mem_set hx with h | rfl
  · exact hl x h
  · exact hy
theorem plain_bytes (x1 : List Int) (x2 x3 : Int) (w1 : w_t22 x1) (w2 : w_t40 x2) (w3 : w_t5 x3) : P_law03_SumBytes x1 x2 x3 = some true := by
  have hb := bytes_w w1
  simp only [w_t40] at w2
  simp only [w_t5] at w3
  rw [P_law03_SumBytes_eq]
  by_cases h3 : 3000 < x1.length
  · repeat (first | refine (if_pos (by first | with_reducible rfl | assumption | (simp (disch := omega) only [ltI_iff, eqI_iff, eqS_iff, eqB_iff, inI_iff, leI_iff, capI_iff, isZ_iff, eqN_iff, roomI_iff, nI_def, ssz_def, tN_def, iadd64, isub64, imul64, conv64, conv8, conv32, iadd32, imul32, irem_pos, iquo64, iquo32, Bool.not_eq_true', ← Bool.not_eq_true, Bool.not_eq_eq_eq_not, Bool.not_true, Bool.not_false, not_true_eq_false, not_false_eq_true, List.length_append, List.length_cons, List.length_nil, List.length_take, List.length_drop, List.length_set, List.length_replicate] <;> omega) | omega)).trans ?_ | refine (if_neg (by first | with_reducible rfl | assumption | (simp (disch := omega) only [ltI_iff, eqI_iff, eqS_iff, eqB_iff, inI_iff, leI_iff, capI_iff, isZ_iff, eqN_iff, roomI_iff, nI_def, ssz_def, tN_def, iadd64, isub64, imul64, conv64, conv8, conv32, iadd32, imul32, irem_pos, iquo64, iquo32, Bool.not_eq_true', ← Bool.not_eq_true, Bool.not_eq_eq_eq_not, Bool.not_true, Bool.not_false, not_true_eq_false, not_false_eq_true, List.length_append, List.length_cons, List.length_nil, List.length_take, List.length_drop, List.length_set, List.length_replicate] <;> omega) | omega)).trans ?_ | refine (bnd alive_ok).trans ?_ | refine Eq.trans (Sum.elim_inl _ _ _) ?_ | refine Eq.trans (Sum.elim_inr _ _ _) ?_)
    rfl
  by_cases h0 : x1.length = 0
  · repeat (first | refine (if_pos (by first | with_reducible rfl | assumption | (simp (disch := omega) only [ltI_iff, eqI_iff, eqS_iff, eqB_iff, inI_iff, leI_iff, capI_iff, isZ_iff, eqN_iff, roomI_iff, nI_def, ssz_def, tN_def, iadd64, isub64, imul64, conv64, conv8, conv32, iadd32, imul32, irem_pos, iquo64, iquo32, Bool.not_eq_true', ← Bool.not_eq_true, Bool.not_eq_eq_eq_not, Bool.not_true, Bool.not_false, not_true_eq_false, not_false_eq_true, List.length_append, List.length_cons, List.length_nil, List.length_take, List.length_drop, List.length_set, List.length_replicate] <;> omega) | omega)).trans ?_ | refine (if_neg (by first | with_reducible rfl | assumption | (simp (disch := omega) only [ltI_iff, eqI_iff, eqS_iff, eqB_iff, inI_iff, leI_iff, capI_iff, isZ_iff, eqN_iff, roomI_iff, nI_def, ssz_def, tN_def, iadd64, isub64, imul64, conv64, conv8, conv32, iadd32, imul32, irem_pos, iquo64, iquo32, Bool.not_eq_true', ← Bool.not_eq_true, Bool.not_eq_eq_eq_not, Bool.not_true, Bool.not_false, not_true_eq_false, not_false_eq_true, List.length_append, List.length_cons, List.length_nil, List.length_take, List.length_drop, List.length_set, List.length_replicate] <;> omega) | omega)).trans ?_ | refine (bnd alive_ok).trans ?_ | refine Eq.trans (Sum.elim_inl _ _ _) ?_ | refine Eq.trans (Sum.elim_inr _ _ _) ?_)
    rfl
  by_cases hz : x3 = 0
  · repeat (first | refine (if_pos (by first | with_reducible rfl | assumption | (simp (disch := omega) only [ltI_iff, eqI_iff, eqS_iff, eqB_iff, inI_iff, leI_iff, capI_iff, isZ_iff, eqN_iff, roomI_iff, nI_def, ssz_def, tN_def, iadd64, isub64, imul64, conv64, conv8, conv32, iadd32, imul32, irem_pos, iquo64, iquo32, Bool.not_eq_true', ← Bool.not_eq_true, Bool.not_eq_eq_eq_not, Bool.not_true, Bool.not_false, not_true_eq_false, not_false_eq_true, List.length_append, List.length_cons, List.length_nil, List.length_take, List.length_drop, List.length_set, List.length_replicate] <;> omega) | omega)).trans ?_ | refine (if_neg (by first | with_reducible rfl | assumption | (simp (disch := omega) only [ltI_iff, eqI_iff, eqS_iff, eqB_iff, inI_iff, leI_iff, capI_iff, isZ_iff, eqN_iff, roomI_iff, nI_def, ssz_def, tN_def, iadd64, isub64, imul64, conv64, conv8, conv32, iadd32, imul32, irem_pos, iquo64, iquo32, Bool.not_eq_true', ← Bool.not_eq_true, Bool.not_eq_eq_eq_not, Bool.not_true, Bool.not_false, not_true_eq_false, not_false_eq_true, List.length_append, List.length_cons, List.length_nil, List.length_take, List.length_drop, List.length_set, List.length_replicate] <;> omega) | omega)).trans ?_ | refine (bnd alive_ok).trans ?_ | refine Eq.trans (Sum.elim_inl _ _ _) ?_ | refine Eq.trans (Sum.elim_inr _ _ _) ?_)
    rfl
  obtain ⟨c, rfl⟩ : ∃ c : Nat, x2 = (c : Int) := ⟨x2.toNat, by omega⟩
  have hk : irem .i64 (conv .i64 (c : Int)) (nI x1.length) = ((c % x1.length : Nat) : Int) := by
    rw [conv64 (by omega), nI_def, irem_pos (by omega)]; simp
  have hi : c % x1.length < x1.length := Nat.mod_lt _ (by omega)
  generalize c % x1.length = i at hk hi
  have hxb := hb _ (List.getElem_mem hi)
  obtain ⟨q1, q2⟩ := ixor8 hxb (b := x3) (by omega)
  simp only [hk]
  simp only [tN_nat]
  have hg : x1[i]? = some x1[i] := List.getElem?_eq_getElem hi
  have h000 : Bytes [0, 0, 0] := .cons (by omega) (.cons (by omega) (.cons (by omega) .nil))
  have hne : ¬ sumR (x1.set i (ixor .u8 x1[i] x3)) = sumR x1 := by
    intro h
    have := sum_set hb hi q1 [] (by rw [List.nil_append, List.nil_append]; exact h.symm)
    exact hz (q2 this.symm)
  repeat (first | refine (if_pos (by first | with_reducible rfl | assumption | (simp (disch := omega) only [ltI_iff, eqI_iff, eqS_iff, eqB_iff, inI_iff, leI_iff, capI_iff, isZ_iff, eqN_iff, roomI_iff, nI_def, ssz_def, tN_def, iadd64, isub64, imul64, conv64, conv8, conv32, iadd32, imul32, irem_pos, iquo64, iquo32, Bool.not_eq_true', ← Bool.not_eq_true, Bool.not_eq_eq_eq_not, Bool.not_true, Bool.not_false, not_true_eq_false, not_false_eq_true, List.length_append, List.length_cons, List.length_nil, List.length_take, List.length_drop, List.length_set, List.length_replicate, hne] <;> omega) | omega)).trans ?_ | refine (if_neg (by first | with_reducible rfl | assumption | (simp (disch := omega) only [ltI_iff, eqI_iff, eqS_iff, eqB_iff, inI_iff, leI_iff, capI_iff, isZ_iff, eqN_iff, roomI_iff, nI_def, ssz_def, tN_def, iadd64, isub64, imul64, conv64, conv8, conv32, iadd32, imul32, irem_pos, iquo64, iquo32, Bool.not_eq_true', ← Bool.not_eq_true, Bool.not_eq_eq_eq_not, Bool.not_true, Bool.not_false, not_true_eq_false, not_false_eq_true, List.length_append, List.length_cons, List.length_nil, List.length_take, List.length_drop, List.length_set, List.length_replicate, hne] <;> omega) | omega)).trans ?_ | refine (bnd alive_ok).trans ?_ | refine (bnd hg).trans ?_ | refine (bnd (sum_ok hb (by omega))).trans ?_ | refine (bnd (sum_ok (h000.append hb) (by simp; omega))).trans ?_ | refine (bnd (sum_ok (set_bytes hb i q1) (by simp; omega))).trans ?_ | refine Eq.trans (Sum.elim_inl _ _ _) ?_ | refine Eq.trans (Sum.elim_inr _ _ _) ?_)
  have e := sumR_z ([0, 0, 0] ++ x1)
  rw [zsum_append] at e
  have e0 : zsum [0, 0, 0] = 0 := rfl
  have e2 := sumR_z x1
  have b1 := sumR_bd x1
  have b2 := sumR_bd ([0, 0, 0] ++ x1)
  rw [irem_pos (by omega), irem_pos (by omega)]
  refine congrArg some (eqI_iff.2 ?_)
  rw [e, e2, e0]
  omega
theorem plain_swaps (x1 : List Int) (x2 : Int) (w1 : w_t22 x1) (w2 : w_t40 x2) : P_law03_SumSwaps x1 x2 = some true := by
  have hb := bytes_w w1
  simp only [w_t40] at w2
  rw [P_law03_SumSwaps_eq]
  by_cases h3 : 3000 < x1.length
  · repeat (first | refine (if_pos (by first | with_reducible rfl | assumption | (simp (disch := omega) only [ltI_iff, eqI_iff, eqS_iff, eqB_iff, inI_iff, leI_iff, capI_iff, isZ_iff, eqN_iff, roomI_iff, nI_def, ssz_def, tN_def, iadd64, isub64, imul64, conv64, conv8, conv32, iadd32, imul32, irem_pos, iquo64, iquo32, Bool.not_eq_true', ← Bool.not_eq_true, Bool.not_eq_eq_eq_not, Bool.not_true, Bool.not_false, not_true_eq_false, not_false_eq_true, List.length_append, List.length_cons, List.length_nil, List.length_take, List.length_drop, List.length_set, List.length_replicate] <;> omega) | omega)).trans ?_ | refine (if_neg (by first | with_reducible rfl | assumption | (simp (disch := omega) only [ltI_iff, eqI_iff, eqS_iff, eqB_iff, inI_iff, leI_iff, capI_iff, isZ_iff, eqN_iff, roomI_iff, nI_def, ssz_def, tN_def, iadd64, isub64, imul64, conv64, conv8, conv32, iadd32, imul32, irem_pos, iquo64, iquo32, Bool.not_eq_true', ← Bool.not_eq_true, Bool.not_eq_eq_eq_not, Bool.not_true, Bool.not_false, not_true_eq_false, not_false_eq_true, List.length_append, List.length_cons, List.length_nil, List.length_take, List.length_drop, List.length_set, List.length_replicate] <;> omega) | omega)).trans ?_ | refine (bnd alive_ok).trans ?_ | refine Eq.trans (Sum.elim_inl _ _ _) ?_ | refine Eq.trans (Sum.elim_inr _ _ _) ?_)
    rfl
  by_cases h0 : x1.length < 2
  · repeat (first | refine (if_pos (by first | with_reducible rfl | assumption | (simp (disch := omega) only [ltI_iff, eqI_iff, eqS_iff, eqB_iff, inI_iff, leI_iff, capI_iff, isZ_iff, eqN_iff, roomI_iff, nI_def, ssz_def, tN_def, iadd64, isub64, imul64, conv64, conv8, conv32, iadd32, imul32, irem_pos, iquo64, iquo32, Bool.not_eq_true', ← Bool.not_eq_true, Bool.not_eq_eq_eq_not, Bool.not_true, Bool.not_false, not_true_eq_false, not_false_eq_true, List.length_append, List.length_cons, List.length_nil, List.length_take, List.length_drop, List.length_set, List.length_replicate] <;> omega) | omega)).trans ?_ | refine (if_neg (by first | with_reducible rfl | assumption | (simp (disch := omega) only [ltI_iff, eqI_iff, eqS_iff, eqB_iff, inI_iff, leI_iff, capI_iff, isZ_iff, eqN_iff, roomI_iff, nI_def, ssz_def, tN_def, iadd64, isub64, imul64, conv64, conv8, conv32, iadd32, imul32, irem_pos, iquo64, iquo32, Bool.not_eq_true', ← Bool.not_eq_true, Bool.not_eq_eq_eq_not, Bool.not_true, Bool.not_false, not_true_eq_false, not_false_eq_true, List.length_append, List.length_cons, List.length_nil, List.length_take, List.length_drop, List.length_set, List.length_replicate] <;> omega) | omega)).trans ?_ | refine (bnd alive_ok).trans ?_ | refine Eq.trans (Sum.elim_inl _ _ _) ?_ | refine Eq.trans (Sum.elim_inr _ _ _) ?_)
    rfl
  obtain ⟨c, rfl⟩ : ∃ c : Nat, x2 = (c : Int) := ⟨x2.toNat, by omega⟩
  have hk : irem .i64 (conv .i64 (c : Int)) (isub .i64 (nI x1.length) 1) = ((c % (x1.length - 1) : Nat) : Int) := by
    rw [conv64 (by omega), nI_def, isub64 (by omega), irem_pos (by omega)]
    rw [show ((x1.length : Int) - 1) = ((x1.length - 1 : Nat) : Int) by omega]; simp
  have hi : c % (x1.length - 1) < x1.length - 1 := Nat.mod_lt _ (by omega)
  generalize c % (x1.length - 1) = i at hk hi
  have hk1 : iadd .i64 (i : Int) 1 = ((i + 1 : Nat) : Int) := by rw [iadd64 (by omega)]; omega
  simp only [hk, hk1]
  simp only [tN_nat]
  have g0 : x1[i]? = some x1[i] := List.getElem?_eq_getElem (by omega)
  have g1 : x1[i + 1]? = some x1[i + 1] := List.getElem?_eq_getElem (by omega)
  have g2 : (x1.set i x1[i + 1])[i + 1]? = some x1[i + 1] := by rw [List.getElem?_set_ne (by omega)]; exact g1
  have c0 := hb _ (List.getElem_mem (show i < x1.length by omega))
  have c1 := hb _ (List.getElem_mem (show i + 1 < x1.length by omega))
  have d : x1.drop (i + 1) = x1[i + 1] :: x1.drop (i + 2) := List.drop_eq_getElem_cons (by omega)
  have e1 : x1 = x1.take i ++ x1[i] :: x1[i + 1] :: x1.drop (i + 2) := by rw [← d]; exact split_at (by omega)
  have e2 : (x1.set i x1[i + 1]).set (i + 1) x1[i] = x1.take i ++ x1[i + 1] :: x1[i] :: x1.drop (i + 2) := by
    rw [set_split (l := x1) (by omega), d]
    have hl : (x1.take i).length = i := by rw [List.length_take]; omega
    rw [List.set_append_right _ _ (by omega), hl, show i + 1 - i = 1 by omega]
    rfl
  have key : (eqI (sumR x1) (sumR ((x1.set i x1[i + 1]).set (i + 1) x1[i]))) = eqI x1[i] x1[i + 1] := by
    rw [e2]
    by_cases h : x1[i] = x1[i + 1]
    · have : x1.take i ++ x1[i + 1] :: x1[i] :: x1.drop (i + 2) = x1 := by
        rw [← h]
        have := e1
        rw [← h] at this
        exact this.symm
      rw [this, eqI_iff.2 rfl, eqI_iff.2 h]
    · have hne : ¬ sumR x1 = sumR (x1.take i ++ x1[i + 1] :: x1[i] :: x1.drop (i + 2)) := by
        intro hh
        rw [congrArg sumR e1] at hh
        exact h (sumR_two c0 c1 hh)
      rw [Bool.eq_iff_iff, eqI_iff, eqI_iff]
      exact ⟨fun hh => absurd hh hne, fun hh => absurd hh h⟩
  repeat (first | refine (if_pos (by first | with_reducible rfl | assumption | (simp (disch := omega) only [ltI_iff, eqI_iff, eqS_iff, eqB_iff, inI_iff, leI_iff, capI_iff, isZ_iff, eqN_iff, roomI_iff, nI_def, ssz_def, tN_def, iadd64, isub64, imul64, conv64, conv8, conv32, iadd32, imul32, irem_pos, iquo64, iquo32, Bool.not_eq_true', ← Bool.not_eq_true, Bool.not_eq_eq_eq_not, Bool.not_true, Bool.not_false, not_true_eq_false, not_false_eq_true, List.length_append, List.length_cons, List.length_nil, List.length_take, List.length_drop, List.length_set, List.length_replicate] <;> omega) | omega)).trans ?_ | refine (if_neg (by first | with_reducible rfl | assumption | (simp (disch := omega) only [ltI_iff, eqI_iff, eqS_iff, eqB_iff, inI_iff, leI_iff, capI_iff, isZ_iff, eqN_iff, roomI_iff, nI_def, ssz_def, tN_def, iadd64, isub64, imul64, conv64, conv8, conv32, iadd32, imul32, irem_pos, iquo64, iquo32, Bool.not_eq_true', ← Bool.not_eq_true, Bool.not_eq_eq_eq_not, Bool.not_true, Bool.not_false, not_true_eq_false, not_false_eq_true, List.length_append, List.length_cons, List.length_nil, List.length_take, List.length_drop, List.length_set, List.length_replicate] <;> omega) | omega)).trans ?_ | refine (bnd alive_ok).trans ?_ | refine (bnd g1).trans ?_ | refine (bnd g0).trans ?_ | refine (bnd g2).trans ?_ | refine (bnd (sum_ok hb (by omega))).trans ?_ | refine (bnd (sum_ok (set_bytes (set_bytes hb i c1) (i + 1) c0) (by simp; omega))).trans ?_ | refine Eq.trans (Sum.elim_inl _ _ _) ?_ | refine Eq.trans (Sum.elim_inr _ _ _) ?_)
  rw [key]
  exact congrArg some (eqB_iff.2 rfl)
theorem s4_inj {s t : Int} (hs : 0 ≤ s ∧ s < 4294967296) (ht : 0 ≤ t ∧ t < 4294967296) (h : s4 s = s4 t) : s = t := by
  simp only [s4, List.cons.injEq, and_true] at h
  omega
theorem turned {l : List Int} (hl : Bytes l) (h : l.length ≤ 300) {q : Nat} (hq : q < l.length + 4) {y : Int} (hy : 0 ≤ y ∧ y < 256) (hne : ∀ x, (l ++ s4 (sumR (hd l ++ l)))[q]? = some x → y ≠ x) :
    (first ((fr l).set (3 + q) y)).1 = [] ∧ (first ((fr l).set (3 + q) y)).2.1 = 0 ∧ ¬ (first ((fr l).set (3 + q) y)).2.2 = 0 := by
  have e : (l.length : Int) / 256 * 256 + (l.length : Int) % 256 = l.length := by omega
  have e4 : ∀ m : List Int, sumR (1 :: ((l.length : Int) / 256) :: ((l.length : Int) % 256) :: m) = sumR (hd l ++ m) := fun _ => rfl
  have es : (fr l).set (3 + q) y = 1 :: ((l.length : Int) / 256) :: ((l.length : Int) % 256) :: (l ++ s4 (sumR (hd l ++ l))).set q y := by
    rw [fr_cons, show 3 + q = q + 1 + 1 + 1 by omega, List.set_cons_succ, List.set_cons_succ, List.set_cons_succ]
  have hno : ¬ ((((l ++ s4 (sumR (hd l ++ l))).set q y).drop l.length).take 4 = s4 (sumR (hd l ++ ((l ++ s4 (sumR (hd l ++ l))).set q y).take l.length))) := by
    intro hh
    by_cases hc : q < l.length
    · rw [List.set_append_left _ _ hc, List.drop_left' (by simp), List.take_left' (by simp), List.take_of_length_le (by simp [s4_len])] at hh
      have := s4_inj (sumR_bd _) (sumR_bd _) hh
      have h2 := sum_set hl hc hy (hd l) this
      exact hne l[q] (by rw [List.getElem?_append_left hc]; exact List.getElem?_eq_getElem hc) h2.symm
    · rw [List.set_append_right _ _ (by omega), List.drop_left, List.take_left, List.take_of_length_le (by simp [s4_len])] at hh
      have hq4 : q - l.length < (s4 (sumR (hd l ++ l))).length := by rw [s4_len]; omega
      have h2 := congrArg (fun t => t[q - l.length]?) hh
      simp only [List.getElem?_set_self hq4] at h2
      exact hne y (by rw [List.getElem?_append_right (by omega)]; exact h2.symm) rfl
  rw [es, first, e, if_pos (by simp [s4_len]; omega), Int.toNat_natCast, e4, if_neg hno]
  exact ⟨rfl, rfl, by simp⟩
theorem plain_turned (x1 : List Int) (x2 x3 : Int) (w1 : w_t22 x1) (w2 : w_t40 x2) (w3 : w_t5 x3) : P_law03_SumTurned x1 x2 x3 = some true := by
  have hb := bytes_w w1
  simp only [w_t40] at w2
  simp only [w_t5] at w3
  rw [P_law03_SumTurned_eq]
  by_cases h3 : 300 < x1.length
  · repeat (first | refine (if_pos (by first | with_reducible rfl | assumption | (simp (disch := omega) only [ltI_iff, eqI_iff, eqS_iff, eqB_iff, inI_iff, leI_iff, capI_iff, isZ_iff, eqN_iff, roomI_iff, nI_def, ssz_def, tN_def, iadd64, isub64, imul64, conv64, conv8, conv32, iadd32, imul32, irem_pos, iquo64, iquo32, Bool.not_eq_true', ← Bool.not_eq_true, Bool.not_eq_eq_eq_not, Bool.not_true, Bool.not_false, not_true_eq_false, not_false_eq_true, List.length_append, List.length_cons, List.length_nil, List.length_take, List.length_drop, List.length_set, List.length_replicate] <;> omega) | omega)).trans ?_ | refine (if_neg (by first | with_reducible rfl | assumption | (simp (disch := omega) only [ltI_iff, eqI_iff, eqS_iff, eqB_iff, inI_iff, leI_iff, capI_iff, isZ_iff, eqN_iff, roomI_iff, nI_def, ssz_def, tN_def, iadd64, isub64, imul64, conv64, conv8, conv32, iadd32, imul32, irem_pos, iquo64, iquo32, Bool.not_eq_true', ← Bool.not_eq_true, Bool.not_eq_eq_eq_not, Bool.not_true, Bool.not_false, not_true_eq_false, not_false_eq_true, List.length_append, List.length_cons, List.length_nil, List.length_take, List.length_drop, List.length_set, List.length_replicate] <;> omega) | omega)).trans ?_ | refine (bnd alive_ok).trans ?_ | refine Eq.trans (Sum.elim_inl _ _ _) ?_ | refine Eq.trans (Sum.elim_inr _ _ _) ?_)
    rfl
  by_cases hz : x3 = 0
  · repeat (first | refine (if_pos (by first | with_reducible rfl | assumption | (simp (disch := omega) only [ltI_iff, eqI_iff, eqS_iff, eqB_iff, inI_iff, leI_iff, capI_iff, isZ_iff, eqN_iff, roomI_iff, nI_def, ssz_def, tN_def, iadd64, isub64, imul64, conv64, conv8, conv32, iadd32, imul32, irem_pos, iquo64, iquo32, Bool.not_eq_true', ← Bool.not_eq_true, Bool.not_eq_eq_eq_not, Bool.not_true, Bool.not_false, not_true_eq_false, not_false_eq_true, List.length_append, List.length_cons, List.length_nil, List.length_take, List.length_drop, List.length_set, List.length_replicate] <;> omega) | omega)).trans ?_ | refine (if_neg (by first | with_reducible rfl | assumption | (simp (disch := omega) only [ltI_iff, eqI_iff, eqS_iff, eqB_iff, inI_iff, leI_iff, capI_iff, isZ_iff, eqN_iff, roomI_iff, nI_def, ssz_def, tN_def, iadd64, isub64, imul64, conv64, conv8, conv32, iadd32, imul32, irem_pos, iquo64, iquo32, Bool.not_eq_true', ← Bool.not_eq_true, Bool.not_eq_eq_eq_not, Bool.not_true, Bool.not_false, not_true_eq_false, not_false_eq_true, List.length_append, List.length_cons, List.length_nil, List.length_take, List.length_drop, List.length_set, List.length_replicate] <;> omega) | omega)).trans ?_ | refine (bnd alive_ok).trans ?_ | refine Eq.trans (Sum.elim_inl _ _ _) ?_ | refine Eq.trans (Sum.elim_inr _ _ _) ?_)
    rfl
  obtain ⟨c, rfl⟩ : ∃ c : Nat, x2 = (c : Int) := ⟨x2.toNat, by omega⟩
  have hl := fr_len x1
  have hk : iadd .i64 3 (irem .i64 (conv .i64 (c : Int)) (isub .i64 (nI (fr x1).length) 3)) = ((3 + c % (x1.length + 4) : Nat) : Int) := by
    rw [conv64 (by omega), nI_def, isub64 (by omega), irem_pos (by omega), hl, show ((x1.length + 7 : Nat) : Int) - 3 = ((x1.length + 4 : Nat) : Int) by omega]
    have : ((c : Int) % ((x1.length + 4 : Nat) : Int)) = ((c % (x1.length + 4) : Nat) : Int) := by simp
    have hlt := Nat.mod_lt c (show 0 < x1.length + 4 by omega)
    rw [this, iadd64 (by omega)]
    omega
  have hq : c % (x1.length + 4) < x1.length + 4 := Nat.mod_lt _ (by omega)
  generalize c % (x1.length + 4) = q at hk hq
  repeat (first | refine (if_pos (by first | with_reducible rfl | assumption | (simp (disch := omega) only [ltI_iff, eqI_iff, eqS_iff, eqB_iff, inI_iff, leI_iff, capI_iff, isZ_iff, eqN_iff, roomI_iff, nI_def, ssz_def, tN_def, iadd64, isub64, imul64, conv64, conv8, conv32, iadd32, imul32, irem_pos, iquo64, iquo32, Bool.not_eq_true', ← Bool.not_eq_true, Bool.not_eq_eq_eq_not, Bool.not_true, Bool.not_false, not_true_eq_false, not_false_eq_true, List.length_append, List.length_cons, List.length_nil, List.length_take, List.length_drop, List.length_set, List.length_replicate, hl] <;> omega) | omega)).trans ?_ | refine (if_neg (by first | with_reducible rfl | assumption | (simp (disch := omega) only [ltI_iff, eqI_iff, eqS_iff, eqB_iff, inI_iff, leI_iff, capI_iff, isZ_iff, eqN_iff, roomI_iff, nI_def, ssz_def, tN_def, iadd64, isub64, imul64, conv64, conv8, conv32, iadd32, imul32, irem_pos, iquo64, iquo32, Bool.not_eq_true', ← Bool.not_eq_true, Bool.not_eq_eq_eq_not, Bool.not_true, Bool.not_false, not_true_eq_false, not_false_eq_true, List.length_append, List.length_cons, List.length_nil, List.length_take, List.length_drop, List.length_set, List.length_replicate, hl] <;> omega) | omega)).trans ?_ | refine (bnd alive_ok).trans ?_ | refine (bnd (frame1_ok hb (by omega))).trans ?_ | refine Eq.trans (Sum.elim_inl _ _ _) ?_ | refine Eq.trans (Sum.elim_inr _ _ _) ?_)
  simp only [hk, tN_nat]
  have hfb := fr_bytes hb (show x1.length ≤ 4000 by omega)
  have hi : 3 + q < (fr x1).length := by omega
  have hg : (fr x1)[3 + q]? = some (fr x1)[3 + q] := List.getElem?_eq_getElem hi
  obtain ⟨q1, q2⟩ := ixor8 (hfb _ (List.getElem_mem hi)) (b := x3) (by omega)
  have hg2 : (x1 ++ s4 (sumR (hd x1 ++ x1)))[q]? = some (fr x1)[3 + q] := by
    rw [← hg, fr_cons, show 3 + q = q + 1 + 1 + 1 by omega, List.getElem?_cons_succ, List.getElem?_cons_succ, List.getElem?_cons_succ]
  obtain ⟨t1, t2, t3⟩ := turned hb (by omega) hq q1 (fun x hx => by
    rw [hg2] at hx
    obtain rfl := Option.some.inj hx
    exact fun hh => hz (q2 hh))
  repeat (first | refine (if_pos (by first | with_reducible rfl | assumption | (simp (disch := omega) only [ltI_iff, eqI_iff, eqS_iff, eqB_iff, inI_iff, leI_iff, capI_iff, isZ_iff, eqN_iff, roomI_iff, nI_def, ssz_def, tN_def, iadd64, isub64, imul64, conv64, conv8, conv32, iadd32, imul32, irem_pos, iquo64, iquo32, Bool.not_eq_true', ← Bool.not_eq_true, Bool.not_eq_eq_eq_not, Bool.not_true, Bool.not_false, not_true_eq_false, not_false_eq_true, List.length_append, List.length_cons, List.length_nil, List.length_take, List.length_drop, List.length_set, List.length_replicate, hl, t1, t2] <;> omega) | omega)).trans ?_ | refine (if_neg (by first | with_reducible rfl | assumption | (simp (disch := omega) only [ltI_iff, eqI_iff, eqS_iff, eqB_iff, inI_iff, leI_iff, capI_iff, isZ_iff, eqN_iff, roomI_iff, nI_def, ssz_def, tN_def, iadd64, isub64, imul64, conv64, conv8, conv32, iadd32, imul32, irem_pos, iquo64, iquo32, Bool.not_eq_true', ← Bool.not_eq_true, Bool.not_eq_eq_eq_not, Bool.not_true, Bool.not_false, not_true_eq_false, not_false_eq_true, List.length_append, List.length_cons, List.length_nil, List.length_take, List.length_drop, List.length_set, List.length_replicate, hl, t1, t2] <;> omega) | omega)).trans ?_ | refine (bnd hg).trans ?_ | refine (bnd (first_ok (set_bytes hfb (3 + q) q1) (by simp; omega))).trans ?_ | refine Eq.trans (Sum.elim_inl _ _ _) ?_ | refine Eq.trans (Sum.elim_inr _ _ _) ?_)
  exact congrArg some (by first | with_reducible rfl | assumption | (simp (disch := omega) only [ltI_iff, eqI_iff, eqS_iff, eqB_iff, inI_iff, leI_iff, capI_iff, isZ_iff, eqN_iff, roomI_iff, nI_def, ssz_def, tN_def, iadd64, isub64, imul64, conv64, conv8, conv32, iadd32, imul32, irem_pos, iquo64, iquo32, Bool.not_eq_true', ← Bool.not_eq_true, Bool.not_eq_eq_eq_not, Bool.not_true, Bool.not_false, not_true_eq_false, not_false_eq_true, List.length_append, List.length_cons, List.length_nil, List.length_take, List.length_drop, List.length_set, List.length_replicate, t3] <;> omega) | omega)
end Go.Ws
