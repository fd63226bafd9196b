/-
  The locks' laws, plainly.
  Conditions: none.
-/
import Derived.Test.YtmjllcefknaneaaZLock
set_option linter.unusedVariables false
set_option linter.unusedSimpArgs false
namespace Go.Ws
set_option linter.unusedVariables false
set_option linter.unusedSimpArgs false
set_option maxHeartbeats 1000000

theorem alive_ok : P_law07_alive = some true := le_law07_alive 60 true (by kernel_rfl)
theorem wf_l {x : List Ho} (w : w_t22 x) : WfH x := fun h hh => (w.2 h hh).1.1
/-- A call of both. -/
theorem take_any {l : List Ho} {k t : Int} {w : Bool} (hw : WfH l) (hl : l.length ≤ 10000) (hk : 0 ≤ k) : ∃ l' e, P_lock_Take l t k w = some (l', e) ∧ P_ref07_Take l t k w = some (l', e) ∧
    ((e = 0 ∧ Lk l ∧ mayb (k, t, w) ∧ ¬ Conf l k t w ∧ Got l k t w l') ∨ (e = 9 ∧ l' = l ∧ Lk l ∧ mayb (k, t, w) ∧ Conf l k t w) ∨ (e = 2 ∧ l' = l ∧ ¬ (Lk l ∧ mayb (k, t, w)))) := by
  by_cases h : Lk l ∧ mayb (k, t, w)
  · by_cases hc : Conf l k t w
    · obtain ⟨q1, q2⟩ := take_c h.1 hl h.2 hc
      exact ⟨_, _, q1, q2, .inr (.inl ⟨rfl, rfl, h.1, h.2, hc⟩)⟩
    · obtain ⟨l', q1, q2, q3⟩ := take_t h.1 hl hk h.2 hc
      exact ⟨_, _, q1, q2, .inl ⟨rfl, h.1, h.2, hc, q3⟩⟩
  · obtain ⟨q1, q2⟩ := take_f hw hl h
    exact ⟨_, _, q1, q2, .inr (.inr ⟨rfl, rfl, h⟩)⟩
theorem Got.len {l l' : List Ho} {k t : Int} {w : Bool} (h : Got l k t w l') : l'.length ≤ l.length + 1 := by
  rcases h with ⟨A, b, R, rfl, rfl⟩ | ⟨A, R, rfl, hA, hR, rfl⟩
  · simp
  · simp; omega

theorem plain_calls (x1 : List Ho) (x2 x3 x4 : Int) (x5 : Bool) (w1 : w_t22 x1) (w2 : w_t24 (x2, x3, x4, x5)) : P_law07_LockCalls x1 x2 x3 x4 x5 = some true := by
  have hl1 : x1.length ≤ 9223372036854775807 := w1.1
  have hx : w_t5 x2 ∧ w_t3 x3 ∧ w_t5 x4 ∧ w_t4 x5 := w2
  simp only [w_t5] at hx
  rw [P_law07_LockCalls_eq]
  by_cases h1 : 100 < x1.length
  · repeat (first | refine (if_pos (by first | with_reducible rfl | assumption | (simp (disch := omega) only [ws, wl, Bool.not_eq_true', ← Bool.not_eq_true, Bool.not_eq_eq_eq_not] <;> omega) | omega)).trans ?_ | refine (if_neg (by first | with_reducible rfl | assumption | (simp (disch := omega) only [ws, wl, Bool.not_eq_true', ← Bool.not_eq_true, Bool.not_eq_eq_eq_not] <;> omega) | omega)).trans ?_ | refine (bnd alive_ok).trans ?_ | refine Eq.trans (Sum.elim_inl _ _ _) ?_ | refine Eq.trans (Sum.elim_inr _ _ _) ?_)
    rfl
  obtain ⟨a, e, q1, q2, q3⟩ := take_any (l := x1) (k := x4) (t := x3) (w := x5) (wf_l w1) (by omega) (by omega)
  have hal : a.length ≤ 1000 := by
    rcases q3 with ⟨_, _, _, _, h⟩ | ⟨_, h, _⟩ | ⟨_, h, _⟩
    · have := h.len; omega
    · rw [h]; omega
    · rw [h]; omega
  obtain ⟨r, q9, q10⟩ : ∃ r, P_lock_Right x1 = some r ∧ P_ref07_Right x1 = some r := by
    by_cases h : Lk x1
    · exact ⟨_, pright_t h (by omega), rright_t h (by omega)⟩
    · exact ⟨_, pright_f (wf_l w1) (by omega) h, rright_f (wf_l w1) (by omega) h⟩
  have er : eqB r r = true := eqB_iff.2 rfl
  have hf := freeL_len x1 x3
  repeat (first | refine (if_pos (by first | with_reducible rfl | assumption | (simp (disch := omega) only [ws, wl, Bool.not_eq_true', ← Bool.not_eq_true, Bool.not_eq_eq_eq_not, er] <;> omega) | omega)).trans ?_ | refine (if_neg (by first | with_reducible rfl | assumption | (simp (disch := omega) only [ws, wl, Bool.not_eq_true', ← Bool.not_eq_true, Bool.not_eq_eq_eq_not, er] <;> omega) | omega)).trans ?_ | refine (bnd alive_ok).trans ?_ | refine (bnd (theirs_ok (l := x1) (by omega))).trans ?_ | refine (bnd q1).trans ?_ | refine (bnd q2).trans ?_ | refine (bnd q9).trans ?_ | refine (bnd q10).trans ?_ | refine (bnd (ours_ok (l := a) (by omega))).trans ?_ | refine (bnd (lsame_ok (x := a) (by omega))).trans ?_ | refine (bnd (free_ok (l := x1) (by omega) x3)).trans ?_ | refine (bnd (ours_ok (l := freeL x1 x3) (by omega))).trans ?_ | refine (bnd (rfree_ok (l := x1) (by omega) x3)).trans ?_ | refine (bnd (lsame_ok (x := freeL x1 x3) (by omega))).trans ?_ | refine (bnd (holds_ok (l := x1) (by omega) x3 x4)).trans ?_ | refine (bnd (rholds_ok (l := x1) (by omega) x3 x4)).trans ?_ | refine Eq.trans (Sum.elim_inl _ _ _) ?_ | refine Eq.trans (Sum.elim_inr _ _ _) ?_)
  rw [eqI_self]

theorem row_l2 {x1 : List (Int × Int × Int × Bool)} {h : Ho} {a b d : Int} {x y c xs : List Ho} (hl : xs.length ≤ 100000) (hx : ∀ k ∈ xs, h.1 = k.1 → h.2.1 ≠ k.2.1 → h.2.2 = false) : ∀ (n i : Nat) (v : Int), xs.length - i = n → i ≤ xs.length → v = (i : Int) →
    P_law07_LockRow_l2 x1 h v a b x y c d xs (nI xs.length) = some (.inl (x, y, b, c, d, a)) := by
  intro n
  induction n with
  | zero =>
    intro i v hn hi hv
    rw [P_law07_LockRow_l2_eq]
    repeat (first | refine (if_pos (by first | with_reducible rfl | assumption | (simp (disch := omega) only [ws, wl, Bool.not_eq_true', ← Bool.not_eq_true, Bool.not_eq_eq_eq_not] <;> omega) | omega)).trans ?_ | refine (if_neg (by first | with_reducible rfl | assumption | (simp (disch := omega) only [ws, wl, Bool.not_eq_true', ← Bool.not_eq_true, Bool.not_eq_eq_eq_not] <;> omega) | omega)).trans ?_ | refine Eq.trans (Sum.elim_inl _ _ _) ?_ | refine Eq.trans (Sum.elim_inr _ _ _) ?_)
    rfl
  | succ n ih =>
    intro i v hn hi hv
    have hlt : i < xs.length := by omega
    have hk := hx xs[i] (List.getElem_mem hlt)
    have hr := ih (i + 1) (iadd .i64 v 1) (by omega) (by omega) (by first | with_reducible rfl | assumption | (simp (disch := omega) only [ws, wl, Bool.not_eq_true', ← Bool.not_eq_true, Bool.not_eq_eq_eq_not] <;> omega) | omega)
    rw [← hr, P_law07_LockRow_l2_eq]
    cases hb : h.2.2
    · repeat (first | refine (if_pos (by first | with_reducible rfl | assumption | (simp (disch := omega) only [ws, wl, Bool.not_eq_true', ← Bool.not_eq_true, Bool.not_eq_eq_eq_not, hb] <;> omega) | omega)).trans ?_ | refine (if_neg (by first | with_reducible rfl | assumption | (simp (disch := omega) only [ws, wl, Bool.not_eq_true', ← Bool.not_eq_true, Bool.not_eq_eq_eq_not, hb] <;> omega) | omega)).trans ?_ | refine (bnd (geti hv hlt)).trans ?_ | refine Eq.trans (Sum.elim_inl _ _ _) ?_ | refine Eq.trans (Sum.elim_inr _ _ _) ?_)
      rfl
    · rw [hb] at hk
      by_cases h1 : h.1 = xs[i].1
      · have h2 : h.2.1 = xs[i].2.1 := Classical.byContradiction fun h2 => by have := hk h1 h2; simp at this
        repeat (first | refine (if_pos (by first | with_reducible rfl | assumption | (simp (disch := omega) only [ws, wl, Bool.not_eq_true', ← Bool.not_eq_true, Bool.not_eq_eq_eq_not, hb] <;> omega) | omega)).trans ?_ | refine (if_neg (by first | with_reducible rfl | assumption | (simp (disch := omega) only [ws, wl, Bool.not_eq_true', ← Bool.not_eq_true, Bool.not_eq_eq_eq_not, hb] <;> omega) | omega)).trans ?_ | refine (bnd (geti hv hlt)).trans ?_ | refine Eq.trans (Sum.elim_inl _ _ _) ?_ | refine Eq.trans (Sum.elim_inr _ _ _) ?_)
        rfl
      · repeat (first | refine (if_pos (by first | with_reducible rfl | assumption | (simp (disch := omega) only [ws, wl, Bool.not_eq_true', ← Bool.not_eq_true, Bool.not_eq_eq_eq_not, hb] <;> omega) | omega)).trans ?_ | refine (if_neg (by first | with_reducible rfl | assumption | (simp (disch := omega) only [ws, wl, Bool.not_eq_true', ← Bool.not_eq_true, Bool.not_eq_eq_eq_not, hb] <;> omega) | omega)).trans ?_ | refine (bnd (geti hv hlt)).trans ?_ | refine Eq.trans (Sum.elim_inl _ _ _) ?_ | refine Eq.trans (Sum.elim_inr _ _ _) ?_)
        rfl
theorem row_l1 {x1 : List (Int × Int × Int × Bool)} {j : Int} {y xs : List Ho} (hl : xs.length ≤ 100000) (hx : ∀ h ∈ xs, ∀ k ∈ xs, h.1 = k.1 → h.2.1 ≠ k.2.1 → h.2.2 = false) : ∀ (n i : Nat) (v : Int), xs.length - i = n → i ≤ xs.length → v = (i : Int) →
    P_law07_LockRow_l1 x1 v j xs y xs (nI xs.length) = some (.inl (xs, y, j)) := by
  intro n
  induction n with
  | zero =>
    intro i v hn hi hv
    rw [P_law07_LockRow_l1_eq]
    repeat (first | refine (if_pos (by first | with_reducible rfl | assumption | (simp (disch := omega) only [ws, wl, Bool.not_eq_true', ← Bool.not_eq_true, Bool.not_eq_eq_eq_not] <;> omega) | omega)).trans ?_ | refine (if_neg (by first | with_reducible rfl | assumption | (simp (disch := omega) only [ws, wl, Bool.not_eq_true', ← Bool.not_eq_true, Bool.not_eq_eq_eq_not] <;> omega) | omega)).trans ?_ | refine Eq.trans (Sum.elim_inl _ _ _) ?_ | refine Eq.trans (Sum.elim_inr _ _ _) ?_)
    rfl
  | succ n ih =>
    intro i v hn hi hv
    have hlt : i < xs.length := by omega
    have h2 := row_l2 (x1 := x1) (h := xs[i]) (a := v) (b := j) (d := nI xs.length) (x := xs) (y := y) (c := xs) hl (hx xs[i] (List.getElem_mem hlt)) _ 0 0 rfl (by omega) rfl
    rw [P_law07_LockRow_l1_eq]
    repeat (first | refine (if_pos (by first | with_reducible rfl | assumption | (simp (disch := omega) only [ws, wl, Bool.not_eq_true', ← Bool.not_eq_true, Bool.not_eq_eq_eq_not] <;> omega) | omega)).trans ?_ | refine (if_neg (by first | with_reducible rfl | assumption | (simp (disch := omega) only [ws, wl, Bool.not_eq_true', ← Bool.not_eq_true, Bool.not_eq_eq_eq_not] <;> omega) | omega)).trans ?_ | refine (bnd (geti hv hlt)).trans ?_ | refine (bnd h2).trans ?_ | refine Eq.trans (Sum.elim_inl _ _ _) ?_ | refine Eq.trans (Sum.elim_inr _ _ _) ?_)
    exact ih (i + 1) _ (by omega) (by omega) (by first | with_reducible rfl | assumption | (simp (disch := omega) only [ws, wl, Bool.not_eq_true', ← Bool.not_eq_true, Bool.not_eq_eq_eq_not] <;> omega) | omega)
theorem row_l0 {x1 : List (Int × Int × Int × Bool)} (hx1 : ∀ a ∈ x1, 0 ≤ a.2.2.1) : ∀ (d i : Nat) (v : Int) (l : List Ho), 100 - i = d → i ≤ 100 → v = (i : Int) → Lk l → l.length ≤ i → P_law07_LockRow_l0 x1 l l v = some (.inl ()) := by
  intro d
  induction d with
  | zero =>
    intro i v l hd hi hv hr hl
    rw [P_law07_LockRow_l0_eq]
    by_cases hlx : i < x1.length
    · repeat (first | refine (if_pos (by first | with_reducible rfl | assumption | (simp (disch := omega) only [ws, wl, Bool.not_eq_true', ← Bool.not_eq_true, Bool.not_eq_eq_eq_not] <;> omega) | omega)).trans ?_ | refine (if_neg (by first | with_reducible rfl | assumption | (simp (disch := omega) only [ws, wl, Bool.not_eq_true', ← Bool.not_eq_true, Bool.not_eq_eq_eq_not] <;> omega) | omega)).trans ?_ | refine Eq.trans (Sum.elim_inl _ _ _) ?_ | refine Eq.trans (Sum.elim_inr _ _ _) ?_)
      rfl
    · repeat (first | refine (if_pos (by first | with_reducible rfl | assumption | (simp (disch := omega) only [ws, wl, Bool.not_eq_true', ← Bool.not_eq_true, Bool.not_eq_eq_eq_not] <;> omega) | omega)).trans ?_ | refine (if_neg (by first | with_reducible rfl | assumption | (simp (disch := omega) only [ws, wl, Bool.not_eq_true', ← Bool.not_eq_true, Bool.not_eq_eq_eq_not] <;> omega) | omega)).trans ?_ | refine Eq.trans (Sum.elim_inl _ _ _) ?_ | refine Eq.trans (Sum.elim_inr _ _ _) ?_)
      rfl
  | succ d ih =>
    intro i v l hd hi hv hr hl
    rw [P_law07_LockRow_l0_eq]
    by_cases hlx : i < x1.length
    rotate_left
    · repeat (first | refine (if_pos (by first | with_reducible rfl | assumption | (simp (disch := omega) only [ws, wl, Bool.not_eq_true', ← Bool.not_eq_true, Bool.not_eq_eq_eq_not] <;> omega) | omega)).trans ?_ | refine (if_neg (by first | with_reducible rfl | assumption | (simp (disch := omega) only [ws, wl, Bool.not_eq_true', ← Bool.not_eq_true, Bool.not_eq_eq_eq_not] <;> omega) | omega)).trans ?_ | refine Eq.trans (Sum.elim_inl _ _ _) ?_ | refine Eq.trans (Sum.elim_inr _ _ _) ?_)
      rfl
    have hk := hx1 x1[i] (List.getElem_mem hlx)
    by_cases h4 : irem .u8 x1[i].1 5 = 4
    · have hfl := freeL_len l x1[i].2.1
      have hlk := hr.free x1[i].2.1
      have hn := ih (i + 1) (iadd .i64 v 1) (freeL l x1[i].2.1) (by omega) (by omega) (by first | with_reducible rfl | assumption | (simp (disch := omega) only [ws, wl, Bool.not_eq_true', ← Bool.not_eq_true, Bool.not_eq_eq_eq_not] <;> omega) | omega) hlk (by omega)
      repeat (first | refine (if_pos (by first | with_reducible rfl | assumption | (simp (disch := omega) only [ws, wl, Bool.not_eq_true', ← Bool.not_eq_true, Bool.not_eq_eq_eq_not, h4] <;> omega) | omega)).trans ?_ | refine (if_neg (by first | with_reducible rfl | assumption | (simp (disch := omega) only [ws, wl, Bool.not_eq_true', ← Bool.not_eq_true, Bool.not_eq_eq_eq_not, h4] <;> omega) | omega)).trans ?_ | refine (bnd (geti hv hlx)).trans ?_ | refine (bnd (free_ok (l := l) (by omega) x1[i].2.1)).trans ?_ | refine (bnd (rfree_ok (l := l) (by omega) x1[i].2.1)).trans ?_ | refine (bnd (ours_ok (l := freeL l x1[i].2.1) (by omega))).trans ?_ | refine (bnd (lsame_ok (x := freeL l x1[i].2.1) (by omega))).trans ?_ | refine (bnd (pright_t hlk (by omega))).trans ?_ | refine (bnd (row_l1 (by omega) hlk.2.2 _ 0 0 rfl (by omega) rfl)).trans ?_ | refine Eq.trans (Sum.elim_inl _ _ _) ?_ | refine Eq.trans (Sum.elim_inr _ _ _) ?_)
      exact hn
    · obtain ⟨a, e, q1, q2, q3⟩ := take_any (l := l) (k := x1[i].2.2.1) (t := x1[i].2.1) (w := x1[i].2.2.2) hr.wf (by omega) hk
      have hak : Lk a ∧ a.length ≤ i + 1 := by
        rcases q3 with ⟨_, _, hm, hc, h⟩ | ⟨_, h, _⟩ | ⟨_, h, _⟩
        · obtain ⟨g1, g2, _⟩ := h.lk hr ((mayb_may hk).1 hm) hc
          exact ⟨g1, by omega⟩
        · rw [h]; exact ⟨hr, by omega⟩
        · rw [h]; exact ⟨hr, by omega⟩
      obtain ⟨hlk, hal⟩ := hak
      have hn := ih (i + 1) (iadd .i64 v 1) a (by omega) (by omega) (by first | with_reducible rfl | assumption | (simp (disch := omega) only [ws, wl, Bool.not_eq_true', ← Bool.not_eq_true, Bool.not_eq_eq_eq_not] <;> omega) | omega) hlk (by omega)
      repeat (first | refine (if_pos (by first | with_reducible rfl | assumption | (simp (disch := omega) only [ws, wl, Bool.not_eq_true', ← Bool.not_eq_true, Bool.not_eq_eq_eq_not, h4] <;> omega) | omega)).trans ?_ | refine (if_neg (by first | with_reducible rfl | assumption | (simp (disch := omega) only [ws, wl, Bool.not_eq_true', ← Bool.not_eq_true, Bool.not_eq_eq_eq_not, h4] <;> omega) | omega)).trans ?_ | refine (bnd (geti hv hlx)).trans ?_ | refine (bnd q1).trans ?_ | refine (bnd q2).trans ?_ | refine (bnd (ours_ok (l := a) (by omega))).trans ?_ | refine (bnd (lsame_ok (x := a) (by omega))).trans ?_ | refine (bnd (pright_t hlk (by omega))).trans ?_ | refine (bnd (row_l1 (by omega) hlk.2.2 _ 0 0 rfl (by omega) rfl)).trans ?_ | refine Eq.trans (Sum.elim_inl _ _ _) ?_ | refine Eq.trans (Sum.elim_inr _ _ _) ?_)
      exact hn
theorem plain_row (x1 : List (Int × Int × Int × Bool)) (w : w_t43 x1) : P_law07_LockRow x1 = some true := by
  rw [P_law07_LockRow_eq]
  have h := row_l0 (x1 := x1) (fun a ha => (w.2 a ha).2.2.1.1) 100 0 0 [] rfl (by omega) rfl lk_nil (by simp)
  repeat (first | refine (if_pos (by first | with_reducible rfl | assumption | (simp (disch := omega) only [ws, wl, Bool.not_eq_true', ← Bool.not_eq_true, Bool.not_eq_eq_eq_not] <;> omega) | omega)).trans ?_ | refine (if_neg (by first | with_reducible rfl | assumption | (simp (disch := omega) only [ws, wl, Bool.not_eq_true', ← Bool.not_eq_true, Bool.not_eq_eq_eq_not] <;> omega) | omega)).trans ?_ | refine (bnd alive_ok).trans ?_ | refine (bnd h).trans ?_ | refine Eq.trans (Sum.elim_inl _ _ _) ?_ | refine Eq.trans (Sum.elim_inr _ _ _) ?_)
  rfl

theorem others_l0 {l : List Ho} {kd t k : Int} {w : Bool} (hl : l.length ≤ 1000) : ∀ (d i : Nat) (v : Int) (acc : List Ho), l.length - i = d → i ≤ l.length → v = (i : Int) → Lk acc → acc.length ≤ 1000 → (∀ h ∈ acc, h.2.1 = t ∨ ∃ j, i ≤ j ∧ ∃ e, l[j]? = some e ∧ e.2.1 = h.2.1) →
    ∃ r, P_law07_LockOthers_l0 l kd t k w v acc = some r ∧ Lk r ∧ r.length ≤ 1000 ∧ ∀ h ∈ r, h.2.1 = t := by
  intro d
  induction d with
  | zero =>
    intro i v acc hd hi hv hr ha hh
    refine ⟨acc, ?_, hr, ha, fun h hm => ?_⟩
    · rw [P_law07_LockOthers_l0_eq]
      repeat (first | refine (if_pos (by first | with_reducible rfl | assumption | (simp (disch := omega) only [ws, wl, Bool.not_eq_true', ← Bool.not_eq_true, Bool.not_eq_eq_eq_not] <;> omega) | omega)).trans ?_ | refine (if_neg (by first | with_reducible rfl | assumption | (simp (disch := omega) only [ws, wl, Bool.not_eq_true', ← Bool.not_eq_true, Bool.not_eq_eq_eq_not] <;> omega) | omega)).trans ?_ | refine Eq.trans (Sum.elim_inl _ _ _) ?_ | refine Eq.trans (Sum.elim_inr _ _ _) ?_)
      rfl
    · rcases hh h hm with h1 | ⟨j, hj, e, he, _⟩
      · exact h1
      · rw [List.getElem?_eq_none (by omega)] at he; cases he
  | succ d ih =>
    intro i v acc hd hi hv hr ha hh
    have hlt : i < l.length := by omega
    by_cases ht : l[i].2.1 = t
    · obtain ⟨r, r1, r2, r3, r4⟩ := ih (i + 1) (iadd .i64 v 1) acc (by omega) (by omega) (by first | with_reducible rfl | assumption | (simp (disch := omega) only [ws, wl, Bool.not_eq_true', ← Bool.not_eq_true, Bool.not_eq_eq_eq_not] <;> omega) | omega) hr ha (fun h hm => by
        rcases hh h hm with h1 | ⟨j, hj, e, he, hee⟩
        · exact .inl h1
        · by_cases hji : j = i
          · subst hji
            rw [List.getElem?_eq_getElem hlt] at he
            cases he
            exact .inl (hee.symm.trans ht)
          · exact .inr ⟨j, by omega, e, he, hee⟩)
      refine ⟨r, ?_, r2, r3, r4⟩
      rw [P_law07_LockOthers_l0_eq]
      repeat (first | refine (if_pos (by first | with_reducible rfl | assumption | (simp (disch := omega) only [ws, wl, Bool.not_eq_true', ← Bool.not_eq_true, Bool.not_eq_eq_eq_not] <;> omega) | omega)).trans ?_ | refine (if_neg (by first | with_reducible rfl | assumption | (simp (disch := omega) only [ws, wl, Bool.not_eq_true', ← Bool.not_eq_true, Bool.not_eq_eq_eq_not] <;> omega) | omega)).trans ?_ | refine (bnd (geti hv hlt)).trans ?_ | refine Eq.trans (Sum.elim_inl _ _ _) ?_ | refine Eq.trans (Sum.elim_inr _ _ _) ?_)
      exact r1
    · have hfl := freeL_len acc l[i].2.1
      obtain ⟨r, r1, r2, r3, r4⟩ := ih (i + 1) (iadd .i64 v 1) (freeL acc l[i].2.1) (by omega) (by omega) (by first | with_reducible rfl | assumption | (simp (disch := omega) only [ws, wl, Bool.not_eq_true', ← Bool.not_eq_true, Bool.not_eq_eq_eq_not] <;> omega) | omega) (hr.free _) (by omega) (fun h hm => by
        obtain ⟨hm1, hm2⟩ := freeL_mem.1 hm
        rcases hh h hm1 with h1 | ⟨j, hj, e, he, hee⟩
        · exact .inl h1
        · by_cases hji : j = i
          · subst hji
            rw [List.getElem?_eq_getElem hlt] at he
            cases he
            exact absurd hee.symm hm2
          · exact .inr ⟨j, by omega, e, he, hee⟩)
      refine ⟨r, ?_, r2, r3, r4⟩
      rw [P_law07_LockOthers_l0_eq]
      repeat (first | refine (if_pos (by first | with_reducible rfl | assumption | (simp (disch := omega) only [ws, wl, Bool.not_eq_true', ← Bool.not_eq_true, Bool.not_eq_eq_eq_not] <;> omega) | omega)).trans ?_ | refine (if_neg (by first | with_reducible rfl | assumption | (simp (disch := omega) only [ws, wl, Bool.not_eq_true', ← Bool.not_eq_true, Bool.not_eq_eq_eq_not] <;> omega) | omega)).trans ?_ | refine (bnd (geti hv hlt)).trans ?_ | refine (bnd (free_ok (l := acc) (by omega) l[i].2.1)).trans ?_ | refine Eq.trans (Sum.elim_inl _ _ _) ?_ | refine Eq.trans (Sum.elim_inr _ _ _) ?_)
      exact r1
theorem plain_others (x1 : List Ho) (x2 x3 x4 : Int) (x5 : Bool) (w1 : w_t22 x1) (w2 : w_t24 (x2, x3, x4, x5)) : P_law07_LockOthers x1 x2 x3 x4 x5 = some true := by
  have hl1 : x1.length ≤ 9223372036854775807 := w1.1
  have hx : w_t5 x2 ∧ w_t3 x3 ∧ w_t5 x4 ∧ w_t4 x5 := w2
  simp only [w_t5] at hx
  rw [P_law07_LockOthers_eq]
  by_cases h1 : 100 < x1.length
  · repeat (first | refine (if_pos (by first | with_reducible rfl | assumption | (simp (disch := omega) only [ws, wl, Bool.not_eq_true', ← Bool.not_eq_true, Bool.not_eq_eq_eq_not] <;> omega) | omega)).trans ?_ | refine (if_neg (by first | with_reducible rfl | assumption | (simp (disch := omega) only [ws, wl, Bool.not_eq_true', ← Bool.not_eq_true, Bool.not_eq_eq_eq_not] <;> omega) | omega)).trans ?_ | refine (bnd alive_ok).trans ?_ | refine Eq.trans (Sum.elim_inl _ _ _) ?_ | refine Eq.trans (Sum.elim_inr _ _ _) ?_)
    rfl
  by_cases hr : Lk x1
  rotate_left
  · repeat (first | refine (if_pos (by first | with_reducible rfl | assumption | (simp (disch := omega) only [ws, wl, Bool.not_eq_true', ← Bool.not_eq_true, Bool.not_eq_eq_eq_not] <;> omega) | omega)).trans ?_ | refine (if_neg (by first | with_reducible rfl | assumption | (simp (disch := omega) only [ws, wl, Bool.not_eq_true', ← Bool.not_eq_true, Bool.not_eq_eq_eq_not] <;> omega) | omega)).trans ?_ | refine (bnd alive_ok).trans ?_ | refine (bnd (rright_f (wf_l w1) (by omega) hr)).trans ?_ | refine Eq.trans (Sum.elim_inl _ _ _) ?_ | refine Eq.trans (Sum.elim_inr _ _ _) ?_)
    rfl
  have hf := freeL_len x1 x3
  obtain ⟨a, e, q1, _, q3⟩ := take_any (l := x1) (k := x4) (t := x3) (w := x5) (wf_l w1) (by omega) (by omega)
  rcases q3 with ⟨rfl, _, hm, hc, hg⟩ | ⟨rfl, ha, _, hm, hc⟩ | ⟨rfl, ha, hno⟩
  · obtain ⟨g1, g2, g3, _⟩ := hg.lk hr ((mayb_may (h := (x4, x3, x5)) hx.2.2.1.1).1 hm) hc
    have hfr := free_ok (l := a) (by omega) x3
    rw [g3] at hfr
    have hm2 : x4 < 64 ∧ 0 ≤ x3 ∧ x3 < 1000 := hm
    have e1 : eqB (eqI 0 0) (ltI x4 64) = true := by rw [eqB_iff, eqI_self]; exact (ltI_iff.2 hm2.1).symm
    repeat (first | refine (if_pos (by first | with_reducible rfl | assumption | (simp (disch := omega) only [ws, wl, Bool.not_eq_true', ← Bool.not_eq_true, Bool.not_eq_eq_eq_not] <;> omega) | omega)).trans ?_ | refine (if_neg (by first | with_reducible rfl | assumption | (simp (disch := omega) only [ws, wl, Bool.not_eq_true', ← Bool.not_eq_true, Bool.not_eq_eq_eq_not] <;> omega) | omega)).trans ?_ | refine (bnd alive_ok).trans ?_ | refine (bnd (rright_t hr (by omega))).trans ?_ | refine (bnd (theirs_ok (l := x1) (by omega))).trans ?_ | refine (bnd q1).trans ?_ | refine (bnd hfr).trans ?_ | refine (bnd (ours_ok (l := freeL x1 x3) (by omega))).trans ?_ | refine (bnd (rfree_ok (l := x1) (by omega) x3)).trans ?_ | refine (bnd (lsame_ok (x := freeL x1 x3) (by omega))).trans ?_ | refine Eq.trans (Sum.elim_inl _ _ _) ?_ | refine Eq.trans (Sum.elim_inr _ _ _) ?_)
    rw [e1]
  · rw [ha] at q1
    obtain ⟨r, r1, r2, r3, r4⟩ := others_l0 (l := x1) (kd := x2) (t := x3) (k := x4) (w := x5) (by omega) _ 0 0 x1 rfl (by omega) rfl hr (by omega) (fun h hm => by
      obtain ⟨j, hj⟩ := List.mem_iff_getElem?.1 hm
      exact .inr ⟨j, Nat.zero_le _, h, hj, rfl⟩)
    have hcr : ¬ Conf r x4 x3 x5 := fun ⟨h, hm, _, ht, _⟩ => ht (r4 h hm)
    obtain ⟨z, z1, _, z3⟩ := take_t (w := x5) r2 (by omega) hx.2.2.1.1 hm hcr
    obtain ⟨g1, g2, _, b, g4, _⟩ := z3.lk r2 ((mayb_may (h := (x4, x3, x5)) hx.2.2.1.1).1 hm) hcr
    have hho := holds_ok (l := z) (by omega) x3 x4
    rw [hold_in g1 g4] at hho
    have e1 : (!ltI (if b = true then 2 else 1) 1) = true := by cases b <;> rfl
    repeat (first | refine (if_pos (by first | with_reducible rfl | assumption | (simp (disch := omega) only [ws, wl, Bool.not_eq_true', ← Bool.not_eq_true, Bool.not_eq_eq_eq_not] <;> omega) | omega)).trans ?_ | refine (if_neg (by first | with_reducible rfl | assumption | (simp (disch := omega) only [ws, wl, Bool.not_eq_true', ← Bool.not_eq_true, Bool.not_eq_eq_eq_not] <;> omega) | omega)).trans ?_ | refine (bnd alive_ok).trans ?_ | refine (bnd (rright_t hr (by omega))).trans ?_ | refine (bnd (theirs_ok (l := x1) (by omega))).trans ?_ | refine (bnd q1).trans ?_ | refine (bnd (free_ok (l := x1) (by omega) x3)).trans ?_ | refine (bnd (ours_ok (l := freeL x1 x3) (by omega))).trans ?_ | refine (bnd (rfree_ok (l := x1) (by omega) x3)).trans ?_ | refine (bnd (lsame_ok (x := freeL x1 x3) (by omega))).trans ?_ | refine (bnd (ours_ok (l := x1) (by omega))).trans ?_ | refine (bnd (lsame_ok (x := x1) (by omega))).trans ?_ | refine (bnd r1).trans ?_ | refine (bnd z1).trans ?_ | refine (bnd hho).trans ?_ | refine Eq.trans (Sum.elim_inl _ _ _) ?_ | refine Eq.trans (Sum.elim_inr _ _ _) ?_)
    rw [e1]
  · rw [ha] at q1
    have hm2 : ¬ (x4 < 64 ∧ 0 ≤ x3 ∧ x3 < 1000) := fun h => hno ⟨hr, h⟩
    by_cases h3 : x3 < 0
    · repeat (first | refine (if_pos (by first | with_reducible rfl | assumption | (simp (disch := omega) only [ws, wl, Bool.not_eq_true', ← Bool.not_eq_true, Bool.not_eq_eq_eq_not] <;> omega) | omega)).trans ?_ | refine (if_neg (by first | with_reducible rfl | assumption | (simp (disch := omega) only [ws, wl, Bool.not_eq_true', ← Bool.not_eq_true, Bool.not_eq_eq_eq_not] <;> omega) | omega)).trans ?_ | refine (bnd alive_ok).trans ?_ | refine (bnd (rright_t hr (by omega))).trans ?_ | refine (bnd (theirs_ok (l := x1) (by omega))).trans ?_ | refine (bnd q1).trans ?_ | refine (bnd (free_ok (l := x1) (by omega) x3)).trans ?_ | refine (bnd (ours_ok (l := freeL x1 x3) (by omega))).trans ?_ | refine (bnd (rfree_ok (l := x1) (by omega) x3)).trans ?_ | refine (bnd (lsame_ok (x := freeL x1 x3) (by omega))).trans ?_ | refine (bnd (ours_ok (l := x1) (by omega))).trans ?_ | refine (bnd (lsame_ok (x := x1) (by omega))).trans ?_ | refine Eq.trans (Sum.elim_inl _ _ _) ?_ | refine Eq.trans (Sum.elim_inr _ _ _) ?_)
      rfl
    · by_cases h4 : x3 < 1000
      · have e1 : eqB (eqI 2 0) (ltI x4 64) = true := by
          have : ltI x4 64 = false := by rw [← Bool.not_eq_true, ltI_iff]; omega
          rw [this]; rfl
        repeat (first | refine (if_pos (by first | with_reducible rfl | assumption | (simp (disch := omega) only [ws, wl, Bool.not_eq_true', ← Bool.not_eq_true, Bool.not_eq_eq_eq_not] <;> omega) | omega)).trans ?_ | refine (if_neg (by first | with_reducible rfl | assumption | (simp (disch := omega) only [ws, wl, Bool.not_eq_true', ← Bool.not_eq_true, Bool.not_eq_eq_eq_not] <;> omega) | omega)).trans ?_ | refine (bnd alive_ok).trans ?_ | refine (bnd (rright_t hr (by omega))).trans ?_ | refine (bnd (theirs_ok (l := x1) (by omega))).trans ?_ | refine (bnd q1).trans ?_ | refine (bnd (free_ok (l := x1) (by omega) x3)).trans ?_ | refine (bnd (ours_ok (l := freeL x1 x3) (by omega))).trans ?_ | refine (bnd (rfree_ok (l := x1) (by omega) x3)).trans ?_ | refine (bnd (lsame_ok (x := freeL x1 x3) (by omega))).trans ?_ | refine (bnd (ours_ok (l := x1) (by omega))).trans ?_ | refine (bnd (lsame_ok (x := x1) (by omega))).trans ?_ | refine Eq.trans (Sum.elim_inl _ _ _) ?_ | refine Eq.trans (Sum.elim_inr _ _ _) ?_)
        rw [e1]
      · repeat (first | refine (if_pos (by first | with_reducible rfl | assumption | (simp (disch := omega) only [ws, wl, Bool.not_eq_true', ← Bool.not_eq_true, Bool.not_eq_eq_eq_not] <;> omega) | omega)).trans ?_ | refine (if_neg (by first | with_reducible rfl | assumption | (simp (disch := omega) only [ws, wl, Bool.not_eq_true', ← Bool.not_eq_true, Bool.not_eq_eq_eq_not] <;> omega) | omega)).trans ?_ | refine (bnd alive_ok).trans ?_ | refine (bnd (rright_t hr (by omega))).trans ?_ | refine (bnd (theirs_ok (l := x1) (by omega))).trans ?_ | refine (bnd q1).trans ?_ | refine (bnd (free_ok (l := x1) (by omega) x3)).trans ?_ | refine (bnd (ours_ok (l := freeL x1 x3) (by omega))).trans ?_ | refine (bnd (rfree_ok (l := x1) (by omega) x3)).trans ?_ | refine (bnd (lsame_ok (x := freeL x1 x3) (by omega))).trans ?_ | refine (bnd (ours_ok (l := x1) (by omega))).trans ?_ | refine (bnd (lsame_ok (x := x1) (by omega))).trans ?_ | refine Eq.trans (Sum.elim_inl _ _ _) ?_ | refine Eq.trans (Sum.elim_inr _ _ _) ?_)
        rfl

theorem got_hold {l l' : List Ho} {k t : Int} {w : Bool} (hr : Lk l) (hm : May (k, t, w)) (h : Got l k t w l') (hc : ¬ Conf l k t w) : hold l' t k = if w then 2 else imax (hold l t k) 1 := by
  obtain ⟨g1, _⟩ := h.lk hr hm hc
  rcases h with ⟨A, b, R, rfl, rfl⟩ | ⟨A, R, rfl, hA, hR, rfl⟩
  · rw [hold_in g1 (b := b || w) (by simp), hold_in hr (b := b) (by simp)]
    cases b <;> cases w <;> rfl
  · rw [hold_in g1 (b := w) (by simp), hold_none fun x hx hh => by
      have he := (cd_eq (hr.2.1 x hx) hm).2 hh
      rcases List.mem_append.1 hx with hx | hx
      · have := hA x hx; omega
      · have := hR x hx; omega]
    cases w <;> rfl
theorem got_again {l l' : List Ho} {k t : Int} {w : Bool} (hl' : Lk l') (hm : (k, t, w) ∈ l ) (hr : Lk l) (h : Got l k t false l') : l' = l := by
  rcases h with ⟨A, b, R, rfl, rfl⟩ | ⟨A, R, rfl, hA, hR, rfl⟩
  · rw [Bool.or_false]
  · rcases List.mem_append.1 hm with hx | hx
    · have := hA _ hx; unfold cd at this; simp at this
    · have := hR _ hx; unfold cd at this; simp at this
theorem plain_again (x1 : List Ho) (x2 x3 x4 : Int) (x5 : Bool) (w1 : w_t22 x1) (w2 : w_t24 (x2, x3, x4, x5)) : P_law07_LockAgain x1 x2 x3 x4 x5 = some true := by
  have hl1 : x1.length ≤ 9223372036854775807 := w1.1
  have hx : w_t5 x2 ∧ w_t3 x3 ∧ w_t5 x4 ∧ w_t4 x5 := w2
  simp only [w_t5] at hx
  rw [P_law07_LockAgain_eq]
  by_cases h1 : 100 < x1.length
  · repeat (first | refine (if_pos (by first | with_reducible rfl | assumption | (simp (disch := omega) only [ws, wl, Bool.not_eq_true', ← Bool.not_eq_true, Bool.not_eq_eq_eq_not] <;> omega) | omega)).trans ?_ | refine (if_neg (by first | with_reducible rfl | assumption | (simp (disch := omega) only [ws, wl, Bool.not_eq_true', ← Bool.not_eq_true, Bool.not_eq_eq_eq_not] <;> omega) | omega)).trans ?_ | refine (bnd alive_ok).trans ?_ | refine Eq.trans (Sum.elim_inl _ _ _) ?_ | refine Eq.trans (Sum.elim_inr _ _ _) ?_)
    rfl
  by_cases hr : Lk x1
  rotate_left
  · repeat (first | refine (if_pos (by first | with_reducible rfl | assumption | (simp (disch := omega) only [ws, wl, Bool.not_eq_true', ← Bool.not_eq_true, Bool.not_eq_eq_eq_not] <;> omega) | omega)).trans ?_ | refine (if_neg (by first | with_reducible rfl | assumption | (simp (disch := omega) only [ws, wl, Bool.not_eq_true', ← Bool.not_eq_true, Bool.not_eq_eq_eq_not] <;> omega) | omega)).trans ?_ | refine (bnd alive_ok).trans ?_ | refine (bnd (rright_f (wf_l w1) (by omega) hr)).trans ?_ | refine Eq.trans (Sum.elim_inl _ _ _) ?_ | refine Eq.trans (Sum.elim_inr _ _ _) ?_)
    rfl
  obtain ⟨a, e, q1, _, q3⟩ := take_any (l := x1) (k := x4) (t := x3) (w := x5) (wf_l w1) (by omega) (by omega)
  rcases q3 with ⟨rfl, _, hm, hc, hg⟩ | ⟨rfl, ha, _, hm, hc⟩ | ⟨rfl, ha, hno⟩
  rotate_left
  · repeat (first | refine (if_pos (by first | with_reducible rfl | assumption | (simp (disch := omega) only [ws, wl, Bool.not_eq_true', ← Bool.not_eq_true, Bool.not_eq_eq_eq_not] <;> omega) | omega)).trans ?_ | refine (if_neg (by first | with_reducible rfl | assumption | (simp (disch := omega) only [ws, wl, Bool.not_eq_true', ← Bool.not_eq_true, Bool.not_eq_eq_eq_not] <;> omega) | omega)).trans ?_ | refine (bnd alive_ok).trans ?_ | refine (bnd (rright_t hr (by omega))).trans ?_ | refine (bnd (theirs_ok (l := x1) (by omega))).trans ?_ | refine (bnd q1).trans ?_ | refine Eq.trans (Sum.elim_inl _ _ _) ?_ | refine Eq.trans (Sum.elim_inr _ _ _) ?_)
    rfl
  · repeat (first | refine (if_pos (by first | with_reducible rfl | assumption | (simp (disch := omega) only [ws, wl, Bool.not_eq_true', ← Bool.not_eq_true, Bool.not_eq_eq_eq_not] <;> omega) | omega)).trans ?_ | refine (if_neg (by first | with_reducible rfl | assumption | (simp (disch := omega) only [ws, wl, Bool.not_eq_true', ← Bool.not_eq_true, Bool.not_eq_eq_eq_not] <;> omega) | omega)).trans ?_ | refine (bnd alive_ok).trans ?_ | refine (bnd (rright_t hr (by omega))).trans ?_ | refine (bnd (theirs_ok (l := x1) (by omega))).trans ?_ | refine (bnd q1).trans ?_ | refine Eq.trans (Sum.elim_inl _ _ _) ?_ | refine Eq.trans (Sum.elim_inr _ _ _) ?_)
    rfl
  have hM := (mayb_may (h := (x4, x3, x5)) hx.2.2.1.1).1 hm
  obtain ⟨g1, g2, _, b, g4, _⟩ := hg.lk hr hM hc
  have hcr : ¬ Conf a x4 x3 false := fun ⟨h, hm, hk, ht, hw⟩ => by
    have := g1.2.2 h hm _ g4 hk ht
    rw [this] at hw
    simp at hw
  obtain ⟨z, z1, _, z3⟩ := take_t (w := false) g1 (by omega) hx.2.2.1.1 (k := x4) (t := x3) hm hcr
  obtain ⟨y1, _⟩ := z3.lk g1 hM hcr
  obtain rfl := got_again y1 g4 g1 z3
  have hho := holds_ok (l := z) (by omega) x3 x4
  rw [got_hold hr hM hg hc] at hho
  have hrh := rholds_ok (l := x1) (by omega) x3 x4
  cases x5 with
  | true =>
    repeat (first | refine (if_pos (by first | with_reducible rfl | assumption | (simp (disch := omega) only [ws, wl, Bool.not_eq_true', ← Bool.not_eq_true, Bool.not_eq_eq_eq_not] <;> omega) | omega)).trans ?_ | refine (if_neg (by first | with_reducible rfl | assumption | (simp (disch := omega) only [ws, wl, Bool.not_eq_true', ← Bool.not_eq_true, Bool.not_eq_eq_eq_not] <;> omega) | omega)).trans ?_ | refine (bnd alive_ok).trans ?_ | refine (bnd (rright_t hr (by omega))).trans ?_ | refine (bnd (theirs_ok (l := x1) (by omega))).trans ?_ | refine (bnd q1).trans ?_ | refine (bnd z1).trans ?_ | refine (bnd hrh).trans ?_ | refine (bnd (ours_ok (l := z) (by omega))).trans ?_ | refine (bnd (lsame_ok (x := z) (by omega))).trans ?_ | refine (bnd hho).trans ?_ | refine Eq.trans (Sum.elim_inl _ _ _) ?_ | refine Eq.trans (Sum.elim_inr _ _ _) ?_)
    rfl
  | false =>
    repeat (first | refine (if_pos (by first | with_reducible rfl | assumption | (simp (disch := omega) only [ws, wl, Bool.not_eq_true', ← Bool.not_eq_true, Bool.not_eq_eq_eq_not] <;> omega) | omega)).trans ?_ | refine (if_neg (by first | with_reducible rfl | assumption | (simp (disch := omega) only [ws, wl, Bool.not_eq_true', ← Bool.not_eq_true, Bool.not_eq_eq_eq_not] <;> omega) | omega)).trans ?_ | refine (bnd alive_ok).trans ?_ | refine (bnd (rright_t hr (by omega))).trans ?_ | refine (bnd (theirs_ok (l := x1) (by omega))).trans ?_ | refine (bnd q1).trans ?_ | refine (bnd z1).trans ?_ | refine (bnd hrh).trans ?_ | refine (bnd (ours_ok (l := z) (by omega))).trans ?_ | refine (bnd (lsame_ok (x := z) (by omega))).trans ?_ | refine (bnd hho).trans ?_ | refine Eq.trans (Sum.elim_inl _ _ _) ?_ | refine Eq.trans (Sum.elim_inr _ _ _) ?_)
    rw [if_neg (by simp), eqI_self]

theorem frees_l0 {l x : List Ho} {tx : Int} (hl : x.length ≤ 1000) (hx : ∀ h ∈ x, h.2.1 ≠ tx) : ∀ (d i : Nat) (v : Int), x.length - i = d → i ≤ x.length → v = (i : Int) → P_law07_LockFrees_l0 l tx x v = some (.inl ()) := by
  intro d
  induction d with
  | zero =>
    intro i v hd hi hv
    rw [P_law07_LockFrees_l0_eq]
    repeat (first | refine (if_pos (by first | with_reducible rfl | assumption | (simp (disch := omega) only [ws, wl, Bool.not_eq_true', ← Bool.not_eq_true, Bool.not_eq_eq_eq_not] <;> omega) | omega)).trans ?_ | refine (if_neg (by first | with_reducible rfl | assumption | (simp (disch := omega) only [ws, wl, Bool.not_eq_true', ← Bool.not_eq_true, Bool.not_eq_eq_eq_not] <;> omega) | omega)).trans ?_ | refine Eq.trans (Sum.elim_inl _ _ _) ?_ | refine Eq.trans (Sum.elim_inr _ _ _) ?_)
    rfl
  | succ d ih =>
    intro i v hd hi hv
    have hlt : i < x.length := by omega
    have h := hx x[i] (List.getElem_mem hlt)
    rw [P_law07_LockFrees_l0_eq]
    repeat (first | refine (if_pos (by first | with_reducible rfl | assumption | (simp (disch := omega) only [ws, wl, Bool.not_eq_true', ← Bool.not_eq_true, Bool.not_eq_eq_eq_not] <;> omega) | omega)).trans ?_ | refine (if_neg (by first | with_reducible rfl | assumption | (simp (disch := omega) only [ws, wl, Bool.not_eq_true', ← Bool.not_eq_true, Bool.not_eq_eq_eq_not] <;> omega) | omega)).trans ?_ | refine (bnd (geti hv hlt)).trans ?_ | refine Eq.trans (Sum.elim_inl _ _ _) ?_ | refine Eq.trans (Sum.elim_inr _ _ _) ?_)
    exact ih (i + 1) _ (by omega) (by omega) (by first | with_reducible rfl | assumption | (simp (disch := omega) only [ws, wl, Bool.not_eq_true', ← Bool.not_eq_true, Bool.not_eq_eq_eq_not] <;> omega) | omega)
theorem frees_l1 {l : List Ho} {tx : Int} (hl : l.length ≤ 1000) : ∀ (d i : Nat) (v : Int), l.length - i = d → i ≤ l.length → v = (i : Int) → P_law07_LockFrees_l1 l tx (freeL l tx) v = some (.inl ()) := by
  have hfl := freeL_len l tx
  intro d
  induction d with
  | zero =>
    intro i v hd hi hv
    rw [P_law07_LockFrees_l1_eq]
    repeat (first | refine (if_pos (by first | with_reducible rfl | assumption | (simp (disch := omega) only [ws, wl, Bool.not_eq_true', ← Bool.not_eq_true, Bool.not_eq_eq_eq_not] <;> omega) | omega)).trans ?_ | refine (if_neg (by first | with_reducible rfl | assumption | (simp (disch := omega) only [ws, wl, Bool.not_eq_true', ← Bool.not_eq_true, Bool.not_eq_eq_eq_not] <;> omega) | omega)).trans ?_ | refine Eq.trans (Sum.elim_inl _ _ _) ?_ | refine Eq.trans (Sum.elim_inr _ _ _) ?_)
    rfl
  | succ d ih =>
    intro i v hd hi hv
    have hlt : i < l.length := by omega
    have g1 := holds_ok (l := l) (by omega) l[i].2.1 l[i].1
    have g2 := holds_ok (l := freeL l tx) (by omega) l[i].2.1 l[i].1
    rw [show hold (freeL l tx) l[i].2.1 l[i].1 = _ from hold_free] at g2
    rw [P_law07_LockFrees_l1_eq]
    by_cases h : l[i].2.1 = tx
    · rw [if_pos h] at g2
      repeat (first | refine (if_pos (by first | with_reducible rfl | assumption | (simp (disch := omega) only [ws, wl, Bool.not_eq_true', ← Bool.not_eq_true, Bool.not_eq_eq_eq_not] <;> omega) | omega)).trans ?_ | refine (if_neg (by first | with_reducible rfl | assumption | (simp (disch := omega) only [ws, wl, Bool.not_eq_true', ← Bool.not_eq_true, Bool.not_eq_eq_eq_not] <;> omega) | omega)).trans ?_ | refine (bnd (geti hv hlt)).trans ?_ | refine (bnd (theirs_ok (l := l) (by omega))).trans ?_ | refine (bnd g1).trans ?_ | refine (bnd g2).trans ?_ | refine Eq.trans (Sum.elim_inl _ _ _) ?_ | refine Eq.trans (Sum.elim_inr _ _ _) ?_)
      exact ih (i + 1) _ (by omega) (by omega) (by first | with_reducible rfl | assumption | (simp (disch := omega) only [ws, wl, Bool.not_eq_true', ← Bool.not_eq_true, Bool.not_eq_eq_eq_not] <;> omega) | omega)
    · rw [if_neg h] at g2
      repeat (first | refine (if_pos (by first | with_reducible rfl | assumption | (simp (disch := omega) only [ws, wl, Bool.not_eq_true', ← Bool.not_eq_true, Bool.not_eq_eq_eq_not] <;> omega) | omega)).trans ?_ | refine (if_neg (by first | with_reducible rfl | assumption | (simp (disch := omega) only [ws, wl, Bool.not_eq_true', ← Bool.not_eq_true, Bool.not_eq_eq_eq_not] <;> omega) | omega)).trans ?_ | refine (bnd (geti hv hlt)).trans ?_ | refine (bnd (theirs_ok (l := l) (by omega))).trans ?_ | refine (bnd g1).trans ?_ | refine (bnd g2).trans ?_ | refine Eq.trans (Sum.elim_inl _ _ _) ?_ | refine Eq.trans (Sum.elim_inr _ _ _) ?_)
      exact ih (i + 1) _ (by omega) (by omega) (by first | with_reducible rfl | assumption | (simp (disch := omega) only [ws, wl, Bool.not_eq_true', ← Bool.not_eq_true, Bool.not_eq_eq_eq_not] <;> omega) | omega)
theorem plain_frees (x1 : List Ho) (x2 : Int) (w1 : w_t22 x1) (w2 : w_t3 x2) : P_law07_LockFrees x1 x2 = some true := by
  have hl1 : x1.length ≤ 9223372036854775807 := w1.1
  rw [P_law07_LockFrees_eq]
  by_cases h1 : 100 < x1.length
  · repeat (first | refine (if_pos (by first | with_reducible rfl | assumption | (simp (disch := omega) only [ws, wl, Bool.not_eq_true', ← Bool.not_eq_true, Bool.not_eq_eq_eq_not] <;> omega) | omega)).trans ?_ | refine (if_neg (by first | with_reducible rfl | assumption | (simp (disch := omega) only [ws, wl, Bool.not_eq_true', ← Bool.not_eq_true, Bool.not_eq_eq_eq_not] <;> omega) | omega)).trans ?_ | refine (bnd alive_ok).trans ?_ | refine Eq.trans (Sum.elim_inl _ _ _) ?_ | refine Eq.trans (Sum.elim_inr _ _ _) ?_)
    rfl
  have hfl := freeL_len x1 x2
  have hl0 := frees_l0 (l := x1) (x := freeL x1 x2) (tx := x2) (by omega) (fun h hm => (freeL_mem.1 hm).2) _ 0 0 rfl (by omega) rfl
  have hl1 := frees_l1 (l := x1) (tx := x2) (by omega) _ 0 0 rfl (by omega) rfl
  have hf2 := free_ok (l := freeL x1 x2) (by omega) x2
  rw [freeL_idem] at hf2
  by_cases hr : Lk x1
  · repeat (first | refine (if_pos (by first | with_reducible rfl | assumption | (simp (disch := omega) only [ws, wl, Bool.not_eq_true', ← Bool.not_eq_true, Bool.not_eq_eq_eq_not] <;> omega) | omega)).trans ?_ | refine (if_neg (by first | with_reducible rfl | assumption | (simp (disch := omega) only [ws, wl, Bool.not_eq_true', ← Bool.not_eq_true, Bool.not_eq_eq_eq_not] <;> omega) | omega)).trans ?_ | refine (bnd alive_ok).trans ?_ | refine (bnd (theirs_ok (l := x1) (by omega))).trans ?_ | refine (bnd (free_ok (l := x1) (by omega) x2)).trans ?_ | refine (bnd hl0).trans ?_ | refine (bnd hl1).trans ?_ | refine (bnd hf2).trans ?_ | refine (bnd (ours_ok (l := freeL x1 x2) (by omega))).trans ?_ | refine (bnd (lsame_ok (x := freeL x1 x2) (by omega))).trans ?_ | refine (bnd (rright_t hr (by omega))).trans ?_ | refine (bnd (pright_t (hr.free x2) (by omega))).trans ?_ | refine Eq.trans (Sum.elim_inl _ _ _) ?_ | refine Eq.trans (Sum.elim_inr _ _ _) ?_)
    rfl
  · repeat (first | refine (if_pos (by first | with_reducible rfl | assumption | (simp (disch := omega) only [ws, wl, Bool.not_eq_true', ← Bool.not_eq_true, Bool.not_eq_eq_eq_not] <;> omega) | omega)).trans ?_ | refine (if_neg (by first | with_reducible rfl | assumption | (simp (disch := omega) only [ws, wl, Bool.not_eq_true', ← Bool.not_eq_true, Bool.not_eq_eq_eq_not] <;> omega) | omega)).trans ?_ | refine (bnd alive_ok).trans ?_ | refine (bnd (theirs_ok (l := x1) (by omega))).trans ?_ | refine (bnd (free_ok (l := x1) (by omega) x2)).trans ?_ | refine (bnd hl0).trans ?_ | refine (bnd hl1).trans ?_ | refine (bnd hf2).trans ?_ | refine (bnd (ours_ok (l := freeL x1 x2) (by omega))).trans ?_ | refine (bnd (lsame_ok (x := freeL x1 x2) (by omega))).trans ?_ | refine (bnd (rright_f (wf_l w1) (by omega) hr)).trans ?_ | refine Eq.trans (Sum.elim_inl _ _ _) ?_ | refine Eq.trans (Sum.elim_inr _ _ _) ?_)
    rfl
end Go.Ws
