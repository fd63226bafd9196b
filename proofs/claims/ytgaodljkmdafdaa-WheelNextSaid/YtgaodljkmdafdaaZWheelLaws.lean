/-
  WheelCalls, WheelRow, plainly.
  Conditions: none.
-/
import Derived.Test.YtgaodljkmdafdaaZWheel
set_option linter.unusedVariables false
set_option linter.unusedSimpArgs false
namespace Go.Ws
set_option linter.unusedVariables false
set_option linter.unusedSimpArgs false
set_option maxHeartbeats 1000000
set_option maxRecDepth 100000

theorem alive_ok : P_law06_alive = some true := le_law06_alive 60 true (by kernel_rfl)
theorem set_any {now : Int} {l : List Tm} (hl : l.length ≤ 1000) (id at1 : Int) : ∃ l' e, P_wheel_Set now l id at1 = some (now, l', e) ∧ P_ref06_Set now l id at1 = some (now, l', e) ∧ l'.length ≤ l.length + 1 ∧ (Wh now l → Wh now l') := by
  by_cases h : Wh now l
  rotate_left
  · obtain ⟨q1, q2⟩ := set_f (now := now) (l := l) (by omega) (id := id) (at1 := at1) (.inl ⟨h, rfl⟩)
    exact ⟨_, _, q1, q2, by omega, fun hh => absurd hh h⟩
  by_cases h1 : now < at1
  rotate_left
  · obtain ⟨q1, q2⟩ := set_f (now := now) (l := l) (by omega) (id := id) (at1 := at1) (.inr ⟨h, .inl ⟨by omega, rfl⟩⟩)
    exact ⟨_, _, q1, q2, by omega, fun hh => hh⟩
  by_cases h2 : at1 ≤ 1099511627776
  rotate_left
  · obtain ⟨q1, q2⟩ := set_f (now := now) (l := l) (by omega) (id := id) (at1 := at1) (.inr ⟨h, .inr (.inl ⟨h1, by omega, rfl⟩)⟩)
    exact ⟨_, _, q1, q2, by omega, fun hh => hh⟩
  by_cases h3 : isIn l id = true ∨ l.length < 1000
  · obtain ⟨A, R, e0, hA, hR, q1, q2⟩ := set_t h h1 h2 h3
    obtain ⟨g1, g2⟩ := h.set h1 h2 h3 e0 hA hR
    exact ⟨_, _, q1, q2, g2, fun _ => g1⟩
  · have h4 : isIn l id = false := by
      rw [← Bool.not_eq_true]; exact fun hh => h3 (.inl hh)
    have h5 : 1000 ≤ l.length := Classical.byContradiction fun hh => h3 (.inr (by omega))
    obtain ⟨q1, q2⟩ := set_f (now := now) (l := l) (by omega) (id := id) (at1 := at1) (.inr ⟨h, .inr (.inr ⟨h1, h2, h4, h5, rfl⟩)⟩)
    exact ⟨_, _, q1, q2, by omega, fun hh => hh⟩
theorem stop_any {now : Int} {l : List Tm} (hl : l.length ≤ 1000) (id : Int) : ∃ l' e, P_wheel_Stop now l id = some (now, l', e) ∧ P_ref06_Stop now l id = some (now, l', e) ∧ l'.length ≤ l.length ∧ (Wh now l → Wh now l') := by
  by_cases h : Wh now l
  · obtain ⟨e, q1, q2, _⟩ := stop_t h id
    exact ⟨_, _, q1, q2, wo_len l id, fun _ => h.wo id⟩
  · obtain ⟨q1, q2⟩ := stop_f (l := l) (by omega) h id
    exact ⟨_, _, q1, q2, Nat.le_refl _, fun hh => hh⟩
theorem tick_any {now : Int} {l : List Tm} (hl : l.length ≤ 1000) (b : Int) : ∃ n l' r e, P_wheel_Tick now l b = some (n, l', r, e) ∧ P_ref06_Tick now l b = some (n, l', r, e) ∧ l'.length ≤ l.length ∧ r.length ≤ l.length ∧ (Wh now l → Wh n l') := by
  by_cases h : Wh now l ∧ 0 ≤ b
  · by_cases h2 : b ≤ 1099511627776 - now
    · obtain ⟨q1, q2⟩ := tick_t h.1 h.2 h2
      exact ⟨_, _, _, _, q1, q2, lf_len _ _, by rw [List.length_map]; exact rg_len _ _, fun hh => hh.tick h.2 h2⟩
    · obtain ⟨q1, q2⟩ := tick_f (now := now) (l := l) (by omega) (b := b) (.inr ⟨h.1, h.2, by omega, rfl⟩)
      exact ⟨_, _, _, _, q1, q2, Nat.le_refl _, by simp, fun hh => hh⟩
  · obtain ⟨q1, q2⟩ := tick_f (now := now) (l := l) (by omega) (b := b) (.inl ⟨h, rfl⟩)
    exact ⟨_, _, _, _, q1, q2, Nat.le_refl _, by simp, fun hh => hh⟩
theorem plain_calls (x1 : Int) (x2 : List Tm) (x3 x4 : Int) (w1 : w_t24 (x1, x2)) (w2 : w_t3 x3) (w3 : w_t2 x4) : P_law06_WheelCalls x1 x2 x3 x4 = some true := by
  have hl1 : x2.length ≤ 9223372036854775807 := w1.2.1
  rw [P_law06_WheelCalls_eq]
  by_cases h1 : 100 < x2.length
  · repeat (first | refine (if_pos (by first | with_reducible rfl | assumption | (simp (disch := omega) only [ws, wl, Bool.not_eq_true', ← Bool.not_eq_true, Bool.not_eq_eq_eq_not] <;> omega) | omega)).trans ?_ | refine (if_neg (by first | with_reducible rfl | assumption | (simp (disch := omega) only [ws, wl, Bool.not_eq_true', ← Bool.not_eq_true, Bool.not_eq_eq_eq_not] <;> omega) | omega)).trans ?_ | refine (bnd alive_ok).trans ?_ | refine Eq.trans (Sum.elim_inl _ _ _) ?_ | refine Eq.trans (Sum.elim_inr _ _ _) ?_)
    rfl
  obtain ⟨a, e, q1, q2, al, _⟩ := set_any (now := x1) (l := x2) (by omega) x3 x4
  obtain ⟨b, f, q3, q4, bl, _⟩ := stop_any (now := x1) (l := x2) (by omega) x3
  obtain ⟨n, c, r, g, q5, q6, cl, rl, _⟩ := tick_any (now := x1) (l := x2) (by omega) x4
  have t1 := theirs_ok (l := x2) (by omega) x1
  have o1 := ours_ok (l := a) (by omega) x1
  have o2 := ours_ok (l := b) (by omega) x1
  have o3 := ours_ok (l := c) (by omega) n
  have s1 := lsame_ok (x := a) (by omega) x1
  have s2 := lsame_ok (x := b) (by omega) x1
  have s3 := lsame_ok (x := c) (by omega) n
  have s4 := isame_ok (x := r) (by omega)
  by_cases hr : Wh x1 x2
  · have p1 := pright_t hr
    have p2 := rright_t hr
    match x2, hr, p1, p2, t1, q1, q2, q3, q4, q5, q6, h1 with
    | [], hr, p1, p2, t1, q1, q2, q3, q4, q5, q6, h1 =>
      have nx := next_n (now := x1) (l := []) (by simp) (.inr rfl)
      have e1 : eqB false (ltI 0 (nI ([] : List Tm).length)) = true := rfl
      have e2 : eqB true true = true := rfl
      repeat (first | refine (if_pos (by first | with_reducible rfl | assumption | (simp (disch := omega) only [ws, wl, Bool.not_eq_true', ← Bool.not_eq_true, Bool.not_eq_eq_eq_not, e1, e2] <;> omega) | omega)).trans ?_ | refine (if_neg (by first | with_reducible rfl | assumption | (simp (disch := omega) only [ws, wl, Bool.not_eq_true', ← Bool.not_eq_true, Bool.not_eq_eq_eq_not, e1, e2] <;> omega) | omega)).trans ?_ | refine (bnd alive_ok).trans ?_ | refine (bnd t1).trans ?_ | refine (bnd q1).trans ?_ | refine (bnd q2).trans ?_ | refine (bnd q3).trans ?_ | refine (bnd q4).trans ?_ | refine (bnd q5).trans ?_ | refine (bnd q6).trans ?_ | refine (bnd nx).trans ?_ | refine (bnd p1).trans ?_ | refine (bnd p2).trans ?_ | refine (bnd o1).trans ?_ | refine (bnd s1).trans ?_ | refine (bnd o2).trans ?_ | refine (bnd s2).trans ?_ | refine (bnd o3).trans ?_ | refine (bnd s3).trans ?_ | refine (bnd s4).trans ?_ | refine Eq.trans (Sum.elim_inl _ _ _) ?_ | refine Eq.trans (Sum.elim_inr _ _ _) ?_)
      rw [eqI_self]
    | d :: l, hr, p1, p2, t1, q1, q2, q3, q4, q5, q6, h1 =>
      have h1' : l.length + 1 ≤ 100 := by have := h1; rw [List.length_cons] at this; omega
      have nx := next_t hr
      have hd := hr.2.2.2 d (by simp)
      have h3 := hr.1
      have e1 : eqB true (ltI 0 (nI (d :: l).length)) = true := by
        rw [eqB_iff]; exact (ltI_iff.2 (by rw [nI_def]; simp)).symm
      have e2 : eqB true true = true := rfl
      have e3 : eqI (d.2 - x1) (isub .i64 d.2 x1) = true := by rw [isub64 (by omega), eqI_self]
      have hin : inI 0 (d :: l).length = true := by rw [inI_iff]; simp
      have g0 : (d :: l)[0]? = some d := rfl
      repeat (first | refine (if_pos (by first | with_reducible rfl | assumption | (simp (disch := omega) only [ws, wl, Bool.not_eq_true', ← Bool.not_eq_true, Bool.not_eq_eq_eq_not, e1, e2, e3, hin] <;> omega) | omega)).trans ?_ | refine (if_neg (by first | with_reducible rfl | assumption | (simp (disch := omega) only [ws, wl, Bool.not_eq_true', ← Bool.not_eq_true, Bool.not_eq_eq_eq_not, e1, e2, e3, hin] <;> omega) | omega)).trans ?_ | refine (bnd alive_ok).trans ?_ | refine (bnd t1).trans ?_ | refine (bnd q1).trans ?_ | refine (bnd q2).trans ?_ | refine (bnd q3).trans ?_ | refine (bnd q4).trans ?_ | refine (bnd q5).trans ?_ | refine (bnd q6).trans ?_ | refine (bnd nx).trans ?_ | refine (bnd p1).trans ?_ | refine (bnd p2).trans ?_ | refine (bnd g0).trans ?_ | refine (bnd o1).trans ?_ | refine (bnd s1).trans ?_ | refine (bnd o2).trans ?_ | refine (bnd s2).trans ?_ | refine (bnd o3).trans ?_ | refine (bnd s3).trans ?_ | refine (bnd s4).trans ?_ | refine Eq.trans (Sum.elim_inl _ _ _) ?_ | refine Eq.trans (Sum.elim_inr _ _ _) ?_)
      rw [eqI_self]
  · have p1 := pright_f (now := x1) (l := x2) (by omega) hr
    have p2 := rright_f (now := x1) (l := x2) (by omega) hr
    have nx := next_n (now := x1) (l := x2) (by omega) (.inl hr)
    have e2 : eqB false false = true := rfl
    repeat (first | refine (if_pos (by first | with_reducible rfl | assumption | (simp (disch := omega) only [ws, wl, Bool.not_eq_true', ← Bool.not_eq_true, Bool.not_eq_eq_eq_not, e2] <;> omega) | omega)).trans ?_ | refine (if_neg (by first | with_reducible rfl | assumption | (simp (disch := omega) only [ws, wl, Bool.not_eq_true', ← Bool.not_eq_true, Bool.not_eq_eq_eq_not, e2] <;> omega) | omega)).trans ?_ | refine (bnd alive_ok).trans ?_ | refine (bnd t1).trans ?_ | refine (bnd q1).trans ?_ | refine (bnd q2).trans ?_ | refine (bnd q3).trans ?_ | refine (bnd q4).trans ?_ | refine (bnd q5).trans ?_ | refine (bnd q6).trans ?_ | refine (bnd nx).trans ?_ | refine (bnd p1).trans ?_ | refine (bnd p2).trans ?_ | refine (bnd o1).trans ?_ | refine (bnd s1).trans ?_ | refine (bnd o2).trans ?_ | refine (bnd s2).trans ?_ | refine (bnd o3).trans ?_ | refine (bnd s3).trans ?_ | refine (bnd s4).trans ?_ | refine Eq.trans (Sum.elim_inl _ _ _) ?_ | refine Eq.trans (Sum.elim_inr _ _ _) ?_)
    rw [eqI_self]
theorem wh0 : Wh 0 [] := ⟨by omega, by simp, List.Pairwise.nil, fun _ h => (by cases h)⟩
theorem row_l0 {x1 : List (Int × Int × Int)} : ∀ (d i : Nat) (v n : Int) (l : List Tm), 100 - i = d → i ≤ 100 → v = (i : Int) → Wh n l → l.length ≤ i → P_law06_WheelRow_l0 x1 v n l n l = some (.inl ()) := by
  intro d
  induction d with
  | zero =>
    intro i v n l hd hi hv hr hl
    rw [P_law06_WheelRow_l0_eq]
    by_cases hlx : i < x1.length
    · repeat (first | refine (if_pos (by first | with_reducible rfl | assumption | (simp (disch := omega) only [ws, wl, Bool.not_eq_true', ← Bool.not_eq_true, Bool.not_eq_eq_eq_not] <;> omega) | omega)).trans ?_ | refine (if_neg (by first | with_reducible rfl | assumption | (simp (disch := omega) only [ws, wl, Bool.not_eq_true', ← Bool.not_eq_true, Bool.not_eq_eq_eq_not] <;> omega) | omega)).trans ?_ | refine Eq.trans (Sum.elim_inl _ _ _) ?_ | refine Eq.trans (Sum.elim_inr _ _ _) ?_)
      rfl
    · repeat (first | refine (if_pos (by first | with_reducible rfl | assumption | (simp (disch := omega) only [ws, wl, Bool.not_eq_true', ← Bool.not_eq_true, Bool.not_eq_eq_eq_not] <;> omega) | omega)).trans ?_ | refine (if_neg (by first | with_reducible rfl | assumption | (simp (disch := omega) only [ws, wl, Bool.not_eq_true', ← Bool.not_eq_true, Bool.not_eq_eq_eq_not] <;> omega) | omega)).trans ?_ | refine Eq.trans (Sum.elim_inl _ _ _) ?_ | refine Eq.trans (Sum.elim_inr _ _ _) ?_)
      rfl
  | succ d ih =>
    intro i v n l hd hi hv hr hl
    rw [P_law06_WheelRow_l0_eq]
    by_cases hlx : i < x1.length
    rotate_left
    · repeat (first | refine (if_pos (by first | with_reducible rfl | assumption | (simp (disch := omega) only [ws, wl, Bool.not_eq_true', ← Bool.not_eq_true, Bool.not_eq_eq_eq_not] <;> omega) | omega)).trans ?_ | refine (if_neg (by first | with_reducible rfl | assumption | (simp (disch := omega) only [ws, wl, Bool.not_eq_true', ← Bool.not_eq_true, Bool.not_eq_eq_eq_not] <;> omega) | omega)).trans ?_ | refine Eq.trans (Sum.elim_inl _ _ _) ?_ | refine Eq.trans (Sum.elim_inr _ _ _) ?_)
      rfl
    by_cases h2 : irem .u8 x1[i].1 5 = 2
    · obtain ⟨b, f, q3, q4, bl, hw⟩ := stop_any (now := n) (l := l) (by omega) x1[i].2.1
      have hn := ih (i + 1) (iadd .i64 v 1) n b (by omega) (by omega) (by first | with_reducible rfl | assumption | (simp (disch := omega) only [ws, wl, Bool.not_eq_true', ← Bool.not_eq_true, Bool.not_eq_eq_eq_not] <;> omega) | omega) (hw hr) (by omega)
      repeat (first | refine (if_pos (by first | with_reducible rfl | assumption | (simp (disch := omega) only [ws, wl, Bool.not_eq_true', ← Bool.not_eq_true, Bool.not_eq_eq_eq_not, h2] <;> omega) | omega)).trans ?_ | refine (if_neg (by first | with_reducible rfl | assumption | (simp (disch := omega) only [ws, wl, Bool.not_eq_true', ← Bool.not_eq_true, Bool.not_eq_eq_eq_not, h2] <;> omega) | omega)).trans ?_ | refine (bnd (geti hv hlx)).trans ?_ | refine (bnd q3).trans ?_ | refine (bnd q4).trans ?_ | refine (bnd (ours_ok (l := b) (by omega) n)).trans ?_ | refine (bnd (lsame_ok (x := b) (by omega) n)).trans ?_ | refine (bnd (pright_t (hw hr))).trans ?_ | refine Eq.trans (Sum.elim_inl _ _ _) ?_ | refine Eq.trans (Sum.elim_inr _ _ _) ?_)
      exact hn
    by_cases h3 : irem .u8 x1[i].1 5 = 3
    · obtain ⟨m, c, r, g, q5, q6, cl, rl, hw⟩ := tick_any (now := n) (l := l) (by omega) x1[i].2.2
      have hn := ih (i + 1) (iadd .i64 v 1) m c (by omega) (by omega) (by first | with_reducible rfl | assumption | (simp (disch := omega) only [ws, wl, Bool.not_eq_true', ← Bool.not_eq_true, Bool.not_eq_eq_eq_not] <;> omega) | omega) (hw hr) (by omega)
      repeat (first | refine (if_pos (by first | with_reducible rfl | assumption | (simp (disch := omega) only [ws, wl, Bool.not_eq_true', ← Bool.not_eq_true, Bool.not_eq_eq_eq_not, h2, h3] <;> omega) | omega)).trans ?_ | refine (if_neg (by first | with_reducible rfl | assumption | (simp (disch := omega) only [ws, wl, Bool.not_eq_true', ← Bool.not_eq_true, Bool.not_eq_eq_eq_not, h2, h3] <;> omega) | omega)).trans ?_ | refine (bnd (geti hv hlx)).trans ?_ | refine (bnd q5).trans ?_ | refine (bnd q6).trans ?_ | refine (bnd (isame_ok (x := r) (by omega))).trans ?_ | refine (bnd (ours_ok (l := c) (by omega) m)).trans ?_ | refine (bnd (lsame_ok (x := c) (by omega) m)).trans ?_ | refine (bnd (pright_t (hw hr))).trans ?_ | refine Eq.trans (Sum.elim_inl _ _ _) ?_ | refine Eq.trans (Sum.elim_inr _ _ _) ?_)
      exact hn
    by_cases h4 : irem .u8 x1[i].1 5 = 4
    · obtain ⟨m, c, r, g, q5, q6, cl, rl, hw⟩ := tick_any (now := n) (l := l) (by omega) x1[i].2.2
      have hn := ih (i + 1) (iadd .i64 v 1) m c (by omega) (by omega) (by first | with_reducible rfl | assumption | (simp (disch := omega) only [ws, wl, Bool.not_eq_true', ← Bool.not_eq_true, Bool.not_eq_eq_eq_not] <;> omega) | omega) (hw hr) (by omega)
      repeat (first | refine (if_pos (by first | with_reducible rfl | assumption | (simp (disch := omega) only [ws, wl, Bool.not_eq_true', ← Bool.not_eq_true, Bool.not_eq_eq_eq_not, h2, h3, h4] <;> omega) | omega)).trans ?_ | refine (if_neg (by first | with_reducible rfl | assumption | (simp (disch := omega) only [ws, wl, Bool.not_eq_true', ← Bool.not_eq_true, Bool.not_eq_eq_eq_not, h2, h3, h4] <;> omega) | omega)).trans ?_ | refine (bnd (geti hv hlx)).trans ?_ | refine (bnd q5).trans ?_ | refine (bnd q6).trans ?_ | refine (bnd (isame_ok (x := r) (by omega))).trans ?_ | refine (bnd (ours_ok (l := c) (by omega) m)).trans ?_ | refine (bnd (lsame_ok (x := c) (by omega) m)).trans ?_ | refine (bnd (pright_t (hw hr))).trans ?_ | refine Eq.trans (Sum.elim_inl _ _ _) ?_ | refine Eq.trans (Sum.elim_inr _ _ _) ?_)
      exact hn
    · obtain ⟨a, e, q1, q2, al, hw⟩ := set_any (now := n) (l := l) (by omega) x1[i].2.1 x1[i].2.2
      have hn := ih (i + 1) (iadd .i64 v 1) n a (by omega) (by omega) (by first | with_reducible rfl | assumption | (simp (disch := omega) only [ws, wl, Bool.not_eq_true', ← Bool.not_eq_true, Bool.not_eq_eq_eq_not] <;> omega) | omega) (hw hr) (by omega)
      repeat (first | refine (if_pos (by first | with_reducible rfl | assumption | (simp (disch := omega) only [ws, wl, Bool.not_eq_true', ← Bool.not_eq_true, Bool.not_eq_eq_eq_not, h2, h3, h4] <;> omega) | omega)).trans ?_ | refine (if_neg (by first | with_reducible rfl | assumption | (simp (disch := omega) only [ws, wl, Bool.not_eq_true', ← Bool.not_eq_true, Bool.not_eq_eq_eq_not, h2, h3, h4] <;> omega) | omega)).trans ?_ | refine (bnd (geti hv hlx)).trans ?_ | refine (bnd q1).trans ?_ | refine (bnd q2).trans ?_ | refine (bnd (ours_ok (l := a) (by omega) n)).trans ?_ | refine (bnd (lsame_ok (x := a) (by omega) n)).trans ?_ | refine (bnd (pright_t (hw hr))).trans ?_ | refine Eq.trans (Sum.elim_inl _ _ _) ?_ | refine Eq.trans (Sum.elim_inr _ _ _) ?_)
      exact hn
theorem plain_row (x1 : List (Int × Int × Int)) (w : w_t52 x1) : P_law06_WheelRow x1 = some true := by
  have h := row_l0 (x1 := x1) 100 0 0 0 [] rfl (by omega) rfl wh0 (by simp)
  rw [P_law06_WheelRow_eq]
  repeat (first | refine (if_pos (by first | with_reducible rfl | assumption | (simp (disch := omega) only [ws, wl, Bool.not_eq_true', ← Bool.not_eq_true, Bool.not_eq_eq_eq_not] <;> omega) | omega)).trans ?_ | refine (if_neg (by first | with_reducible rfl | assumption | (simp (disch := omega) only [ws, wl, Bool.not_eq_true', ← Bool.not_eq_true, Bool.not_eq_eq_eq_not] <;> omega) | omega)).trans ?_ | refine (bnd alive_ok).trans ?_ | refine (bnd h).trans ?_ | refine Eq.trans (Sum.elim_inl _ _ _) ?_ | refine Eq.trans (Sum.elim_inr _ _ _) ?_)
  rfl
end Go.Ws
