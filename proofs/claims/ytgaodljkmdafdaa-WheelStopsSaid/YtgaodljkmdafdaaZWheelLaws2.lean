/-
  WheelPieces, WheelSets, WheelNext, WheelStops, plainly.
  Conditions: none.
-/
import Derived.Test.YtgaodljkmdafdaaZWheelLaws
set_option linter.unusedVariables false
set_option linter.unusedSimpArgs false
namespace Go.Ws
set_option linter.unusedVariables false
set_option linter.unusedSimpArgs false
set_option maxHeartbeats 1000000
set_option maxRecDepth 100000

abbrev ids (l : List Tm) : List Int := l.map (·.1)
theorem pieces_l0 {x1 : Int} {x2 : List Tm} {x3 : List Int} (hr : Wh x1 x2) (hx : ∀ p ∈ x3, 0 ≤ p ∧ p ≤ 65535) (hl : x2.length ≤ 100) : ∀ (d i : Nat) (s v m : Int) (l : List Tm) (a : List Int), x3.length - i = d → i ≤ x3.length → v = (i : Int) → x3.length ≤ 100 → 0 ≤ s → m = x1 + s → m ≤ 1099511627776 → l = lf x2 m → a = ids (rg x2 m) →
    P_law06_WheelPieces_l0 x1 x2 x3 s v m l a = some (.inr true) ∨ ∃ s', 0 ≤ s' ∧ x1 + s' ≤ 1099511627776 ∧ P_law06_WheelPieces_l0 x1 x2 x3 s v m l a = some (.inl (s', x1 + s', lf x2 (x1 + s'), ids (rg x2 (x1 + s')))) := by
  have h1 := hr.1
  intro d
  induction d with
  | zero =>
    intro i s v m l a hd hi hv hl3 hs hm hm2 hla ha
    refine .inr ⟨s, hs, by omega, ?_⟩
    rw [P_law06_WheelPieces_l0_eq]
    repeat (first | refine (if_pos (by first | with_reducible rfl | assumption | (simp (disch := omega) only [ws, wl, Bool.not_eq_true', ← Bool.not_eq_true, Bool.not_eq_eq_eq_not] <;> omega) | omega)).trans ?_ | refine (if_neg (by first | with_reducible rfl | assumption | (simp (disch := omega) only [ws, wl, Bool.not_eq_true', ← Bool.not_eq_true, Bool.not_eq_eq_eq_not] <;> omega) | omega)).trans ?_ | refine Eq.trans (Sum.elim_inl _ _ _) ?_ | refine Eq.trans (Sum.elim_inr _ _ _) ?_)
    rw [hla, ha, hm]
  | succ d ih =>
    intro i s v m l a hd hi hv hl3 hs hm hm2 hla ha
    have hlt : i < x3.length := by omega
    have hp := hx x3[i] (List.getElem_mem hlt)
    have hc : conv .i64 x3[i] = x3[i] := conv64 (by omega)
    have hll : l.length ≤ 100 := by rw [hla]; have := lf_len x2 m; omega
    have hal : a.length ≤ 100 := by rw [ha]; have := rg_len x2 m; simp [ids]; omega
    have hwl : Wh m l := by
      have := hr.tick hs (by omega)
      rw [← hm] at this
      rw [hla]; exact this
    by_cases hb : x3[i] ≤ 1099511627776 - m
    · have ht := (tick_t hwl (b := x3[i]) hp.1 hb).1
      obtain ⟨e1, e2⟩ := rg_two hr.2.2 (m := m) (n := m + x3[i]) (by omega)
      rw [hla, e2] at ht
      rw [← hla] at ht
      have hal2 : (ids (rg l (m + x3[i]))).length ≤ 100 := by have := rg_len l (m + x3[i]); simp [ids]; omega
      have hs2 : iadd .i64 s x3[i] = s + x3[i] := iadd64 (by omega)
      have hr2 := ih (i + 1) (iadd .i64 s x3[i]) (iadd .i64 v 1) (m + x3[i]) (lf x2 (m + x3[i])) (a ++ ids (rg l (m + x3[i]))) (by omega) (by omega) (by first | with_reducible rfl | assumption | (simp (disch := omega) only [ws, wl, Bool.not_eq_true', ← Bool.not_eq_true, Bool.not_eq_eq_eq_not] <;> omega) | omega) hl3 (by omega) (by omega) (by omega) rfl (by rw [ha, ← e1, hla]; simp [ids])
      have e : P_law06_WheelPieces_l0 x1 x2 x3 s v m l a = P_law06_WheelPieces_l0 x1 x2 x3 (iadd .i64 s x3[i]) (iadd .i64 v 1) (m + x3[i]) (lf x2 (m + x3[i])) (a ++ ids (rg l (m + x3[i]))) := by
        rw [P_law06_WheelPieces_l0_eq]
        refine (if_pos (by first | with_reducible rfl | assumption | (simp (disch := omega) only [ws, wl, Bool.not_eq_true', ← Bool.not_eq_true, Bool.not_eq_eq_eq_not] <;> omega) | omega)).trans ?_
        refine (if_pos (by first | with_reducible rfl | assumption | (simp (disch := omega) only [ws, wl, Bool.not_eq_true', ← Bool.not_eq_true, Bool.not_eq_eq_eq_not] <;> omega) | omega)).trans ?_
        refine (bnd (geti hv hlt)).trans ?_
        simp only [hc]
        refine (bnd (by rw [show ids (rg l (m + x3[i])) = _ from rfl] at *; rw [hla] at ht ⊢; exact ht)).trans ?_
        refine (if_pos rfl).trans ?_
        refine (if_pos ?_).trans ?_
        · rw [roomI_iff, List.length_append]
          have h5 : (List.map (·.1) (rg (lf x2 m) (m + x3[i]))).length ≤ 100 := by rw [← hla]; exact hal2
          simp only at *
          omega
        · rw [hla]
      rw [e]
      exact hr2
    · have ht := (tick_f (now := m) (l := l) (by omega) (b := x3[i]) (.inr ⟨hwl, hp.1, by omega, rfl⟩)).1
      left
      rw [P_law06_WheelPieces_l0_eq]
      refine (if_pos (by first | with_reducible rfl | assumption | (simp (disch := omega) only [ws, wl, Bool.not_eq_true', ← Bool.not_eq_true, Bool.not_eq_eq_eq_not] <;> omega) | omega)).trans ?_
      refine (if_pos (by first | with_reducible rfl | assumption | (simp (disch := omega) only [ws, wl, Bool.not_eq_true', ← Bool.not_eq_true, Bool.not_eq_eq_eq_not] <;> omega) | omega)).trans ?_
      refine (bnd (geti hv hlt)).trans ?_
      simp only [hc]
      refine (bnd ht).trans ?_
      rfl
theorem plain_pieces (x1 : Int) (x2 : List Tm) (x3 : List Int) (w1 : w_t24 (x1, x2)) (w2 : w_t56 x3) : P_law06_WheelPieces x1 x2 x3 = some true := by
  have hl1 : x2.length ≤ 9223372036854775807 := w1.2.1
  have hl2 : x3.length ≤ 9223372036854775807 := w2.1
  rw [P_law06_WheelPieces_eq]
  by_cases h1 : 100 < x2.length
  · repeat (first | refine (if_pos (by first | with_reducible rfl | assumption | (simp (disch := omega) only [ws, wl, Bool.not_eq_true', ← Bool.not_eq_true, Bool.not_eq_eq_eq_not] <;> omega) | omega)).trans ?_ | refine (if_neg (by first | with_reducible rfl | assumption | (simp (disch := omega) only [ws, wl, Bool.not_eq_true', ← Bool.not_eq_true, Bool.not_eq_eq_eq_not] <;> omega) | omega)).trans ?_ | refine (bnd alive_ok).trans ?_ | refine Eq.trans (Sum.elim_inl _ _ _) ?_ | refine Eq.trans (Sum.elim_inr _ _ _) ?_)
    rfl
  by_cases h2 : 100 < x3.length
  · repeat (first | refine (if_pos (by first | with_reducible rfl | assumption | (simp (disch := omega) only [ws, wl, Bool.not_eq_true', ← Bool.not_eq_true, Bool.not_eq_eq_eq_not] <;> omega) | omega)).trans ?_ | refine (if_neg (by first | with_reducible rfl | assumption | (simp (disch := omega) only [ws, wl, Bool.not_eq_true', ← Bool.not_eq_true, Bool.not_eq_eq_eq_not] <;> omega) | omega)).trans ?_ | refine (bnd alive_ok).trans ?_ | refine Eq.trans (Sum.elim_inl _ _ _) ?_ | refine Eq.trans (Sum.elim_inr _ _ _) ?_)
    rfl
  by_cases hr : Wh x1 x2
  rotate_left
  · repeat (first | refine (if_pos (by first | with_reducible rfl | assumption | (simp (disch := omega) only [ws, wl, Bool.not_eq_true', ← Bool.not_eq_true, Bool.not_eq_eq_eq_not] <;> omega) | omega)).trans ?_ | refine (if_neg (by first | with_reducible rfl | assumption | (simp (disch := omega) only [ws, wl, Bool.not_eq_true', ← Bool.not_eq_true, Bool.not_eq_eq_eq_not] <;> omega) | omega)).trans ?_ | refine (bnd alive_ok).trans ?_ | refine (bnd (rright_f (now := x1) (l := x2) (by omega) hr)).trans ?_ | refine Eq.trans (Sum.elim_inl _ _ _) ?_ | refine Eq.trans (Sum.elim_inr _ _ _) ?_)
    rfl
  have t1 := theirs_ok (l := x2) (by omega) x1
  obtain ⟨e1, e2⟩ := rg_none (l := x2) (n := x1) fun t ht => (hr.2.2.2 t ht).1
  rcases pieces_l0 hr (fun p hp => w2.2 p hp) (by omega) _ 0 0 0 x1 x2 [] rfl (by omega) rfl (by omega) (by omega) (by omega) hr.1.2 e2.symm (by rw [e1]; rfl) with q | ⟨s, s0, s1, q⟩
  · repeat (first | refine (if_pos (by first | with_reducible rfl | assumption | (simp (disch := omega) only [ws, wl, Bool.not_eq_true', ← Bool.not_eq_true, Bool.not_eq_eq_eq_not] <;> omega) | omega)).trans ?_ | refine (if_neg (by first | with_reducible rfl | assumption | (simp (disch := omega) only [ws, wl, Bool.not_eq_true', ← Bool.not_eq_true, Bool.not_eq_eq_eq_not] <;> omega) | omega)).trans ?_ | refine (bnd alive_ok).trans ?_ | refine (bnd (rright_t hr)).trans ?_ | refine (bnd t1).trans ?_ | refine (bnd q).trans ?_ | refine Eq.trans (Sum.elim_inl _ _ _) ?_ | refine Eq.trans (Sum.elim_inr _ _ _) ?_)
    rfl
  · have ht := (tick_t hr (b := s) s0 (by omega)).1
    have hl3 := lf_len x2 (x1 + s)
    have hl4 := rg_len x2 (x1 + s)
    have s4 := isame_ok (x := ids (rg x2 (x1 + s))) (by simp [ids]; omega)
    repeat (first | refine (if_pos (by first | with_reducible rfl | assumption | (simp (disch := omega) only [ws, wl, Bool.not_eq_true', ← Bool.not_eq_true, Bool.not_eq_eq_eq_not] <;> omega) | omega)).trans ?_ | refine (if_neg (by first | with_reducible rfl | assumption | (simp (disch := omega) only [ws, wl, Bool.not_eq_true', ← Bool.not_eq_true, Bool.not_eq_eq_eq_not] <;> omega) | omega)).trans ?_ | refine (bnd alive_ok).trans ?_ | refine (bnd (rright_t hr)).trans ?_ | refine (bnd t1).trans ?_ | refine (bnd q).trans ?_ | refine (bnd ht).trans ?_ | refine (bnd s4).trans ?_ | refine (bnd (ours_ok (l := lf x2 (x1 + s)) (by omega) (x1 + s))).trans ?_ | refine (bnd (lsame_ok (x := lf x2 (x1 + s)) (by omega) (x1 + s))).trans ?_ | refine Eq.trans (Sum.elim_inl _ _ _) ?_ | refine Eq.trans (Sum.elim_inr _ _ _) ?_)
    rfl

theorem plain_next (x1 : Int) (x2 : List Tm) (w1 : w_t24 (x1, x2)) : P_law06_WheelNext x1 x2 = some true := by
  have hl1 : x2.length ≤ 9223372036854775807 := w1.2.1
  rw [P_law06_WheelNext_eq]
  by_cases h1 : 100 < x2.length
  · repeat (first | refine (if_pos (by first | with_reducible rfl | assumption | (simp (disch := omega) only [ws, wl, Bool.not_eq_true', ← Bool.not_eq_true, Bool.not_eq_eq_eq_not] <;> omega) | omega)).trans ?_ | refine (if_neg (by first | with_reducible rfl | assumption | (simp (disch := omega) only [ws, wl, Bool.not_eq_true', ← Bool.not_eq_true, Bool.not_eq_eq_eq_not] <;> omega) | omega)).trans ?_ | refine (bnd alive_ok).trans ?_ | refine Eq.trans (Sum.elim_inl _ _ _) ?_ | refine Eq.trans (Sum.elim_inr _ _ _) ?_)
    rfl
  by_cases hr : Wh x1 x2
  rotate_left
  · repeat (first | refine (if_pos (by first | with_reducible rfl | assumption | (simp (disch := omega) only [ws, wl, Bool.not_eq_true', ← Bool.not_eq_true, Bool.not_eq_eq_eq_not] <;> omega) | omega)).trans ?_ | refine (if_neg (by first | with_reducible rfl | assumption | (simp (disch := omega) only [ws, wl, Bool.not_eq_true', ← Bool.not_eq_true, Bool.not_eq_eq_eq_not] <;> omega) | omega)).trans ?_ | refine (bnd alive_ok).trans ?_ | refine (bnd (rright_f (now := x1) (l := x2) (by omega) hr)).trans ?_ | refine Eq.trans (Sum.elim_inl _ _ _) ?_ | refine Eq.trans (Sum.elim_inr _ _ _) ?_)
    rfl
  have t1 := theirs_ok (l := x2) (by omega) x1
  match x2, hr, t1, h1 with
  | [], hr, t1, h1 =>
    have nx := next_n (now := x1) (l := []) (by simp) (.inr rfl)
    repeat (first | refine (if_pos (by first | with_reducible rfl | assumption | (simp (disch := omega) only [ws, wl, Bool.not_eq_true', ← Bool.not_eq_true, Bool.not_eq_eq_eq_not] <;> omega) | omega)).trans ?_ | refine (if_neg (by first | with_reducible rfl | assumption | (simp (disch := omega) only [ws, wl, Bool.not_eq_true', ← Bool.not_eq_true, Bool.not_eq_eq_eq_not] <;> omega) | omega)).trans ?_ | refine (bnd alive_ok).trans ?_ | refine (bnd (rright_t hr)).trans ?_ | refine (bnd t1).trans ?_ | refine (bnd nx).trans ?_ | refine Eq.trans (Sum.elim_inl _ _ _) ?_ | refine Eq.trans (Sum.elim_inr _ _ _) ?_)
    rfl
  | d :: l, hr, t1, h1 =>
    have h1' : l.length + 1 ≤ 100 := by have := h1; rw [List.length_cons] at this; omega
    have nx := next_t hr
    have h3 := hr.1
    have hd := hr.2.2.2 d (by simp)
    have hn1 : isub .i64 (d.2 - x1) 1 = d.2 - x1 - 1 := isub64 (by omega)
    have e0 : x1 + (d.2 - x1 - 1) = d.2 - 1 := by omega
    have ht := (tick_t hr (b := d.2 - x1 - 1) (by omega) (by omega)).1
    have hw := hr.tick (b := d.2 - x1 - 1) (by omega) (by omega)
    rw [e0] at ht hw
    obtain ⟨r1, r2⟩ := rg_cons_n hr.2.2 (n := d.2 - 1) (by omega)
    rw [r1, r2] at ht
    rw [r2] at hw
    have ht2 := (tick_t hw (b := 1) (by omega) (by omega)).1
    have e2 : d.2 - 1 + 1 = d.2 := by omega
    rw [e2] at ht2
    obtain ⟨r3, r4⟩ := rg_cons_y (l := l) (show d.2 ≤ d.2 by omega)
    rw [r3, r4] at ht2
    have e3 : (!ltI (nI (List.map (fun x => x.1) (d :: rg l d.2)).length) 1) = true := by
      have : ltI (nI (List.map (fun x : Tm => x.1) (d :: rg l d.2)).length) 1 = false := by
        rw [← Bool.not_eq_true, ltI_iff, nI_def]; simp; omega
      rw [this]; rfl
    have e4 : ¬ ltI (d.2 - x1) 1 = true := by rw [ltI_iff]; omega
    rw [← hn1] at ht
    repeat (first | refine (if_pos (by first | with_reducible rfl | assumption | (simp (disch := omega) only [ws, wl, Bool.not_eq_true', ← Bool.not_eq_true, Bool.not_eq_eq_eq_not, e4] <;> omega) | omega)).trans ?_ | refine (if_neg (by first | with_reducible rfl | assumption | (simp (disch := omega) only [ws, wl, Bool.not_eq_true', ← Bool.not_eq_true, Bool.not_eq_eq_eq_not, e4] <;> omega) | omega)).trans ?_ | refine (bnd alive_ok).trans ?_ | refine (bnd (rright_t hr)).trans ?_ | refine (bnd t1).trans ?_ | refine (bnd nx).trans ?_ | refine (bnd ht).trans ?_ | refine (bnd ht2).trans ?_ | refine Eq.trans (Sum.elim_inl _ _ _) ?_ | refine Eq.trans (Sum.elim_inr _ _ _) ?_)
    rw [e3]

theorem sets_l0 {id : Int} {x y : Int × List Tm × List Int × Int} (hl : y.2.2.1.length ≤ 1000) : ∀ (d i : Nat) (b : Bool) (v : Int), y.2.2.1.length - i = d → i ≤ y.2.2.1.length → v = (i : Int) → P_law06_WheelSets_l0 id x y b v = some (b || (y.2.2.1.drop i).any fun n => eqI n id) := by
  intro d
  induction d with
  | zero =>
    intro i b v hd hi hv
    rw [P_law06_WheelSets_l0_eq]
    repeat (first | refine (if_pos (by first | with_reducible rfl | assumption | (simp (disch := omega) only [ws, wl, Bool.not_eq_true', ← Bool.not_eq_true, Bool.not_eq_eq_eq_not] <;> omega) | omega)).trans ?_ | refine (if_neg (by first | with_reducible rfl | assumption | (simp (disch := omega) only [ws, wl, Bool.not_eq_true', ← Bool.not_eq_true, Bool.not_eq_eq_eq_not] <;> omega) | omega)).trans ?_ | refine Eq.trans (Sum.elim_inl _ _ _) ?_ | refine Eq.trans (Sum.elim_inr _ _ _) ?_)
    rw [List.drop_of_length_le (by omega)]; simp
  | succ d ih =>
    intro i b v hd hi hv
    have hlt : i < y.2.2.1.length := by omega
    have ed : y.2.2.1.drop i = y.2.2.1[i] :: y.2.2.1.drop (i + 1) := List.drop_eq_getElem_cons hlt
    have h1 := fun b => ih (i + 1) b (iadd .i64 v 1) (by omega) (by omega) (by first | with_reducible rfl | assumption | (simp (disch := omega) only [ws, wl, Bool.not_eq_true', ← Bool.not_eq_true, Bool.not_eq_eq_eq_not] <;> omega) | omega)
    rw [P_law06_WheelSets_l0_eq, ed, List.any_cons]
    cases b with
    | true =>
      repeat (first | refine (if_pos (by first | with_reducible rfl | assumption | (simp (disch := omega) only [ws, wl, Bool.not_eq_true', ← Bool.not_eq_true, Bool.not_eq_eq_eq_not] <;> omega) | omega)).trans ?_ | refine (if_neg (by first | with_reducible rfl | assumption | (simp (disch := omega) only [ws, wl, Bool.not_eq_true', ← Bool.not_eq_true, Bool.not_eq_eq_eq_not] <;> omega) | omega)).trans ?_ | refine (bnd (geti hv hlt)).trans ?_ | refine Eq.trans (Sum.elim_inl _ _ _) ?_ | refine Eq.trans (Sum.elim_inr _ _ _) ?_)
      rw [h1]; simp
    | false =>
      repeat (first | refine (if_pos (by first | with_reducible rfl | assumption | (simp (disch := omega) only [ws, wl, Bool.not_eq_true', ← Bool.not_eq_true, Bool.not_eq_eq_eq_not] <;> omega) | omega)).trans ?_ | refine (if_neg (by first | with_reducible rfl | assumption | (simp (disch := omega) only [ws, wl, Bool.not_eq_true', ← Bool.not_eq_true, Bool.not_eq_eq_eq_not] <;> omega) | omega)).trans ?_ | refine (bnd (geti hv hlt)).trans ?_ | refine Eq.trans (Sum.elim_inl _ _ _) ?_ | refine Eq.trans (Sum.elim_inr _ _ _) ?_)
      rw [h1]; simp
theorem sets_l1 {id : Int} {x y : Int × List Tm × List Int × Int} {b : Bool} (hl : x.2.2.1.length ≤ 1000) (hn : ∀ n ∈ x.2.2.1, n ≠ id) : ∀ (d i : Nat) (v : Int), x.2.2.1.length - i = d → i ≤ x.2.2.1.length → v = (i : Int) → P_law06_WheelSets_l1 id x y b v = some (.inl ()) := by
  intro d
  induction d with
  | zero =>
    intro i v hd hi hv
    rw [P_law06_WheelSets_l1_eq]
    repeat (first | refine (if_pos (by first | with_reducible rfl | assumption | (simp (disch := omega) only [ws, wl, Bool.not_eq_true', ← Bool.not_eq_true, Bool.not_eq_eq_eq_not] <;> omega) | omega)).trans ?_ | refine (if_neg (by first | with_reducible rfl | assumption | (simp (disch := omega) only [ws, wl, Bool.not_eq_true', ← Bool.not_eq_true, Bool.not_eq_eq_eq_not] <;> omega) | omega)).trans ?_ | refine Eq.trans (Sum.elim_inl _ _ _) ?_ | refine Eq.trans (Sum.elim_inr _ _ _) ?_)
    rfl
  | succ d ih =>
    intro i v hd hi hv
    have hlt : i < x.2.2.1.length := by omega
    have h := hn x.2.2.1[i] (List.getElem_mem hlt)
    rw [P_law06_WheelSets_l1_eq]
    repeat (first | refine (if_pos (by first | with_reducible rfl | assumption | (simp (disch := omega) only [ws, wl, Bool.not_eq_true', ← Bool.not_eq_true, Bool.not_eq_eq_eq_not] <;> omega) | omega)).trans ?_ | refine (if_neg (by first | with_reducible rfl | assumption | (simp (disch := omega) only [ws, wl, Bool.not_eq_true', ← Bool.not_eq_true, Bool.not_eq_eq_eq_not] <;> omega) | omega)).trans ?_ | refine (bnd (geti hv hlt)).trans ?_ | refine Eq.trans (Sum.elim_inl _ _ _) ?_ | refine Eq.trans (Sum.elim_inr _ _ _) ?_)
    exact ih (i + 1) _ (by omega) (by omega) (by first | with_reducible rfl | assumption | (simp (disch := omega) only [ws, wl, Bool.not_eq_true', ← Bool.not_eq_true, Bool.not_eq_eq_eq_not] <;> omega) | omega)
theorem plain_sets (x1 : Int) (x2 : List Tm) (x3 x4 x5 : Int) (w1 : w_t24 (x1, x2)) (w2 : w_t3 x3) (w3 : w_t60 (x4, x5)) : P_law06_WheelSets x1 x2 x3 x4 x5 = some true := by
  have hl1 : x2.length ≤ 9223372036854775807 := w1.2.1
  have h45 : (0 ≤ x4 ∧ x4 ≤ 65535) ∧ (0 ≤ x5 ∧ x5 ≤ 65535) := w3
  rw [P_law06_WheelSets_eq]
  by_cases h1 : 100 < x2.length
  · repeat (first | refine (if_pos (by first | with_reducible rfl | assumption | (simp (disch := omega) only [ws, wl, Bool.not_eq_true', ← Bool.not_eq_true, Bool.not_eq_eq_eq_not] <;> omega) | omega)).trans ?_ | refine (if_neg (by first | with_reducible rfl | assumption | (simp (disch := omega) only [ws, wl, Bool.not_eq_true', ← Bool.not_eq_true, Bool.not_eq_eq_eq_not] <;> omega) | omega)).trans ?_ | refine (bnd alive_ok).trans ?_ | refine Eq.trans (Sum.elim_inl _ _ _) ?_ | refine Eq.trans (Sum.elim_inr _ _ _) ?_)
    rfl
  by_cases hr : Wh x1 x2
  rotate_left
  · repeat (first | refine (if_pos (by first | with_reducible rfl | assumption | (simp (disch := omega) only [ws, wl, Bool.not_eq_true', ← Bool.not_eq_true, Bool.not_eq_eq_eq_not] <;> omega) | omega)).trans ?_ | refine (if_neg (by first | with_reducible rfl | assumption | (simp (disch := omega) only [ws, wl, Bool.not_eq_true', ← Bool.not_eq_true, Bool.not_eq_eq_eq_not] <;> omega) | omega)).trans ?_ | refine (bnd alive_ok).trans ?_ | refine (bnd (rright_f (now := x1) (l := x2) (by omega) hr)).trans ?_ | refine Eq.trans (Sum.elim_inl _ _ _) ?_ | refine Eq.trans (Sum.elim_inr _ _ _) ?_)
    rfl
  by_cases hb : 549755813888 < x1
  · repeat (first | refine (if_pos (by first | with_reducible rfl | assumption | (simp (disch := omega) only [ws, wl, Bool.not_eq_true', ← Bool.not_eq_true, Bool.not_eq_eq_eq_not] <;> omega) | omega)).trans ?_ | refine (if_neg (by first | with_reducible rfl | assumption | (simp (disch := omega) only [ws, wl, Bool.not_eq_true', ← Bool.not_eq_true, Bool.not_eq_eq_eq_not] <;> omega) | omega)).trans ?_ | refine (bnd alive_ok).trans ?_ | refine (bnd (rright_t hr)).trans ?_ | refine Eq.trans (Sum.elim_inl _ _ _) ?_ | refine Eq.trans (Sum.elim_inr _ _ _) ?_)
    rfl
  have h3 := hr.1
  have t1 := theirs_ok (l := x2) (by omega) x1
  have a1 : iadd .i64 (iadd .i64 x1 (conv .i64 x4)) 1 = x1 + x4 + 1 := by rw [conv64 (by omega), iadd64 (a := x1) (b := x4) (by omega), iadd64 (by omega)]
  have a2 : iadd .i64 (iadd .i64 x1 (conv .i64 x5)) 1 = x1 + x5 + 1 := by rw [conv64 (by omega), iadd64 (a := x1) (b := x5) (by omega), iadd64 (by omega)]
  have a3 : conv .i64 x5 = x5 := conv64 (by omega)
  obtain ⟨A, R, e0, hA, hR, q1, _⟩ := set_t hr (id := x3) (at1 := x1 + x4 + 1) (by omega) (by omega) (.inr (by omega))
  obtain ⟨g1, g2⟩ := hr.set (by omega) (by omega) (.inr (by omega)) e0 hA hR
  obtain ⟨B, S, f0, hB, hS, q2, _⟩ := set_t g1 (id := x3) (at1 := x1 + x5 + 1) (by omega) (by omega) (.inr (by omega))
  obtain ⟨k1, k2⟩ := g1.set (by omega) (by omega) (.inr (by omega)) f0 hB hS
  have T1 := (tick_t k1 (b := x5) (by omega) (by omega)).1
  have W1 := k1.tick (b := x5) (by omega) (by omega)
  have T2 := (tick_t W1 (b := 1) (by omega) (by omega)).1
  have hL1 := lf_len (B ++ (x3, x1 + x5 + 1) :: S) (x1 + x5)
  have hL2 := rg_len (B ++ (x3, x1 + x5 + 1) :: S) (x1 + x5)
  have hL3 := rg_len (lf (B ++ (x3, x1 + x5 + 1) :: S) (x1 + x5)) (x1 + x5 + 1)
  have hin : (x3, x1 + x5 + 1) ∈ rg (lf (B ++ (x3, x1 + x5 + 1) :: S) (x1 + x5)) (x1 + x5 + 1) := by
    rw [rg_mem, lf_mem]
    exact ⟨⟨by simp, by simp only; omega⟩, by simp⟩
  have hno : ∀ n ∈ List.map (fun x : Tm => x.1) (rg (B ++ (x3, x1 + x5 + 1) :: S) (x1 + x5)), n ≠ x3 := by
    intro n hn hne
    obtain ⟨t, ht, rfl⟩ := List.mem_map.1 hn
    obtain ⟨m1, m2⟩ := rg_mem.1 ht
    have hp := k1.2.2.1
    rw [List.pairwise_append, List.pairwise_cons] at hp
    rcases List.mem_append.1 m1 with m | m
    · exact (hp.2.2 t m _ (List.mem_cons_self ..)).2 hne
    · rcases List.mem_cons.1 m with rfl | m
      · simp only at m2; omega
      · exact (hp.2.1.1 t m).2 hne.symm
  have s0 := sets_l0 (id := x3) (x := (x1 + x5, lf (B ++ (x3, x1 + x5 + 1) :: S) (x1 + x5), (rg (B ++ (x3, x1 + x5 + 1) :: S) (x1 + x5)).map (·.1), 0)) (y := (x1 + x5 + 1, lf (lf (B ++ (x3, x1 + x5 + 1) :: S) (x1 + x5)) (x1 + x5 + 1), (rg (lf (B ++ (x3, x1 + x5 + 1) :: S) (x1 + x5)) (x1 + x5 + 1)).map (·.1), 0)) (by simp only [List.length_map]; omega) _ 0 false 0 rfl (by omega) rfl
  have s1 := fun b => sets_l1 (id := x3) (b := b) (x := (x1 + x5, lf (B ++ (x3, x1 + x5 + 1) :: S) (x1 + x5), (rg (B ++ (x3, x1 + x5 + 1) :: S) (x1 + x5)).map (·.1), 0)) (y := (x1 + x5 + 1, lf (lf (B ++ (x3, x1 + x5 + 1) :: S) (x1 + x5)) (x1 + x5 + 1), (rg (lf (B ++ (x3, x1 + x5 + 1) :: S) (x1 + x5)) (x1 + x5 + 1)).map (·.1), 0)) (by simp only [List.length_map]; omega) hno _ 0 0 rfl (by omega) rfl
  have hany : (false || List.any (List.drop 0 ((rg (lf (B ++ (x3, x1 + x5 + 1) :: S) (x1 + x5)) (x1 + x5 + 1)).map (·.1))) fun n => eqI n x3) = true := by
    rw [Bool.false_or, List.drop_zero, List.any_eq_true]
    exact ⟨x3, List.mem_map.2 ⟨_, hin, rfl⟩, eqI_self x3⟩
  simp only [hany] at s0
  rw [a1, a2, a3]
  repeat (first | refine (if_pos (by first | with_reducible rfl | assumption | (simp (disch := omega) only [ws, wl, Bool.not_eq_true', ← Bool.not_eq_true, Bool.not_eq_eq_eq_not] <;> omega) | omega)).trans ?_ | refine (if_neg (by first | with_reducible rfl | assumption | (simp (disch := omega) only [ws, wl, Bool.not_eq_true', ← Bool.not_eq_true, Bool.not_eq_eq_eq_not] <;> omega) | omega)).trans ?_ | refine (bnd alive_ok).trans ?_ | refine (bnd (rright_t hr)).trans ?_ | refine (bnd t1).trans ?_ | refine (bnd q1).trans ?_ | refine (bnd q2).trans ?_ | refine (bnd T1).trans ?_ | refine (bnd T2).trans ?_ | refine (bnd s0).trans ?_ | refine (bnd (s1 true)).trans ?_ | refine Eq.trans (Sum.elim_inl _ _ _) ?_ | refine Eq.trans (Sum.elim_inr _ _ _) ?_)
  rfl

theorem stops_l0 {id : Int} {x8 : Int × List Tm × Int} {x9 y : Int × List Tm × List Int × Int} (hl : y.2.2.1.length ≤ 1000) : ∀ (d i : Nat) (v : Int) (o : List Int), y.2.2.1.length - i = d → i ≤ y.2.2.1.length → v = (i : Int) → o = (y.2.2.1.take i).filter (fun n => decide (n ≠ id)) → P_law06_WheelStops_l0 id x8 x9 y v o = some (y.2.2.1.filter fun n => decide (n ≠ id)) := by
  intro d
  induction d with
  | zero =>
    intro i v o hd hi hv ho
    rw [P_law06_WheelStops_l0_eq]
    repeat (first | refine (if_pos (by first | with_reducible rfl | assumption | (simp (disch := omega) only [ws, wl, Bool.not_eq_true', ← Bool.not_eq_true, Bool.not_eq_eq_eq_not] <;> omega) | omega)).trans ?_ | refine (if_neg (by first | with_reducible rfl | assumption | (simp (disch := omega) only [ws, wl, Bool.not_eq_true', ← Bool.not_eq_true, Bool.not_eq_eq_eq_not] <;> omega) | omega)).trans ?_ | refine Eq.trans (Sum.elim_inl _ _ _) ?_ | refine Eq.trans (Sum.elim_inr _ _ _) ?_)
    rw [ho, List.take_of_length_le (by omega)]
  | succ d ih =>
    intro i v o hd hi hv ho
    have hlt : i < y.2.2.1.length := by omega
    have hol : o.length ≤ i := by rw [ho]; have := List.length_filter_le (fun n => decide (n ≠ id)) (y.2.2.1.take i); simp at this ⊢; omega
    have et : y.2.2.1.take (i + 1) = y.2.2.1.take i ++ [y.2.2.1[i]] := by rw [List.take_add_one, List.getElem?_eq_getElem hlt]; rfl
    rw [P_law06_WheelStops_l0_eq]
    by_cases hk : y.2.2.1[i] = id
    · have e : (y.2.2.1.take (i + 1)).filter (fun n => decide (n ≠ id)) = (y.2.2.1.take i).filter (fun n => decide (n ≠ id)) := by rw [et, List.filter_append]; simp [hk]
      repeat (first | refine (if_pos (by first | with_reducible rfl | assumption | (simp (disch := omega) only [ws, wl, Bool.not_eq_true', ← Bool.not_eq_true, Bool.not_eq_eq_eq_not] <;> omega) | omega)).trans ?_ | refine (if_neg (by first | with_reducible rfl | assumption | (simp (disch := omega) only [ws, wl, Bool.not_eq_true', ← Bool.not_eq_true, Bool.not_eq_eq_eq_not] <;> omega) | omega)).trans ?_ | refine (bnd (geti hv hlt)).trans ?_ | refine Eq.trans (Sum.elim_inl _ _ _) ?_ | refine Eq.trans (Sum.elim_inr _ _ _) ?_)
      exact ih (i + 1) _ _ (by omega) (by omega) (by first | with_reducible rfl | assumption | (simp (disch := omega) only [ws, wl, Bool.not_eq_true', ← Bool.not_eq_true, Bool.not_eq_eq_eq_not] <;> omega) | omega) (by rw [e, ho])
    · have e : (y.2.2.1.take (i + 1)).filter (fun n => decide (n ≠ id)) = (y.2.2.1.take i).filter (fun n => decide (n ≠ id)) ++ [y.2.2.1[i]] := by rw [et, List.filter_append]; simp [hk]
      repeat (first | refine (if_pos (by first | with_reducible rfl | assumption | (simp (disch := omega) only [ws, wl, Bool.not_eq_true', ← Bool.not_eq_true, Bool.not_eq_eq_eq_not] <;> omega) | omega)).trans ?_ | refine (if_neg (by first | with_reducible rfl | assumption | (simp (disch := omega) only [ws, wl, Bool.not_eq_true', ← Bool.not_eq_true, Bool.not_eq_eq_eq_not] <;> omega) | omega)).trans ?_ | refine (bnd (geti hv hlt)).trans ?_ | refine Eq.trans (Sum.elim_inl _ _ _) ?_ | refine Eq.trans (Sum.elim_inr _ _ _) ?_)
      exact ih (i + 1) _ _ (by omega) (by omega) (by first | with_reducible rfl | assumption | (simp (disch := omega) only [ws, wl, Bool.not_eq_true', ← Bool.not_eq_true, Bool.not_eq_eq_eq_not] <;> omega) | omega) (by rw [e, ho])
theorem wo_ids (l : List Tm) (id n : Int) : (rg (wo l id) n).map (·.1) = ((rg l n).map (·.1)).filter fun m => decide (m ≠ id) := by
  unfold rg wo
  rw [List.filter_map, List.filter_filter, List.filter_filter]
  congr 1
  apply List.filter_congr
  intro t _
  simp only [Function.comp]
  exact Bool.and_comm _ _
theorem plain_stops (x1 : Int) (x2 : List Tm) (x3 x4 : Int) (w1 : w_t24 (x1, x2)) (w2 : w_t3 x3) (w3 : w_t57 x4) : P_law06_WheelStops x1 x2 x3 x4 = some true := by
  have hl1 : x2.length ≤ 9223372036854775807 := w1.2.1
  have h4 : 0 ≤ x4 ∧ x4 ≤ 65535 := w3
  rw [P_law06_WheelStops_eq]
  by_cases h1 : 100 < x2.length
  · repeat (first | refine (if_pos (by first | with_reducible rfl | assumption | (simp (disch := omega) only [ws, wl, Bool.not_eq_true', ← Bool.not_eq_true, Bool.not_eq_eq_eq_not] <;> omega) | omega)).trans ?_ | refine (if_neg (by first | with_reducible rfl | assumption | (simp (disch := omega) only [ws, wl, Bool.not_eq_true', ← Bool.not_eq_true, Bool.not_eq_eq_eq_not] <;> omega) | omega)).trans ?_ | refine (bnd alive_ok).trans ?_ | refine Eq.trans (Sum.elim_inl _ _ _) ?_ | refine Eq.trans (Sum.elim_inr _ _ _) ?_)
    rfl
  by_cases hr : Wh x1 x2
  rotate_left
  · repeat (first | refine (if_pos (by first | with_reducible rfl | assumption | (simp (disch := omega) only [ws, wl, Bool.not_eq_true', ← Bool.not_eq_true, Bool.not_eq_eq_eq_not] <;> omega) | omega)).trans ?_ | refine (if_neg (by first | with_reducible rfl | assumption | (simp (disch := omega) only [ws, wl, Bool.not_eq_true', ← Bool.not_eq_true, Bool.not_eq_eq_eq_not] <;> omega) | omega)).trans ?_ | refine (bnd alive_ok).trans ?_ | refine (bnd (rright_f (now := x1) (l := x2) (by omega) hr)).trans ?_ | refine Eq.trans (Sum.elim_inl _ _ _) ?_ | refine Eq.trans (Sum.elim_inr _ _ _) ?_)
    rfl
  by_cases hb : 549755813888 < x1
  · repeat (first | refine (if_pos (by first | with_reducible rfl | assumption | (simp (disch := omega) only [ws, wl, Bool.not_eq_true', ← Bool.not_eq_true, Bool.not_eq_eq_eq_not] <;> omega) | omega)).trans ?_ | refine (if_neg (by first | with_reducible rfl | assumption | (simp (disch := omega) only [ws, wl, Bool.not_eq_true', ← Bool.not_eq_true, Bool.not_eq_eq_eq_not] <;> omega) | omega)).trans ?_ | refine (bnd alive_ok).trans ?_ | refine (bnd (rright_t hr)).trans ?_ | refine Eq.trans (Sum.elim_inl _ _ _) ?_ | refine Eq.trans (Sum.elim_inr _ _ _) ?_)
    rfl
  have h3 := hr.1
  have t1 := theirs_ok (l := x2) (by omega) x1
  have a3 : conv .i64 x4 = x4 := conv64 (by omega)
  obtain ⟨e, q1, _, _, he⟩ := stop_t hr x3
  have T1 := (tick_t (hr.wo x3) (b := x4) (by omega) (by omega)).1
  have T2 := (tick_t hr (b := x4) (by omega) (by omega)).1
  have hL := rg_len x2 (x1 + x4)
  have hL2 := rg_len (wo x2 x3) (x1 + x4)
  have hL3 := wo_len x2 x3
  have s0 := fun x8 x9 => stops_l0 (id := x3) (x8 := x8) (x9 := x9) (y := (x1 + x4, lf x2 (x1 + x4), (rg x2 (x1 + x4)).map (·.1), 0)) (by simp only [List.length_map]; omega) _ 0 0 [] rfl (by omega) rfl rfl
  simp only [← wo_ids] at s0
  have s1 := isame_ok (x := (rg (wo x2 x3) (x1 + x4)).map (·.1)) (by rw [List.length_map]; omega)
  simp only [a3]
  rcases he with ⟨rfl, _⟩ | ⟨rfl, _, _⟩
  · repeat (first | refine (if_pos (by first | with_reducible rfl | assumption | (simp (disch := omega) only [ws, wl, Bool.not_eq_true', ← Bool.not_eq_true, Bool.not_eq_eq_eq_not] <;> omega) | omega)).trans ?_ | refine (if_neg (by first | with_reducible rfl | assumption | (simp (disch := omega) only [ws, wl, Bool.not_eq_true', ← Bool.not_eq_true, Bool.not_eq_eq_eq_not] <;> omega) | omega)).trans ?_ | refine (bnd alive_ok).trans ?_ | refine (bnd (rright_t hr)).trans ?_ | refine (bnd t1).trans ?_ | refine (bnd q1).trans ?_ | refine (bnd T1).trans ?_ | refine (bnd T2).trans ?_ | refine (bnd (s0 _ _)).trans ?_ | refine (bnd s1).trans ?_ | refine Eq.trans (Sum.elim_inl _ _ _) ?_ | refine Eq.trans (Sum.elim_inr _ _ _) ?_)
    rfl
  · repeat (first | refine (if_pos (by first | with_reducible rfl | assumption | (simp (disch := omega) only [ws, wl, Bool.not_eq_true', ← Bool.not_eq_true, Bool.not_eq_eq_eq_not] <;> omega) | omega)).trans ?_ | refine (if_neg (by first | with_reducible rfl | assumption | (simp (disch := omega) only [ws, wl, Bool.not_eq_true', ← Bool.not_eq_true, Bool.not_eq_eq_eq_not] <;> omega) | omega)).trans ?_ | refine (bnd alive_ok).trans ?_ | refine (bnd (rright_t hr)).trans ?_ | refine (bnd t1).trans ?_ | refine (bnd q1).trans ?_ | refine (bnd T1).trans ?_ | refine (bnd T2).trans ?_ | refine (bnd (s0 _ _)).trans ?_ | refine (bnd s1).trans ?_ | refine Eq.trans (Sum.elim_inl _ _ _) ?_ | refine Eq.trans (Sum.elim_inr _ _ _) ?_)
    rfl
end Go.Ws
