/-
  PartOnce and PartSame, plainly: sums of each key.
  Conditions: none.
-/
import Derived.Test.YtnokdedppgmliaaZPartLaws2
import Derived.Test.YtnokdedppgmliaaZOfs
import Derived.Test.YtnokdedppgmliaaZB2
set_option linter.unusedVariables false
set_option linter.unusedSimpArgs false
namespace Go.Ws
set_option linter.unusedVariables false
set_option linter.unusedSimpArgs false
set_option maxHeartbeats 1000000
/-- A key's plain sum. -/
def tot (l : List (Int × Int)) (k : Int) : Int := l.foldr (fun d a => (if d.1 = k then d.2 else 0) + a) 0
theorem tot_nil (k : Int) : tot [] k = 0 := rfl
theorem tot_cons (d : Int × Int) (l : List (Int × Int)) (k : Int) : tot (d :: l) k = (if d.1 = k then d.2 else 0) + tot l k := rfl
theorem tot_app (a b : List (Int × Int)) (k : Int) : tot (a ++ b) k = tot a k + tot b k := by
  induction a with
  | nil => simp [tot_nil]
  | cons d a ih => rw [List.cons_append, tot_cons, tot_cons, ih]; omega
theorem sumK_tot (l : List (Int × Int)) (k : Int) : sumK l k = IntKind.i64.wrap (tot l k) := by
  have h : ∀ (l : List (Int × Int)) (a : Int), l.foldl (fun a d => if d.1 = k then iadd .i64 a d.2 else a) (IntKind.i64.wrap a) = IntKind.i64.wrap (a + tot l k) := by
    intro l
    induction l with
    | nil => intro a; rw [tot_nil, Int.add_zero]; rfl
    | cons d l ih =>
      intro a
      rw [List.foldl_cons, tot_cons]
      by_cases hk : d.1 = k
      · rw [if_pos hk, if_pos hk, show iadd .i64 (IntKind.i64.wrap a) d.2 = IntKind.i64.wrap (a + d.2) from w64_addl a d.2, ih]
        congr 1; omega
      · rw [if_neg hk, if_neg hk, ih]
        congr 1; omega
  have := h l 0
  rw [w64_0, Int.zero_add] at this
  exact this
theorem tot_opp (l : List (Int × Int)) (k : Int) : tot (oppL l) k % 18446744073709551616 = (- tot l k) % 18446744073709551616 := by
  unfold oppL
  induction l with
  | nil => rfl
  | cons d l ih =>
    rw [List.reverse_cons, List.map_append, tot_app, tot_cons, List.map_cons, List.map_nil, tot_cons, tot_nil]
    by_cases hk : d.1 = k
    · rw [if_pos hk, if_pos hk, show ineg .i64 d.2 = IntKind.i64.wrap (0 - d.2) from rfl]
      have := w64_mod (0 - d.2)
      omega
    · rw [if_neg hk, if_neg hk]
      omega
/-- The ledger's rows of the first keys. -/
def ofT (l : List (Int × Int)) (i : Nat) : List (Int × Int) := (List.range i).filterMap fun k : Nat => if sumK l (k : Int) = 0 then none else some ((k : Int), sumK l (k : Int))
def ofL (l : List (Int × Int)) : List (Int × Int) := ofT l 64
theorem ofT_succ (l : List (Int × Int)) (i : Nat) : ofT l (i + 1) = if sumK l (i : Int) = 0 then ofT l i else ofT l i ++ [((i : Int), sumK l (i : Int))] := by
  unfold ofT
  rw [List.range_succ, List.filterMap_append, List.filterMap_cons]
  by_cases h : sumK l (i : Int) = 0
  · rw [if_pos h, if_pos h]; simp
  · rw [if_neg h, if_neg h]; simp
theorem ofT_len (l : List (Int × Int)) (i : Nat) : (ofT l i).length ≤ i := by
  have := List.length_filterMap_le (fun k : Nat => if sumK l (k : Int) = 0 then none else some ((k : Int), sumK l (k : Int))) (List.range i)
  rw [List.length_range] at this
  exact this
theorem ofL_zero {l : List (Int × Int)} (h : ∀ k, sumK l k = 0) : ofL l = [] := by
  unfold ofL ofT
  rw [List.filterMap_eq_nil_iff]
  intro k _
  rw [if_pos (h k)]
theorem ofL_opp (l : List (Int × Int)) : ofL (l ++ oppL l) = [] := ofL_zero fun k => by
  rw [sumK_tot, tot_app, w64_zero]
  have := tot_opp l k
  omega
theorem ofL_nil : ofL [] = [] := ofL_zero fun k => rfl
theorem of_l0_1 {l : List (Int × Int)} (hl : l.length ≤ 1000000) : ∀ (d i : Nat) (v : Int) (out : List (Int × Int)), 64 - i = d → i ≤ 64 → v = (i : Int) → out = ofT l i → P_ref08_Of_1_l0 l v out = some (ofL l) := by
  intro d
  induction d with
  | zero =>
    intro i v out hd hi hv ho
    have h64 : i = 64 := by omega
    subst h64
    rw [P_ref08_Of_1_l0_eq]
    repeat (first | refine (if_pos (by first | with_reducible rfl | assumption | (simp (disch := omega) only [ltI_iff, eqI_iff, eqS_iff, eqB_iff, inI_iff, leI_iff, capI_iff, isZ_iff, eqN_iff, roomI_iff, nI_def, ssz_def, tN_def, iadd64, isub64, imul64, conv64, conv8, conv32, iadd32, imul32, irem_pos, iquo64, iquo32, imin_l, imin_r, imax_l, imax_r, Bool.not_eq_true', ← Bool.not_eq_true, Bool.not_eq_eq_eq_not, Bool.not_true, Bool.not_false, not_true_eq_false, not_false_eq_true, Bool.false_eq_true, List.length_append, List.length_cons, List.length_nil, List.length_take, List.length_drop, List.length_set, List.length_replicate] <;> omega) | omega)).trans ?_ | refine (if_neg (by first | with_reducible rfl | assumption | (simp (disch := omega) only [ltI_iff, eqI_iff, eqS_iff, eqB_iff, inI_iff, leI_iff, capI_iff, isZ_iff, eqN_iff, roomI_iff, nI_def, ssz_def, tN_def, iadd64, isub64, imul64, conv64, conv8, conv32, iadd32, imul32, irem_pos, iquo64, iquo32, imin_l, imin_r, imax_l, imax_r, Bool.not_eq_true', ← Bool.not_eq_true, Bool.not_eq_eq_eq_not, Bool.not_true, Bool.not_false, not_true_eq_false, not_false_eq_true, Bool.false_eq_true, List.length_append, List.length_cons, List.length_nil, List.length_take, List.length_drop, List.length_set, List.length_replicate] <;> omega) | omega)).trans ?_ | refine Eq.trans (Sum.elim_inl _ _ _) ?_ | refine Eq.trans (Sum.elim_inr _ _ _) ?_)
    rw [ho]; rfl
  | succ d ih =>
    intro i v out hd hi hv ho
    have hc : conv .u8 v = (i : Int) := by rw [conv8 (by omega)]; exact hv
    have hs := ofT_succ l i
    have hlen := ofT_len l i
    rw [P_ref08_Of_1_l0_eq]
    simp only [hc]
    by_cases hz : sumK l (i : Int) = 0
    · rw [if_pos hz] at hs
      repeat (first | refine (if_pos (by first | with_reducible rfl | assumption | (simp (disch := omega) only [ltI_iff, eqI_iff, eqS_iff, eqB_iff, inI_iff, leI_iff, capI_iff, isZ_iff, eqN_iff, roomI_iff, nI_def, ssz_def, tN_def, iadd64, isub64, imul64, conv64, conv8, conv32, iadd32, imul32, irem_pos, iquo64, iquo32, imin_l, imin_r, imax_l, imax_r, Bool.not_eq_true', ← Bool.not_eq_true, Bool.not_eq_eq_eq_not, Bool.not_true, Bool.not_false, not_true_eq_false, not_false_eq_true, Bool.false_eq_true, List.length_append, List.length_cons, List.length_nil, List.length_take, List.length_drop, List.length_set, List.length_replicate] <;> omega) | omega)).trans ?_ | refine (if_neg (by first | with_reducible rfl | assumption | (simp (disch := omega) only [ltI_iff, eqI_iff, eqS_iff, eqB_iff, inI_iff, leI_iff, capI_iff, isZ_iff, eqN_iff, roomI_iff, nI_def, ssz_def, tN_def, iadd64, isub64, imul64, conv64, conv8, conv32, iadd32, imul32, irem_pos, iquo64, iquo32, imin_l, imin_r, imax_l, imax_r, Bool.not_eq_true', ← Bool.not_eq_true, Bool.not_eq_eq_eq_not, Bool.not_true, Bool.not_false, not_true_eq_false, not_false_eq_true, Bool.false_eq_true, List.length_append, List.length_cons, List.length_nil, List.length_take, List.length_drop, List.length_set, List.length_replicate] <;> omega) | omega)).trans ?_ | refine (bnd (sum_ok (k := (i : Int)) hl)).trans ?_ | refine Eq.trans (Sum.elim_inl _ _ _) ?_ | refine Eq.trans (Sum.elim_inr _ _ _) ?_)
      exact ih (i + 1) _ _ (by omega) (by omega) (by first | with_reducible rfl | assumption | (simp (disch := omega) only [ltI_iff, eqI_iff, eqS_iff, eqB_iff, inI_iff, leI_iff, capI_iff, isZ_iff, eqN_iff, roomI_iff, nI_def, ssz_def, tN_def, iadd64, isub64, imul64, conv64, conv8, conv32, iadd32, imul32, irem_pos, iquo64, iquo32, imin_l, imin_r, imax_l, imax_r, Bool.not_eq_true', ← Bool.not_eq_true, Bool.not_eq_eq_eq_not, Bool.not_true, Bool.not_false, not_true_eq_false, not_false_eq_true, Bool.false_eq_true, List.length_append, List.length_cons, List.length_nil, List.length_take, List.length_drop, List.length_set, List.length_replicate] <;> omega) | omega) (by rw [hs, ho])
    · rw [if_neg hz] at hs
      have hol : out.length ≤ 64 := by rw [ho]; omega
      repeat (first | refine (if_pos (by first | with_reducible rfl | assumption | (simp (disch := omega) only [ltI_iff, eqI_iff, eqS_iff, eqB_iff, inI_iff, leI_iff, capI_iff, isZ_iff, eqN_iff, roomI_iff, nI_def, ssz_def, tN_def, iadd64, isub64, imul64, conv64, conv8, conv32, iadd32, imul32, irem_pos, iquo64, iquo32, imin_l, imin_r, imax_l, imax_r, Bool.not_eq_true', ← Bool.not_eq_true, Bool.not_eq_eq_eq_not, Bool.not_true, Bool.not_false, not_true_eq_false, not_false_eq_true, Bool.false_eq_true, List.length_append, List.length_cons, List.length_nil, List.length_take, List.length_drop, List.length_set, List.length_replicate] <;> omega) | omega)).trans ?_ | refine (if_neg (by first | with_reducible rfl | assumption | (simp (disch := omega) only [ltI_iff, eqI_iff, eqS_iff, eqB_iff, inI_iff, leI_iff, capI_iff, isZ_iff, eqN_iff, roomI_iff, nI_def, ssz_def, tN_def, iadd64, isub64, imul64, conv64, conv8, conv32, iadd32, imul32, irem_pos, iquo64, iquo32, imin_l, imin_r, imax_l, imax_r, Bool.not_eq_true', ← Bool.not_eq_true, Bool.not_eq_eq_eq_not, Bool.not_true, Bool.not_false, not_true_eq_false, not_false_eq_true, Bool.false_eq_true, List.length_append, List.length_cons, List.length_nil, List.length_take, List.length_drop, List.length_set, List.length_replicate] <;> omega) | omega)).trans ?_ | refine (bnd (sum_ok (k := (i : Int)) hl)).trans ?_ | refine Eq.trans (Sum.elim_inl _ _ _) ?_ | refine Eq.trans (Sum.elim_inr _ _ _) ?_)
      exact ih (i + 1) _ _ (by omega) (by omega) (by first | with_reducible rfl | assumption | (simp (disch := omega) only [ltI_iff, eqI_iff, eqS_iff, eqB_iff, inI_iff, leI_iff, capI_iff, isZ_iff, eqN_iff, roomI_iff, nI_def, ssz_def, tN_def, iadd64, isub64, imul64, conv64, conv8, conv32, iadd32, imul32, irem_pos, iquo64, iquo32, imin_l, imin_r, imax_l, imax_r, Bool.not_eq_true', ← Bool.not_eq_true, Bool.not_eq_eq_eq_not, Bool.not_true, Bool.not_false, not_true_eq_false, not_false_eq_true, Bool.false_eq_true, List.length_append, List.length_cons, List.length_nil, List.length_take, List.length_drop, List.length_set, List.length_replicate] <;> omega) | omega) (by rw [hs, ho])
theorem of_1_ok {l : List (Int × Int)} (hl : l.length ≤ 1000000) : P_ref08_Of_1 l = some (ofL l) := by
  rw [P_ref08_Of_1_eq]
  repeat (first | refine (if_pos (by first | with_reducible rfl | assumption | (simp (disch := omega) only [ltI_iff, eqI_iff, eqS_iff, eqB_iff, inI_iff, leI_iff, capI_iff, isZ_iff, eqN_iff, roomI_iff, nI_def, ssz_def, tN_def, iadd64, isub64, imul64, conv64, conv8, conv32, iadd32, imul32, irem_pos, iquo64, iquo32, imin_l, imin_r, imax_l, imax_r, Bool.not_eq_true', ← Bool.not_eq_true, Bool.not_eq_eq_eq_not, Bool.not_true, Bool.not_false, not_true_eq_false, not_false_eq_true, Bool.false_eq_true, List.length_append, List.length_cons, List.length_nil, List.length_take, List.length_drop, List.length_set, List.length_replicate] <;> omega) | omega)).trans ?_ | refine (if_neg (by first | with_reducible rfl | assumption | (simp (disch := omega) only [ltI_iff, eqI_iff, eqS_iff, eqB_iff, inI_iff, leI_iff, capI_iff, isZ_iff, eqN_iff, roomI_iff, nI_def, ssz_def, tN_def, iadd64, isub64, imul64, conv64, conv8, conv32, iadd32, imul32, irem_pos, iquo64, iquo32, imin_l, imin_r, imax_l, imax_r, Bool.not_eq_true', ← Bool.not_eq_true, Bool.not_eq_eq_eq_not, Bool.not_true, Bool.not_false, not_true_eq_false, not_false_eq_true, Bool.false_eq_true, List.length_append, List.length_cons, List.length_nil, List.length_take, List.length_drop, List.length_set, List.length_replicate] <;> omega) | omega)).trans ?_ | refine (bnd (of_l0_1 hl _ 0 0 [] rfl (by omega) rfl rfl)).trans ?_ | refine Eq.trans (Sum.elim_inl _ _ _) ?_ | refine Eq.trans (Sum.elim_inr _ _ _) ?_)
  rfl
theorem of_l0_2 {l : List (Int × Int)} (hl : l.length ≤ 1000000) : ∀ (d i : Nat) (v : Int) (out : List (Int × Int)), 64 - i = d → i ≤ 64 → v = (i : Int) → out = ofT l i → P_ref08_Of_2_l0 l v out = some (ofL l) := by
  intro d
  induction d with
  | zero =>
    intro i v out hd hi hv ho
    have h64 : i = 64 := by omega
    subst h64
    rw [P_ref08_Of_2_l0_eq]
    repeat (first | refine (if_pos (by first | with_reducible rfl | assumption | (simp (disch := omega) only [ltI_iff, eqI_iff, eqS_iff, eqB_iff, inI_iff, leI_iff, capI_iff, isZ_iff, eqN_iff, roomI_iff, nI_def, ssz_def, tN_def, iadd64, isub64, imul64, conv64, conv8, conv32, iadd32, imul32, irem_pos, iquo64, iquo32, imin_l, imin_r, imax_l, imax_r, Bool.not_eq_true', ← Bool.not_eq_true, Bool.not_eq_eq_eq_not, Bool.not_true, Bool.not_false, not_true_eq_false, not_false_eq_true, Bool.false_eq_true, List.length_append, List.length_cons, List.length_nil, List.length_take, List.length_drop, List.length_set, List.length_replicate] <;> omega) | omega)).trans ?_ | refine (if_neg (by first | with_reducible rfl | assumption | (simp (disch := omega) only [ltI_iff, eqI_iff, eqS_iff, eqB_iff, inI_iff, leI_iff, capI_iff, isZ_iff, eqN_iff, roomI_iff, nI_def, ssz_def, tN_def, iadd64, isub64, imul64, conv64, conv8, conv32, iadd32, imul32, irem_pos, iquo64, iquo32, imin_l, imin_r, imax_l, imax_r, Bool.not_eq_true', ← Bool.not_eq_true, Bool.not_eq_eq_eq_not, Bool.not_true, Bool.not_false, not_true_eq_false, not_false_eq_true, Bool.false_eq_true, List.length_append, List.length_cons, List.length_nil, List.length_take, List.length_drop, List.length_set, List.length_replicate] <;> omega) | omega)).trans ?_ | refine Eq.trans (Sum.elim_inl _ _ _) ?_ | refine Eq.trans (Sum.elim_inr _ _ _) ?_)
    rw [ho]; rfl
  | succ d ih =>
    intro i v out hd hi hv ho
    have hc : conv .u8 v = (i : Int) := by rw [conv8 (by omega)]; exact hv
    have hs := ofT_succ l i
    have hlen := ofT_len l i
    rw [P_ref08_Of_2_l0_eq]
    simp only [hc]
    by_cases hz : sumK l (i : Int) = 0
    · rw [if_pos hz] at hs
      repeat (first | refine (if_pos (by first | with_reducible rfl | assumption | (simp (disch := omega) only [ltI_iff, eqI_iff, eqS_iff, eqB_iff, inI_iff, leI_iff, capI_iff, isZ_iff, eqN_iff, roomI_iff, nI_def, ssz_def, tN_def, iadd64, isub64, imul64, conv64, conv8, conv32, iadd32, imul32, irem_pos, iquo64, iquo32, imin_l, imin_r, imax_l, imax_r, Bool.not_eq_true', ← Bool.not_eq_true, Bool.not_eq_eq_eq_not, Bool.not_true, Bool.not_false, not_true_eq_false, not_false_eq_true, Bool.false_eq_true, List.length_append, List.length_cons, List.length_nil, List.length_take, List.length_drop, List.length_set, List.length_replicate] <;> omega) | omega)).trans ?_ | refine (if_neg (by first | with_reducible rfl | assumption | (simp (disch := omega) only [ltI_iff, eqI_iff, eqS_iff, eqB_iff, inI_iff, leI_iff, capI_iff, isZ_iff, eqN_iff, roomI_iff, nI_def, ssz_def, tN_def, iadd64, isub64, imul64, conv64, conv8, conv32, iadd32, imul32, irem_pos, iquo64, iquo32, imin_l, imin_r, imax_l, imax_r, Bool.not_eq_true', ← Bool.not_eq_true, Bool.not_eq_eq_eq_not, Bool.not_true, Bool.not_false, not_true_eq_false, not_false_eq_true, Bool.false_eq_true, List.length_append, List.length_cons, List.length_nil, List.length_take, List.length_drop, List.length_set, List.length_replicate] <;> omega) | omega)).trans ?_ | refine (bnd (sum_ok (k := (i : Int)) hl)).trans ?_ | refine Eq.trans (Sum.elim_inl _ _ _) ?_ | refine Eq.trans (Sum.elim_inr _ _ _) ?_)
      exact ih (i + 1) _ _ (by omega) (by omega) (by first | with_reducible rfl | assumption | (simp (disch := omega) only [ltI_iff, eqI_iff, eqS_iff, eqB_iff, inI_iff, leI_iff, capI_iff, isZ_iff, eqN_iff, roomI_iff, nI_def, ssz_def, tN_def, iadd64, isub64, imul64, conv64, conv8, conv32, iadd32, imul32, irem_pos, iquo64, iquo32, imin_l, imin_r, imax_l, imax_r, Bool.not_eq_true', ← Bool.not_eq_true, Bool.not_eq_eq_eq_not, Bool.not_true, Bool.not_false, not_true_eq_false, not_false_eq_true, Bool.false_eq_true, List.length_append, List.length_cons, List.length_nil, List.length_take, List.length_drop, List.length_set, List.length_replicate] <;> omega) | omega) (by rw [hs, ho])
    · rw [if_neg hz] at hs
      have hol : out.length ≤ 64 := by rw [ho]; omega
      repeat (first | refine (if_pos (by first | with_reducible rfl | assumption | (simp (disch := omega) only [ltI_iff, eqI_iff, eqS_iff, eqB_iff, inI_iff, leI_iff, capI_iff, isZ_iff, eqN_iff, roomI_iff, nI_def, ssz_def, tN_def, iadd64, isub64, imul64, conv64, conv8, conv32, iadd32, imul32, irem_pos, iquo64, iquo32, imin_l, imin_r, imax_l, imax_r, Bool.not_eq_true', ← Bool.not_eq_true, Bool.not_eq_eq_eq_not, Bool.not_true, Bool.not_false, not_true_eq_false, not_false_eq_true, Bool.false_eq_true, List.length_append, List.length_cons, List.length_nil, List.length_take, List.length_drop, List.length_set, List.length_replicate] <;> omega) | omega)).trans ?_ | refine (if_neg (by first | with_reducible rfl | assumption | (simp (disch := omega) only [ltI_iff, eqI_iff, eqS_iff, eqB_iff, inI_iff, leI_iff, capI_iff, isZ_iff, eqN_iff, roomI_iff, nI_def, ssz_def, tN_def, iadd64, isub64, imul64, conv64, conv8, conv32, iadd32, imul32, irem_pos, iquo64, iquo32, imin_l, imin_r, imax_l, imax_r, Bool.not_eq_true', ← Bool.not_eq_true, Bool.not_eq_eq_eq_not, Bool.not_true, Bool.not_false, not_true_eq_false, not_false_eq_true, Bool.false_eq_true, List.length_append, List.length_cons, List.length_nil, List.length_take, List.length_drop, List.length_set, List.length_replicate] <;> omega) | omega)).trans ?_ | refine (bnd (sum_ok (k := (i : Int)) hl)).trans ?_ | refine Eq.trans (Sum.elim_inl _ _ _) ?_ | refine Eq.trans (Sum.elim_inr _ _ _) ?_)
      exact ih (i + 1) _ _ (by omega) (by omega) (by first | with_reducible rfl | assumption | (simp (disch := omega) only [ltI_iff, eqI_iff, eqS_iff, eqB_iff, inI_iff, leI_iff, capI_iff, isZ_iff, eqN_iff, roomI_iff, nI_def, ssz_def, tN_def, iadd64, isub64, imul64, conv64, conv8, conv32, iadd32, imul32, irem_pos, iquo64, iquo32, imin_l, imin_r, imax_l, imax_r, Bool.not_eq_true', ← Bool.not_eq_true, Bool.not_eq_eq_eq_not, Bool.not_true, Bool.not_false, not_true_eq_false, not_false_eq_true, Bool.false_eq_true, List.length_append, List.length_cons, List.length_nil, List.length_take, List.length_drop, List.length_set, List.length_replicate] <;> omega) | omega) (by rw [hs, ho])
theorem of_2_ok {l : List (Int × Int)} (hl : l.length ≤ 1000000) : P_ref08_Of_2 l = some (ofL l) := by
  rw [P_ref08_Of_2_eq]
  repeat (first | refine (if_pos (by first | with_reducible rfl | assumption | (simp (disch := omega) only [ltI_iff, eqI_iff, eqS_iff, eqB_iff, inI_iff, leI_iff, capI_iff, isZ_iff, eqN_iff, roomI_iff, nI_def, ssz_def, tN_def, iadd64, isub64, imul64, conv64, conv8, conv32, iadd32, imul32, irem_pos, iquo64, iquo32, imin_l, imin_r, imax_l, imax_r, Bool.not_eq_true', ← Bool.not_eq_true, Bool.not_eq_eq_eq_not, Bool.not_true, Bool.not_false, not_true_eq_false, not_false_eq_true, Bool.false_eq_true, List.length_append, List.length_cons, List.length_nil, List.length_take, List.length_drop, List.length_set, List.length_replicate] <;> omega) | omega)).trans ?_ | refine (if_neg (by first | with_reducible rfl | assumption | (simp (disch := omega) only [ltI_iff, eqI_iff, eqS_iff, eqB_iff, inI_iff, leI_iff, capI_iff, isZ_iff, eqN_iff, roomI_iff, nI_def, ssz_def, tN_def, iadd64, isub64, imul64, conv64, conv8, conv32, iadd32, imul32, irem_pos, iquo64, iquo32, imin_l, imin_r, imax_l, imax_r, Bool.not_eq_true', ← Bool.not_eq_true, Bool.not_eq_eq_eq_not, Bool.not_true, Bool.not_false, not_true_eq_false, not_false_eq_true, Bool.false_eq_true, List.length_append, List.length_cons, List.length_nil, List.length_take, List.length_drop, List.length_set, List.length_replicate] <;> omega) | omega)).trans ?_ | refine (bnd (of_l0_2 hl _ 0 0 [] rfl (by omega) rfl rfl)).trans ?_ | refine Eq.trans (Sum.elim_inl _ _ _) ?_ | refine Eq.trans (Sum.elim_inr _ _ _) ?_)
  rfl
theorem of_l0_3 {l : List (Int × Int)} (hl : l.length ≤ 1000000) : ∀ (d i : Nat) (v : Int) (out : List (Int × Int)), 64 - i = d → i ≤ 64 → v = (i : Int) → out = ofT l i → P_ref08_Of_3_l0 l v out = some (ofL l) := by
  intro d
  induction d with
  | zero =>
    intro i v out hd hi hv ho
    have h64 : i = 64 := by omega
    subst h64
    rw [P_ref08_Of_3_l0_eq]
    repeat (first | refine (if_pos (by first | with_reducible rfl | assumption | (simp (disch := omega) only [ltI_iff, eqI_iff, eqS_iff, eqB_iff, inI_iff, leI_iff, capI_iff, isZ_iff, eqN_iff, roomI_iff, nI_def, ssz_def, tN_def, iadd64, isub64, imul64, conv64, conv8, conv32, iadd32, imul32, irem_pos, iquo64, iquo32, imin_l, imin_r, imax_l, imax_r, Bool.not_eq_true', ← Bool.not_eq_true, Bool.not_eq_eq_eq_not, Bool.not_true, Bool.not_false, not_true_eq_false, not_false_eq_true, Bool.false_eq_true, List.length_append, List.length_cons, List.length_nil, List.length_take, List.length_drop, List.length_set, List.length_replicate] <;> omega) | omega)).trans ?_ | refine (if_neg (by first | with_reducible rfl | assumption | (simp (disch := omega) only [ltI_iff, eqI_iff, eqS_iff, eqB_iff, inI_iff, leI_iff, capI_iff, isZ_iff, eqN_iff, roomI_iff, nI_def, ssz_def, tN_def, iadd64, isub64, imul64, conv64, conv8, conv32, iadd32, imul32, irem_pos, iquo64, iquo32, imin_l, imin_r, imax_l, imax_r, Bool.not_eq_true', ← Bool.not_eq_true, Bool.not_eq_eq_eq_not, Bool.not_true, Bool.not_false, not_true_eq_false, not_false_eq_true, Bool.false_eq_true, List.length_append, List.length_cons, List.length_nil, List.length_take, List.length_drop, List.length_set, List.length_replicate] <;> omega) | omega)).trans ?_ | refine Eq.trans (Sum.elim_inl _ _ _) ?_ | refine Eq.trans (Sum.elim_inr _ _ _) ?_)
    rw [ho]; rfl
  | succ d ih =>
    intro i v out hd hi hv ho
    have hc : conv .u8 v = (i : Int) := by rw [conv8 (by omega)]; exact hv
    have hs := ofT_succ l i
    have hlen := ofT_len l i
    rw [P_ref08_Of_3_l0_eq]
    simp only [hc]
    by_cases hz : sumK l (i : Int) = 0
    · rw [if_pos hz] at hs
      repeat (first | refine (if_pos (by first | with_reducible rfl | assumption | (simp (disch := omega) only [ltI_iff, eqI_iff, eqS_iff, eqB_iff, inI_iff, leI_iff, capI_iff, isZ_iff, eqN_iff, roomI_iff, nI_def, ssz_def, tN_def, iadd64, isub64, imul64, conv64, conv8, conv32, iadd32, imul32, irem_pos, iquo64, iquo32, imin_l, imin_r, imax_l, imax_r, Bool.not_eq_true', ← Bool.not_eq_true, Bool.not_eq_eq_eq_not, Bool.not_true, Bool.not_false, not_true_eq_false, not_false_eq_true, Bool.false_eq_true, List.length_append, List.length_cons, List.length_nil, List.length_take, List.length_drop, List.length_set, List.length_replicate] <;> omega) | omega)).trans ?_ | refine (if_neg (by first | with_reducible rfl | assumption | (simp (disch := omega) only [ltI_iff, eqI_iff, eqS_iff, eqB_iff, inI_iff, leI_iff, capI_iff, isZ_iff, eqN_iff, roomI_iff, nI_def, ssz_def, tN_def, iadd64, isub64, imul64, conv64, conv8, conv32, iadd32, imul32, irem_pos, iquo64, iquo32, imin_l, imin_r, imax_l, imax_r, Bool.not_eq_true', ← Bool.not_eq_true, Bool.not_eq_eq_eq_not, Bool.not_true, Bool.not_false, not_true_eq_false, not_false_eq_true, Bool.false_eq_true, List.length_append, List.length_cons, List.length_nil, List.length_take, List.length_drop, List.length_set, List.length_replicate] <;> omega) | omega)).trans ?_ | refine (bnd (sum_ok (k := (i : Int)) hl)).trans ?_ | refine Eq.trans (Sum.elim_inl _ _ _) ?_ | refine Eq.trans (Sum.elim_inr _ _ _) ?_)
      exact ih (i + 1) _ _ (by omega) (by omega) (by first | with_reducible rfl | assumption | (simp (disch := omega) only [ltI_iff, eqI_iff, eqS_iff, eqB_iff, inI_iff, leI_iff, capI_iff, isZ_iff, eqN_iff, roomI_iff, nI_def, ssz_def, tN_def, iadd64, isub64, imul64, conv64, conv8, conv32, iadd32, imul32, irem_pos, iquo64, iquo32, imin_l, imin_r, imax_l, imax_r, Bool.not_eq_true', ← Bool.not_eq_true, Bool.not_eq_eq_eq_not, Bool.not_true, Bool.not_false, not_true_eq_false, not_false_eq_true, Bool.false_eq_true, List.length_append, List.length_cons, List.length_nil, List.length_take, List.length_drop, List.length_set, List.length_replicate] <;> omega) | omega) (by rw [hs, ho])
    · rw [if_neg hz] at hs
      have hol : out.length ≤ 64 := by rw [ho]; omega
      repeat (first | refine (if_pos (by first | with_reducible rfl | assumption | (simp (disch := omega) only [ltI_iff, eqI_iff, eqS_iff, eqB_iff, inI_iff, leI_iff, capI_iff, isZ_iff, eqN_iff, roomI_iff, nI_def, ssz_def, tN_def, iadd64, isub64, imul64, conv64, conv8, conv32, iadd32, imul32, irem_pos, iquo64, iquo32, imin_l, imin_r, imax_l, imax_r, Bool.not_eq_true', ← Bool.not_eq_true, Bool.not_eq_eq_eq_not, Bool.not_true, Bool.not_false, not_true_eq_false, not_false_eq_true, Bool.false_eq_true, List.length_append, List.length_cons, List.length_nil, List.length_take, List.length_drop, List.length_set, List.length_replicate] <;> omega) | omega)).trans ?_ | refine (if_neg (by first | with_reducible rfl | assumption | (simp (disch := omega) only [ltI_iff, eqI_iff, eqS_iff, eqB_iff, inI_iff, leI_iff, capI_iff, isZ_iff, eqN_iff, roomI_iff, nI_def, ssz_def, tN_def, iadd64, isub64, imul64, conv64, conv8, conv32, iadd32, imul32, irem_pos, iquo64, iquo32, imin_l, imin_r, imax_l, imax_r, Bool.not_eq_true', ← Bool.not_eq_true, Bool.not_eq_eq_eq_not, Bool.not_true, Bool.not_false, not_true_eq_false, not_false_eq_true, Bool.false_eq_true, List.length_append, List.length_cons, List.length_nil, List.length_take, List.length_drop, List.length_set, List.length_replicate] <;> omega) | omega)).trans ?_ | refine (bnd (sum_ok (k := (i : Int)) hl)).trans ?_ | refine Eq.trans (Sum.elim_inl _ _ _) ?_ | refine Eq.trans (Sum.elim_inr _ _ _) ?_)
      exact ih (i + 1) _ _ (by omega) (by omega) (by first | with_reducible rfl | assumption | (simp (disch := omega) only [ltI_iff, eqI_iff, eqS_iff, eqB_iff, inI_iff, leI_iff, capI_iff, isZ_iff, eqN_iff, roomI_iff, nI_def, ssz_def, tN_def, iadd64, isub64, imul64, conv64, conv8, conv32, iadd32, imul32, irem_pos, iquo64, iquo32, imin_l, imin_r, imax_l, imax_r, Bool.not_eq_true', ← Bool.not_eq_true, Bool.not_eq_eq_eq_not, Bool.not_true, Bool.not_false, not_true_eq_false, not_false_eq_true, Bool.false_eq_true, List.length_append, List.length_cons, List.length_nil, List.length_take, List.length_drop, List.length_set, List.length_replicate] <;> omega) | omega) (by rw [hs, ho])
theorem of_3_ok {l : List (Int × Int)} (hl : l.length ≤ 1000000) : P_ref08_Of_3 l = some (ofL l) := by
  rw [P_ref08_Of_3_eq]
  repeat (first | refine (if_pos (by first | with_reducible rfl | assumption | (simp (disch := omega) only [ltI_iff, eqI_iff, eqS_iff, eqB_iff, inI_iff, leI_iff, capI_iff, isZ_iff, eqN_iff, roomI_iff, nI_def, ssz_def, tN_def, iadd64, isub64, imul64, conv64, conv8, conv32, iadd32, imul32, irem_pos, iquo64, iquo32, imin_l, imin_r, imax_l, imax_r, Bool.not_eq_true', ← Bool.not_eq_true, Bool.not_eq_eq_eq_not, Bool.not_true, Bool.not_false, not_true_eq_false, not_false_eq_true, Bool.false_eq_true, List.length_append, List.length_cons, List.length_nil, List.length_take, List.length_drop, List.length_set, List.length_replicate] <;> omega) | omega)).trans ?_ | refine (if_neg (by first | with_reducible rfl | assumption | (simp (disch := omega) only [ltI_iff, eqI_iff, eqS_iff, eqB_iff, inI_iff, leI_iff, capI_iff, isZ_iff, eqN_iff, roomI_iff, nI_def, ssz_def, tN_def, iadd64, isub64, imul64, conv64, conv8, conv32, iadd32, imul32, irem_pos, iquo64, iquo32, imin_l, imin_r, imax_l, imax_r, Bool.not_eq_true', ← Bool.not_eq_true, Bool.not_eq_eq_eq_not, Bool.not_true, Bool.not_false, not_true_eq_false, not_false_eq_true, Bool.false_eq_true, List.length_append, List.length_cons, List.length_nil, List.length_take, List.length_drop, List.length_set, List.length_replicate] <;> omega) | omega)).trans ?_ | refine (bnd (of_l0_3 hl _ 0 0 [] rfl (by omega) rfl rfl)).trans ?_ | refine Eq.trans (Sum.elim_inl _ _ _) ?_ | refine Eq.trans (Sum.elim_inr _ _ _) ?_)
  rfl
theorem lsame_l0 {x : List (Int × Int)} (hl : x.length ≤ 100000) : ∀ (d i : Nat) (v : Int), v = (i : Int) → x.length - i = d → i ≤ x.length → P_ref08_Same_l0 x x v = some (.inl ()) := by
  intro d
  induction d with
  | zero =>
    intro i v hv hd hi
    rw [P_ref08_Same_l0_eq]
    repeat (first | refine (if_pos (by first | with_reducible rfl | assumption | (simp (disch := omega) only [ltI_iff, eqI_iff, eqS_iff, eqB_iff, inI_iff, leI_iff, capI_iff, isZ_iff, eqN_iff, roomI_iff, nI_def, ssz_def, tN_def, iadd64, isub64, imul64, conv64, conv8, conv32, iadd32, imul32, irem_pos, iquo64, iquo32, imin_l, imin_r, imax_l, imax_r, Bool.not_eq_true', ← Bool.not_eq_true, Bool.not_eq_eq_eq_not, Bool.not_true, Bool.not_false, not_true_eq_false, not_false_eq_true, Bool.false_eq_true, List.length_append, List.length_cons, List.length_nil, List.length_take, List.length_drop, List.length_set, List.length_replicate] <;> omega) | omega)).trans ?_ | refine (if_neg (by first | with_reducible rfl | assumption | (simp (disch := omega) only [ltI_iff, eqI_iff, eqS_iff, eqB_iff, inI_iff, leI_iff, capI_iff, isZ_iff, eqN_iff, roomI_iff, nI_def, ssz_def, tN_def, iadd64, isub64, imul64, conv64, conv8, conv32, iadd32, imul32, irem_pos, iquo64, iquo32, imin_l, imin_r, imax_l, imax_r, Bool.not_eq_true', ← Bool.not_eq_true, Bool.not_eq_eq_eq_not, Bool.not_true, Bool.not_false, not_true_eq_false, not_false_eq_true, Bool.false_eq_true, List.length_append, List.length_cons, List.length_nil, List.length_take, List.length_drop, List.length_set, List.length_replicate] <;> omega) | omega)).trans ?_ | refine Eq.trans (Sum.elim_inl _ _ _) ?_ | refine Eq.trans (Sum.elim_inr _ _ _) ?_)
    rfl
  | succ d ih =>
    intro i v hv hd hi
    rw [P_ref08_Same_l0_eq]
    repeat (first | refine (if_pos (by first | with_reducible rfl | assumption | (simp (disch := omega) only [ltI_iff, eqI_iff, eqS_iff, eqB_iff, inI_iff, leI_iff, capI_iff, isZ_iff, eqN_iff, roomI_iff, nI_def, ssz_def, tN_def, iadd64, isub64, imul64, conv64, conv8, conv32, iadd32, imul32, irem_pos, iquo64, iquo32, imin_l, imin_r, imax_l, imax_r, Bool.not_eq_true', ← Bool.not_eq_true, Bool.not_eq_eq_eq_not, Bool.not_true, Bool.not_false, not_true_eq_false, not_false_eq_true, Bool.false_eq_true, List.length_append, List.length_cons, List.length_nil, List.length_take, List.length_drop, List.length_set, List.length_replicate] <;> omega) | omega)).trans ?_ | refine (if_neg (by first | with_reducible rfl | assumption | (simp (disch := omega) only [ltI_iff, eqI_iff, eqS_iff, eqB_iff, inI_iff, leI_iff, capI_iff, isZ_iff, eqN_iff, roomI_iff, nI_def, ssz_def, tN_def, iadd64, isub64, imul64, conv64, conv8, conv32, iadd32, imul32, irem_pos, iquo64, iquo32, imin_l, imin_r, imax_l, imax_r, Bool.not_eq_true', ← Bool.not_eq_true, Bool.not_eq_eq_eq_not, Bool.not_true, Bool.not_false, not_true_eq_false, not_false_eq_true, Bool.false_eq_true, List.length_append, List.length_cons, List.length_nil, List.length_take, List.length_drop, List.length_set, List.length_replicate] <;> omega) | omega)).trans ?_ | refine (bnd (geti hv (by omega))).trans ?_ | refine Eq.trans (Sum.elim_inl _ _ _) ?_ | refine Eq.trans (Sum.elim_inr _ _ _) ?_)
    exact ih (i + 1) _ (by first | with_reducible rfl | assumption | (simp (disch := omega) only [ltI_iff, eqI_iff, eqS_iff, eqB_iff, inI_iff, leI_iff, capI_iff, isZ_iff, eqN_iff, roomI_iff, nI_def, ssz_def, tN_def, iadd64, isub64, imul64, conv64, conv8, conv32, iadd32, imul32, irem_pos, iquo64, iquo32, imin_l, imin_r, imax_l, imax_r, Bool.not_eq_true', ← Bool.not_eq_true, Bool.not_eq_eq_eq_not, Bool.not_true, Bool.not_false, not_true_eq_false, not_false_eq_true, Bool.false_eq_true, List.length_append, List.length_cons, List.length_nil, List.length_take, List.length_drop, List.length_set, List.length_replicate] <;> omega) | omega) (by omega) (by omega)
theorem lsame_ok {x : List (Int × Int)} (hl : x.length ≤ 100000) : P_ref08_Same x x = some true := by
  rw [P_ref08_Same_eq]
  repeat (first | refine (if_pos (by first | with_reducible rfl | assumption | (simp (disch := omega) only [ltI_iff, eqI_iff, eqS_iff, eqB_iff, inI_iff, leI_iff, capI_iff, isZ_iff, eqN_iff, roomI_iff, nI_def, ssz_def, tN_def, iadd64, isub64, imul64, conv64, conv8, conv32, iadd32, imul32, irem_pos, iquo64, iquo32, imin_l, imin_r, imax_l, imax_r, Bool.not_eq_true', ← Bool.not_eq_true, Bool.not_eq_eq_eq_not, Bool.not_true, Bool.not_false, not_true_eq_false, not_false_eq_true, Bool.false_eq_true, List.length_append, List.length_cons, List.length_nil, List.length_take, List.length_drop, List.length_set, List.length_replicate] <;> omega) | omega)).trans ?_ | refine (if_neg (by first | with_reducible rfl | assumption | (simp (disch := omega) only [ltI_iff, eqI_iff, eqS_iff, eqB_iff, inI_iff, leI_iff, capI_iff, isZ_iff, eqN_iff, roomI_iff, nI_def, ssz_def, tN_def, iadd64, isub64, imul64, conv64, conv8, conv32, iadd32, imul32, irem_pos, iquo64, iquo32, imin_l, imin_r, imax_l, imax_r, Bool.not_eq_true', ← Bool.not_eq_true, Bool.not_eq_eq_eq_not, Bool.not_true, Bool.not_false, not_true_eq_false, not_false_eq_true, Bool.false_eq_true, List.length_append, List.length_cons, List.length_nil, List.length_take, List.length_drop, List.length_set, List.length_replicate] <;> omega) | omega)).trans ?_ | refine (bnd (lsame_l0 hl _ 0 0 rfl rfl (by omega))).trans ?_ | refine Eq.trans (Sum.elim_inl _ _ _) ?_ | refine Eq.trans (Sum.elim_inr _ _ _) ?_)
  rfl
theorem ofL_len (l : List (Int × Int)) : (ofL l).length ≤ 64 := ofT_len l 64
theorem St9.eff {s : Int} {l : List (Int × Int)} {c : Bool} {o s' : Int} {l' : List (Int × Int)} {c' : Bool} {o' : Int} {d : List (Int × Int)} (h : St9 s l c o s' l' c' o' d) (hr : Rt s l c o) : eff s' l' c' o' = eff s l c o ++ d := by
  obtain ⟨_, _, _, h4⟩ := hr
  unfold Go.Ws.eff
  rcases h with ⟨rfl, rfl, rfl, rfl, ⟨_, hs, hs'⟩ | rfl⟩ | ⟨rfl, rfl, rfl, _, hs, hc, rfl, rfl⟩ | ⟨rfl, rfl, rfl, _, ho, hs, hs1, rfl⟩ | ⟨rfl, rfl, rfl, rfl, _, hs, hl, k, b, hk, rfl⟩
  · have hc : ¬ c' = true := fun h => h4.elim (fun q => by omega) (fun q => by have := q.2.2 h; omega)
    have ho : o' ≠ 1 := by omega
    simp [hc, ho]
  · rw [List.append_nil]
  · have ho : o' ≠ 1 := by omega
    simp [hs, hc, ho]
  · have ho0 : o = 0 := by omega
    subst ho0
    cases c' with
    | false =>
      rcases ho with rfl | rfl
      · simp [dec]
      · simp [dec]
    | true =>
      have h1 : s = 1 := by
        rcases h4 with h4 | h4
        · omega
        · exact h4.2.2 rfl
      subst h1
      rcases ho with rfl | rfl
      · simp [dec]
      · simp [dec]
  · have hc : ¬ c' = true := fun h => h4.elim (fun q => by omega) (fun q => by have := q.2.2 h; omega)
    have ho : o' ≠ 1 := by omega
    simp [hs, hc, ho]
theorem eff_len {s : Int} {l : List (Int × Int)} {c : Bool} {o : Int} (hl : l.length ≤ 50) : (eff s l c o).length ≤ 100 := by
  unfold eff
  split
  · omega
  · split
    · omega
    · split
      · rw [List.length_append, oppL_len]; omega
      · simp
theorem once_l0 {x1 : List (Int × Int × Int × Bool × Int)} : ∀ (d i : Nat) (v : Int), 80 - i = d → i ≤ 80 → v = (i : Int) → ∀ {s : Int} {l : List (Int × Int)} {c : Bool} {o : Int} {all : List (Int × Int)}, Rt s l c o → all = eff s l c o → P_law09_PartOnce_l0 x1 v s l c o all = some (.inl ()) := by
  intro d
  induction d with
  | zero =>
    intro i v hd hi hv s l c o all hr ha
    rw [P_law09_PartOnce_l0_eq]
    by_cases hl : i < x1.length
    · repeat (first | refine (if_pos (by first | with_reducible rfl | assumption | (simp (disch := omega) only [ltI_iff, eqI_iff, eqS_iff, eqB_iff, inI_iff, leI_iff, capI_iff, isZ_iff, eqN_iff, roomI_iff, nI_def, ssz_def, tN_def, iadd64, isub64, imul64, conv64, conv8, conv32, iadd32, imul32, irem_pos, iquo64, iquo32, imin_l, imin_r, imax_l, imax_r, Bool.not_eq_true', ← Bool.not_eq_true, Bool.not_eq_eq_eq_not, Bool.not_true, Bool.not_false, not_true_eq_false, not_false_eq_true, Bool.false_eq_true, List.length_append, List.length_cons, List.length_nil, List.length_take, List.length_drop, List.length_set, List.length_replicate] <;> omega) | omega)).trans ?_ | refine (if_neg (by first | with_reducible rfl | assumption | (simp (disch := omega) only [ltI_iff, eqI_iff, eqS_iff, eqB_iff, inI_iff, leI_iff, capI_iff, isZ_iff, eqN_iff, roomI_iff, nI_def, ssz_def, tN_def, iadd64, isub64, imul64, conv64, conv8, conv32, iadd32, imul32, irem_pos, iquo64, iquo32, imin_l, imin_r, imax_l, imax_r, Bool.not_eq_true', ← Bool.not_eq_true, Bool.not_eq_eq_eq_not, Bool.not_true, Bool.not_false, not_true_eq_false, not_false_eq_true, Bool.false_eq_true, List.length_append, List.length_cons, List.length_nil, List.length_take, List.length_drop, List.length_set, List.length_replicate] <;> omega) | omega)).trans ?_ | refine Eq.trans (Sum.elim_inl _ _ _) ?_ | refine Eq.trans (Sum.elim_inr _ _ _) ?_)
      rfl
    · repeat (first | refine (if_pos (by first | with_reducible rfl | assumption | (simp (disch := omega) only [ltI_iff, eqI_iff, eqS_iff, eqB_iff, inI_iff, leI_iff, capI_iff, isZ_iff, eqN_iff, roomI_iff, nI_def, ssz_def, tN_def, iadd64, isub64, imul64, conv64, conv8, conv32, iadd32, imul32, irem_pos, iquo64, iquo32, imin_l, imin_r, imax_l, imax_r, Bool.not_eq_true', ← Bool.not_eq_true, Bool.not_eq_eq_eq_not, Bool.not_true, Bool.not_false, not_true_eq_false, not_false_eq_true, Bool.false_eq_true, List.length_append, List.length_cons, List.length_nil, List.length_take, List.length_drop, List.length_set, List.length_replicate] <;> omega) | omega)).trans ?_ | refine (if_neg (by first | with_reducible rfl | assumption | (simp (disch := omega) only [ltI_iff, eqI_iff, eqS_iff, eqB_iff, inI_iff, leI_iff, capI_iff, isZ_iff, eqN_iff, roomI_iff, nI_def, ssz_def, tN_def, iadd64, isub64, imul64, conv64, conv8, conv32, iadd32, imul32, irem_pos, iquo64, iquo32, imin_l, imin_r, imax_l, imax_r, Bool.not_eq_true', ← Bool.not_eq_true, Bool.not_eq_eq_eq_not, Bool.not_true, Bool.not_false, not_true_eq_false, not_false_eq_true, Bool.false_eq_true, List.length_append, List.length_cons, List.length_nil, List.length_take, List.length_drop, List.length_set, List.length_replicate] <;> omega) | omega)).trans ?_ | refine Eq.trans (Sum.elim_inl _ _ _) ?_ | refine Eq.trans (Sum.elim_inr _ _ _) ?_)
      rfl
  | succ d ih =>
    intro i v hd hi hv s l c o all hr ha
    rw [P_law09_PartOnce_l0_eq]
    by_cases hl : i < x1.length
    · obtain ⟨s', l', c', o', t1, t2, t3, t4, dd, ok, q, hst⟩ := does_gen (s := s) (l := l) (c := c) (o := o) (by have := hr.2.1; omega) (s2 := 0) (l2 := []) (c2 := false) (o2 := 0) (by simp) x1[i].1 x1[i].2.1 x1[i].2.2.1 x1[i].2.2.2.1 x1[i].2.2.2.2
      have hr' := hst.rt hr
      have hl' := hr'.2.1
      have he := hst.eff hr
      rw [← ha] at he
      have hel := eff_len (s := s') (c := c') (o := o') hl'
      have hel2 : (all ++ dd).length ≤ 100 := by rw [← he]; exact hel
      have hel3 : all.length + dd.length ≤ 100 := by rw [← List.length_append]; exact hel2
      obtain ⟨e1, _⟩ := effect_t (by omega) hr'
      have dk := deltas_ok (x := all ++ dd) (y := eff s' l' c' o') he.symm (by omega)
      have hof := of_2_ok (l := all ++ dd) (by omega)
      have hof1 := of_1_ok (l := l') (by omega)
      have hn := ih (i + 1) (iadd .i64 v 1) (by omega) (by omega) (by first | with_reducible rfl | assumption | (simp (disch := omega) only [ltI_iff, eqI_iff, eqS_iff, eqB_iff, inI_iff, leI_iff, capI_iff, isZ_iff, eqN_iff, roomI_iff, nI_def, ssz_def, tN_def, iadd64, isub64, imul64, conv64, conv8, conv32, iadd32, imul32, irem_pos, iquo64, iquo32, imin_l, imin_r, imax_l, imax_r, Bool.not_eq_true', ← Bool.not_eq_true, Bool.not_eq_eq_eq_not, Bool.not_true, Bool.not_false, not_true_eq_false, not_false_eq_true, Bool.false_eq_true, List.length_append, List.length_cons, List.length_nil, List.length_take, List.length_drop, List.length_set, List.length_replicate] <;> omega) | omega) hr' he.symm
      have h4 := hr'.2.2.2
      by_cases h3 : s' = 3
      · rcases h4 with ⟨_, rfl | rfl⟩ | h4
        · have e : all ++ dd = l' := by rw [← he]; unfold eff; simp
          rw [e] at hof
          have sm := lsame_ok (x := ofL l') (by have := ofL_len l'; omega)
          repeat (first | refine (if_pos (by first | with_reducible rfl | assumption | (simp (disch := omega) only [ltI_iff, eqI_iff, eqS_iff, eqB_iff, inI_iff, leI_iff, capI_iff, isZ_iff, eqN_iff, roomI_iff, nI_def, ssz_def, tN_def, iadd64, isub64, imul64, conv64, conv8, conv32, iadd32, imul32, irem_pos, iquo64, iquo32, imin_l, imin_r, imax_l, imax_r, Bool.not_eq_true', ← Bool.not_eq_true, Bool.not_eq_eq_eq_not, Bool.not_true, Bool.not_false, not_true_eq_false, not_false_eq_true, Bool.false_eq_true, List.length_append, List.length_cons, List.length_nil, List.length_take, List.length_drop, List.length_set, List.length_replicate] <;> omega) | omega)).trans ?_ | refine (if_neg (by first | with_reducible rfl | assumption | (simp (disch := omega) only [ltI_iff, eqI_iff, eqS_iff, eqB_iff, inI_iff, leI_iff, capI_iff, isZ_iff, eqN_iff, roomI_iff, nI_def, ssz_def, tN_def, iadd64, isub64, imul64, conv64, conv8, conv32, iadd32, imul32, irem_pos, iquo64, iquo32, imin_l, imin_r, imax_l, imax_r, Bool.not_eq_true', ← Bool.not_eq_true, Bool.not_eq_eq_eq_not, Bool.not_true, Bool.not_false, not_true_eq_false, not_false_eq_true, Bool.false_eq_true, List.length_append, List.length_cons, List.length_nil, List.length_take, List.length_drop, List.length_set, List.length_replicate] <;> omega) | omega)).trans ?_ | refine (bnd (geti hv hl)).trans ?_ | refine (bnd q).trans ?_ | refine (bnd e1).trans ?_ | refine (bnd dk).trans ?_ | refine (bnd (of_2_ok (l := all ++ dd) (by omega))).trans ?_ | refine (bnd hof1).trans ?_ | refine (bnd hof).trans ?_ | refine (bnd (show P_ref08_Same (ofL (all ++ dd)) (ofL l') = some true by rw [e]; exact sm)).trans ?_ | refine Eq.trans (Sum.elim_inl _ _ _) ?_ | refine Eq.trans (Sum.elim_inr _ _ _) ?_)
          exact hn
        · have e : ofL (all ++ dd) = [] := by
            rw [← he]; unfold eff
            subst h3
            cases c' with
            | true => simp; exact ofL_opp l'
            | false => simp; exact ofL_nil
          rw [e] at hof
          repeat (first | refine (if_pos (by first | with_reducible rfl | assumption | (simp (disch := omega) only [ltI_iff, eqI_iff, eqS_iff, eqB_iff, inI_iff, leI_iff, capI_iff, isZ_iff, eqN_iff, roomI_iff, nI_def, ssz_def, tN_def, iadd64, isub64, imul64, conv64, conv8, conv32, iadd32, imul32, irem_pos, iquo64, iquo32, imin_l, imin_r, imax_l, imax_r, Bool.not_eq_true', ← Bool.not_eq_true, Bool.not_eq_eq_eq_not, Bool.not_true, Bool.not_false, not_true_eq_false, not_false_eq_true, Bool.false_eq_true, List.length_append, List.length_cons, List.length_nil, List.length_take, List.length_drop, List.length_set, List.length_replicate] <;> omega) | omega)).trans ?_ | refine (if_neg (by first | with_reducible rfl | assumption | (simp (disch := omega) only [ltI_iff, eqI_iff, eqS_iff, eqB_iff, inI_iff, leI_iff, capI_iff, isZ_iff, eqN_iff, roomI_iff, nI_def, ssz_def, tN_def, iadd64, isub64, imul64, conv64, conv8, conv32, iadd32, imul32, irem_pos, iquo64, iquo32, imin_l, imin_r, imax_l, imax_r, Bool.not_eq_true', ← Bool.not_eq_true, Bool.not_eq_eq_eq_not, Bool.not_true, Bool.not_false, not_true_eq_false, not_false_eq_true, Bool.false_eq_true, List.length_append, List.length_cons, List.length_nil, List.length_take, List.length_drop, List.length_set, List.length_replicate] <;> omega) | omega)).trans ?_ | refine (bnd (geti hv hl)).trans ?_ | refine (bnd q).trans ?_ | refine (bnd e1).trans ?_ | refine (bnd dk).trans ?_ | refine (bnd hof).trans ?_ | refine Eq.trans (Sum.elim_inl _ _ _) ?_ | refine Eq.trans (Sum.elim_inr _ _ _) ?_)
          exact hn
        · exact absurd h3 h4.1
      · repeat (first | refine (if_pos (by first | with_reducible rfl | assumption | (simp (disch := omega) only [ltI_iff, eqI_iff, eqS_iff, eqB_iff, inI_iff, leI_iff, capI_iff, isZ_iff, eqN_iff, roomI_iff, nI_def, ssz_def, tN_def, iadd64, isub64, imul64, conv64, conv8, conv32, iadd32, imul32, irem_pos, iquo64, iquo32, imin_l, imin_r, imax_l, imax_r, Bool.not_eq_true', ← Bool.not_eq_true, Bool.not_eq_eq_eq_not, Bool.not_true, Bool.not_false, not_true_eq_false, not_false_eq_true, Bool.false_eq_true, List.length_append, List.length_cons, List.length_nil, List.length_take, List.length_drop, List.length_set, List.length_replicate] <;> omega) | omega)).trans ?_ | refine (if_neg (by first | with_reducible rfl | assumption | (simp (disch := omega) only [ltI_iff, eqI_iff, eqS_iff, eqB_iff, inI_iff, leI_iff, capI_iff, isZ_iff, eqN_iff, roomI_iff, nI_def, ssz_def, tN_def, iadd64, isub64, imul64, conv64, conv8, conv32, iadd32, imul32, irem_pos, iquo64, iquo32, imin_l, imin_r, imax_l, imax_r, Bool.not_eq_true', ← Bool.not_eq_true, Bool.not_eq_eq_eq_not, Bool.not_true, Bool.not_false, not_true_eq_false, not_false_eq_true, Bool.false_eq_true, List.length_append, List.length_cons, List.length_nil, List.length_take, List.length_drop, List.length_set, List.length_replicate] <;> omega) | omega)).trans ?_ | refine (bnd (geti hv hl)).trans ?_ | refine (bnd q).trans ?_ | refine (bnd e1).trans ?_ | refine (bnd dk).trans ?_ | refine (bnd hof).trans ?_ | refine Eq.trans (Sum.elim_inl _ _ _) ?_ | refine Eq.trans (Sum.elim_inr _ _ _) ?_)
        exact hn
    · repeat (first | refine (if_pos (by first | with_reducible rfl | assumption | (simp (disch := omega) only [ltI_iff, eqI_iff, eqS_iff, eqB_iff, inI_iff, leI_iff, capI_iff, isZ_iff, eqN_iff, roomI_iff, nI_def, ssz_def, tN_def, iadd64, isub64, imul64, conv64, conv8, conv32, iadd32, imul32, irem_pos, iquo64, iquo32, imin_l, imin_r, imax_l, imax_r, Bool.not_eq_true', ← Bool.not_eq_true, Bool.not_eq_eq_eq_not, Bool.not_true, Bool.not_false, not_true_eq_false, not_false_eq_true, Bool.false_eq_true, List.length_append, List.length_cons, List.length_nil, List.length_take, List.length_drop, List.length_set, List.length_replicate] <;> omega) | omega)).trans ?_ | refine (if_neg (by first | with_reducible rfl | assumption | (simp (disch := omega) only [ltI_iff, eqI_iff, eqS_iff, eqB_iff, inI_iff, leI_iff, capI_iff, isZ_iff, eqN_iff, roomI_iff, nI_def, ssz_def, tN_def, iadd64, isub64, imul64, conv64, conv8, conv32, iadd32, imul32, irem_pos, iquo64, iquo32, imin_l, imin_r, imax_l, imax_r, Bool.not_eq_true', ← Bool.not_eq_true, Bool.not_eq_eq_eq_not, Bool.not_true, Bool.not_false, not_true_eq_false, not_false_eq_true, Bool.false_eq_true, List.length_append, List.length_cons, List.length_nil, List.length_take, List.length_drop, List.length_set, List.length_replicate] <;> omega) | omega)).trans ?_ | refine Eq.trans (Sum.elim_inl _ _ _) ?_ | refine Eq.trans (Sum.elim_inr _ _ _) ?_)
      rfl
theorem plain_once (x1 : List (Int × Int × Int × Bool × Int)) (w : w_t40 x1) : P_law09_PartOnce x1 = some true := by
  rw [P_law09_PartOnce_eq]
  repeat (first | refine (if_pos (by first | with_reducible rfl | assumption | (simp (disch := omega) only [ltI_iff, eqI_iff, eqS_iff, eqB_iff, inI_iff, leI_iff, capI_iff, isZ_iff, eqN_iff, roomI_iff, nI_def, ssz_def, tN_def, iadd64, isub64, imul64, conv64, conv8, conv32, iadd32, imul32, irem_pos, iquo64, iquo32, imin_l, imin_r, imax_l, imax_r, Bool.not_eq_true', ← Bool.not_eq_true, Bool.not_eq_eq_eq_not, Bool.not_true, Bool.not_false, not_true_eq_false, not_false_eq_true, Bool.false_eq_true, List.length_append, List.length_cons, List.length_nil, List.length_take, List.length_drop, List.length_set, List.length_replicate] <;> omega) | omega)).trans ?_ | refine (if_neg (by first | with_reducible rfl | assumption | (simp (disch := omega) only [ltI_iff, eqI_iff, eqS_iff, eqB_iff, inI_iff, leI_iff, capI_iff, isZ_iff, eqN_iff, roomI_iff, nI_def, ssz_def, tN_def, iadd64, isub64, imul64, conv64, conv8, conv32, iadd32, imul32, irem_pos, iquo64, iquo32, imin_l, imin_r, imax_l, imax_r, Bool.not_eq_true', ← Bool.not_eq_true, Bool.not_eq_eq_eq_not, Bool.not_true, Bool.not_false, not_true_eq_false, not_false_eq_true, Bool.false_eq_true, List.length_append, List.length_cons, List.length_nil, List.length_take, List.length_drop, List.length_set, List.length_replicate] <;> omega) | omega)).trans ?_ | refine (bnd alive_ok).trans ?_ | refine (bnd (once_l0 80 0 0 rfl (by omega) rfl rt0 (by unfold eff; simp))).trans ?_ | refine Eq.trans (Sum.elim_inl _ _ _) ?_ | refine Eq.trans (Sum.elim_inr _ _ _) ?_)
  rfl
theorem plain_same (x1 : Int) (x2 : List (Int × Int)) (x3 : Bool) (x4 x5 : Int) (w1 : w_t24 (x1, x2, x3, x4)) (w2 : w_t5 x5) : P_law09_PartSame x1 x2 x3 x4 x5 = some true := by
  have hl0 : x2.length ≤ 9223372036854775807 := w1.2.1.1
  rw [P_law09_PartSame_eq]
  by_cases h8 : 80 < x2.length
  · repeat (first | refine (if_pos (by first | with_reducible rfl | assumption | (simp (disch := omega) only [ltI_iff, eqI_iff, eqS_iff, eqB_iff, inI_iff, leI_iff, capI_iff, isZ_iff, eqN_iff, roomI_iff, nI_def, ssz_def, tN_def, iadd64, isub64, imul64, conv64, conv8, conv32, iadd32, imul32, irem_pos, iquo64, iquo32, imin_l, imin_r, imax_l, imax_r, Bool.not_eq_true', ← Bool.not_eq_true, Bool.not_eq_eq_eq_not, Bool.not_true, Bool.not_false, not_true_eq_false, not_false_eq_true, Bool.false_eq_true, List.length_append, List.length_cons, List.length_nil, List.length_take, List.length_drop, List.length_set, List.length_replicate] <;> omega) | omega)).trans ?_ | refine (if_neg (by first | with_reducible rfl | assumption | (simp (disch := omega) only [ltI_iff, eqI_iff, eqS_iff, eqB_iff, inI_iff, leI_iff, capI_iff, isZ_iff, eqN_iff, roomI_iff, nI_def, ssz_def, tN_def, iadd64, isub64, imul64, conv64, conv8, conv32, iadd32, imul32, irem_pos, iquo64, iquo32, imin_l, imin_r, imax_l, imax_r, Bool.not_eq_true', ← Bool.not_eq_true, Bool.not_eq_eq_eq_not, Bool.not_true, Bool.not_false, not_true_eq_false, not_false_eq_true, Bool.false_eq_true, List.length_append, List.length_cons, List.length_nil, List.length_take, List.length_drop, List.length_set, List.length_replicate] <;> omega) | omega)).trans ?_ | refine (bnd alive_ok).trans ?_ | refine Eq.trans (Sum.elim_inl _ _ _) ?_ | refine Eq.trans (Sum.elim_inr _ _ _) ?_)
    rfl
  by_cases hr : Rt x1 x2 x3 x4
  rotate_left
  · repeat (first | refine (if_pos (by first | with_reducible rfl | assumption | (simp (disch := omega) only [ltI_iff, eqI_iff, eqS_iff, eqB_iff, inI_iff, leI_iff, capI_iff, isZ_iff, eqN_iff, roomI_iff, nI_def, ssz_def, tN_def, iadd64, isub64, imul64, conv64, conv8, conv32, iadd32, imul32, irem_pos, iquo64, iquo32, imin_l, imin_r, imax_l, imax_r, Bool.not_eq_true', ← Bool.not_eq_true, Bool.not_eq_eq_eq_not, Bool.not_true, Bool.not_false, not_true_eq_false, not_false_eq_true, Bool.false_eq_true, List.length_append, List.length_cons, List.length_nil, List.length_take, List.length_drop, List.length_set, List.length_replicate] <;> omega) | omega)).trans ?_ | refine (if_neg (by first | with_reducible rfl | assumption | (simp (disch := omega) only [ltI_iff, eqI_iff, eqS_iff, eqB_iff, inI_iff, leI_iff, capI_iff, isZ_iff, eqN_iff, roomI_iff, nI_def, ssz_def, tN_def, iadd64, isub64, imul64, conv64, conv8, conv32, iadd32, imul32, irem_pos, iquo64, iquo32, imin_l, imin_r, imax_l, imax_r, Bool.not_eq_true', ← Bool.not_eq_true, Bool.not_eq_eq_eq_not, Bool.not_true, Bool.not_false, not_true_eq_false, not_false_eq_true, Bool.false_eq_true, List.length_append, List.length_cons, List.length_nil, List.length_take, List.length_drop, List.length_set, List.length_replicate] <;> omega) | omega)).trans ?_ | refine (bnd alive_ok).trans ?_ | refine (bnd (right_f (by omega) hr).2).trans ?_ | refine Eq.trans (Sum.elim_inl _ _ _) ?_ | refine Eq.trans (Sum.elim_inr _ _ _) ?_)
    rfl
  by_cases h1 : x1 = 1
  rotate_left
  · repeat (first | refine (if_pos (by first | with_reducible rfl | assumption | (simp (disch := omega) only [ltI_iff, eqI_iff, eqS_iff, eqB_iff, inI_iff, leI_iff, capI_iff, isZ_iff, eqN_iff, roomI_iff, nI_def, ssz_def, tN_def, iadd64, isub64, imul64, conv64, conv8, conv32, iadd32, imul32, irem_pos, iquo64, iquo32, imin_l, imin_r, imax_l, imax_r, Bool.not_eq_true', ← Bool.not_eq_true, Bool.not_eq_eq_eq_not, Bool.not_true, Bool.not_false, not_true_eq_false, not_false_eq_true, Bool.false_eq_true, List.length_append, List.length_cons, List.length_nil, List.length_take, List.length_drop, List.length_set, List.length_replicate] <;> omega) | omega)).trans ?_ | refine (if_neg (by first | with_reducible rfl | assumption | (simp (disch := omega) only [ltI_iff, eqI_iff, eqS_iff, eqB_iff, inI_iff, leI_iff, capI_iff, isZ_iff, eqN_iff, roomI_iff, nI_def, ssz_def, tN_def, iadd64, isub64, imul64, conv64, conv8, conv32, iadd32, imul32, irem_pos, iquo64, iquo32, imin_l, imin_r, imax_l, imax_r, Bool.not_eq_true', ← Bool.not_eq_true, Bool.not_eq_eq_eq_not, Bool.not_true, Bool.not_false, not_true_eq_false, not_false_eq_true, Bool.false_eq_true, List.length_append, List.length_cons, List.length_nil, List.length_take, List.length_drop, List.length_set, List.length_replicate] <;> omega) | omega)).trans ?_ | refine (bnd alive_ok).trans ?_ | refine (bnd (right_t hr).2).trans ?_ | refine Eq.trans (Sum.elim_inl _ _ _) ?_ | refine Eq.trans (Sum.elim_inr _ _ _) ?_)
    rfl
  cases x3 with
  | true =>
    repeat (first | refine (if_pos (by first | with_reducible rfl | assumption | (simp (disch := omega) only [ltI_iff, eqI_iff, eqS_iff, eqB_iff, inI_iff, leI_iff, capI_iff, isZ_iff, eqN_iff, roomI_iff, nI_def, ssz_def, tN_def, iadd64, isub64, imul64, conv64, conv8, conv32, iadd32, imul32, irem_pos, iquo64, iquo32, imin_l, imin_r, imax_l, imax_r, Bool.not_eq_true', ← Bool.not_eq_true, Bool.not_eq_eq_eq_not, Bool.not_true, Bool.not_false, not_true_eq_false, not_false_eq_true, Bool.false_eq_true, List.length_append, List.length_cons, List.length_nil, List.length_take, List.length_drop, List.length_set, List.length_replicate] <;> omega) | omega)).trans ?_ | refine (if_neg (by first | with_reducible rfl | assumption | (simp (disch := omega) only [ltI_iff, eqI_iff, eqS_iff, eqB_iff, inI_iff, leI_iff, capI_iff, isZ_iff, eqN_iff, roomI_iff, nI_def, ssz_def, tN_def, iadd64, isub64, imul64, conv64, conv8, conv32, iadd32, imul32, irem_pos, iquo64, iquo32, imin_l, imin_r, imax_l, imax_r, Bool.not_eq_true', ← Bool.not_eq_true, Bool.not_eq_eq_eq_not, Bool.not_true, Bool.not_false, not_true_eq_false, not_false_eq_true, Bool.false_eq_true, List.length_append, List.length_cons, List.length_nil, List.length_take, List.length_drop, List.length_set, List.length_replicate] <;> omega) | omega)).trans ?_ | refine (bnd alive_ok).trans ?_ | refine (bnd (right_t hr).2).trans ?_ | refine Eq.trans (Sum.elim_inl _ _ _) ?_ | refine Eq.trans (Sum.elim_inr _ _ _) ?_)
    rfl
  | false =>
    simp only [w_t5] at w2
    have h2 : irem .u8 x5 2 = x5 % 2 := irem_pos (by omega)
    have ho : iadd .i64 (conv .i64 (irem .u8 x5 2)) 1 = x5 % 2 + 1 := by rw [h2, conv64 (by omega), iadd64 (by omega)]
    obtain ⟨w, hw⟩ : ∃ w : Int, w = x5 % 2 + 1 := ⟨_, rfl⟩
    have hw' : w = 1 ∨ w = 2 := by omega
    rw [← hw] at ho
    subst h1
    have hl : x2.length ≤ 1000 := by omega
    obtain ⟨s1, o1, d1, e1, q1, _, c1⟩ := decide_any (s := 1) (c := false) (o := x4) hl w
    obtain ⟨c2, d2, e2, q2, _, k2⟩ := local_any (s := 1) (c := false) (o := x4) hl
    rcases k2 with ⟨rfl, _, _, _, rfl, rfl⟩ | ⟨_, _, _, hno⟩
    rotate_left
    · exact absurd ⟨hr, rfl, rfl⟩ hno
    have h4 := hr.2.2.2
    have hr2 : Rt 1 d2 true x4 := ⟨hr.1, hr.2.1, hr.2.2.1, by omega⟩
    obtain ⟨s3, o3, d3, e3, q3, _, c3⟩ := decide_any (s := 1) (c := true) (o := x4) hl w
    rcases c1 with ⟨rfl, _, _, _, _, rfl, rfl, rfl⟩ | ⟨_, _, _, ⟨_, _, h, _⟩ | ⟨_, hno⟩⟩
    rotate_left
    · omega
    · exact absurd ⟨hr, hw', .inr ⟨by omega, fun _ => rfl⟩⟩ hno
    rcases c3 with ⟨rfl, _, _, _, _, rfl, rfl, rfl⟩ | ⟨_, _, _, ⟨_, _, h, _⟩ | ⟨_, hno⟩⟩
    rotate_left
    · omega
    · exact absurd ⟨hr2, hw', .inr ⟨by omega, fun _ => rfl⟩⟩ hno
    have hd1 := dec_len (l := d2) (c := false) o3
    have hd3 := dec_len (l := d2) (c := true) o3
    have hof := of_3_ok (l := dec d2 false o3) (by omega)
    have hof2 := of_3_ok (l := d2 ++ dec d2 true o3) (by rw [List.length_append]; omega)
    have he : ofL (d2 ++ dec d2 true o3) = ofL (dec d2 false o3) := by
      unfold dec
      rcases hw' with rfl | rfl
      · simp
      · simp; rw [ofL_opp, ofL_nil]
    rw [he] at hof2
    have sm := lsame_ok (x := ofL (dec d2 false o3)) (by have := ofL_len (dec d2 false o3); omega)
    simp only [ho]
    have hr1 := (right_t hr).2
    repeat (first | refine (if_pos (by first | with_reducible rfl | assumption | (simp (disch := omega) only [ltI_iff, eqI_iff, eqS_iff, eqB_iff, inI_iff, leI_iff, capI_iff, isZ_iff, eqN_iff, roomI_iff, nI_def, ssz_def, tN_def, iadd64, isub64, imul64, conv64, conv8, conv32, iadd32, imul32, irem_pos, iquo64, iquo32, imin_l, imin_r, imax_l, imax_r, Bool.not_eq_true', ← Bool.not_eq_true, Bool.not_eq_eq_eq_not, Bool.not_true, Bool.not_false, not_true_eq_false, not_false_eq_true, Bool.false_eq_true, List.length_append, List.length_cons, List.length_nil, List.length_take, List.length_drop, List.length_set, List.length_replicate] <;> omega) | omega)).trans ?_ | refine (if_neg (by first | with_reducible rfl | assumption | (simp (disch := omega) only [ltI_iff, eqI_iff, eqS_iff, eqB_iff, inI_iff, leI_iff, capI_iff, isZ_iff, eqN_iff, roomI_iff, nI_def, ssz_def, tN_def, iadd64, isub64, imul64, conv64, conv8, conv32, iadd32, imul32, irem_pos, iquo64, iquo32, imin_l, imin_r, imax_l, imax_r, Bool.not_eq_true', ← Bool.not_eq_true, Bool.not_eq_eq_eq_not, Bool.not_true, Bool.not_false, not_true_eq_false, not_false_eq_true, Bool.false_eq_true, List.length_append, List.length_cons, List.length_nil, List.length_take, List.length_drop, List.length_set, List.length_replicate] <;> omega) | omega)).trans ?_ | refine (bnd alive_ok).trans ?_ | refine (bnd hr1).trans ?_ | refine (bnd q1).trans ?_ | refine (bnd q2).trans ?_ | refine (bnd q3).trans ?_ | refine (bnd hof).trans ?_ | refine (bnd hof2).trans ?_ | refine (bnd sm).trans ?_ | refine Eq.trans (Sum.elim_inl _ _ _) ?_ | refine Eq.trans (Sum.elim_inr _ _ _) ?_)
    rfl
end Go.Ws
