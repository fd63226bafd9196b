/-
  Who says, plainly: what waits are the texts that were said from the m-th on.
  Conditions: none.
-/
import Derived.Test.YtbgikhebodociaaZPlain
set_option linter.unusedVariables false
set_option linter.unusedSimpArgs false
namespace Go.Ws
set_option linter.unusedVariables false
set_option linter.unusedSimpArgs false
set_option maxHeartbeats 1000000

/-- Texts, numbered from m on. -/
def numW (m : Nat) : List ByteArray → List (Int × ByteArray)
  | [] => []
  | s :: l => ((m : Int), s) :: numW (m + 1) l
theorem numW_length : ∀ (m : Nat) (l : List ByteArray), (numW m l).length = l.length
  | _, [] => rfl
  | m, s :: l => by simp [numW, numW_length (m + 1) l]
theorem numW_get : ∀ (m : Nat) (l : List ByteArray) (i : Nat), (numW m l)[i]? = (l[i]?).map fun s => (((m + i : Nat) : Int), s)
  | _, [], i => by simp [numW]
  | m, s :: l, 0 => by simp [numW]
  | m, s :: l, i + 1 => by
    simp only [numW, List.getElem?_cons_succ, numW_get (m + 1) l i]
    congr 1
    funext x
    rw [show m + 1 + i = m + (i + 1) by omega]
theorem numW_append : ∀ (m : Nat) (l : List ByteArray) (s : ByteArray), numW m (l ++ [s]) = numW m l ++ [(((m + l.length : Nat) : Int), s)]
  | m, [], s => by simp [numW]
  | m, a :: l, s => by
    simp only [List.cons_append, numW, numW_append (m + 1) l s, List.length_cons]
    rw [show m + 1 + l.length = m + (l.length + 1) by omega]
theorem numW_drop : ∀ (m : Nat) (l : List ByteArray) (d : Nat), d ≤ l.length → (numW m l).drop d = numW (m + d) (l.drop d)
  | m, l, 0, _ => rfl
  | m, [], d + 1, h => by simp at h
  | m, a :: l, d + 1, h => by
    simp only [numW, List.drop_succ_cons]
    rw [numW_drop (m + 1) l d (by simpa using h), show m + 1 + d = m + (d + 1) by omega]

theorem get_of {l : List ByteArray} {i : Nat} (h : i < l.length) : l[i]? = some l[i] := List.getElem?_eq_getElem h

/-- The state of who says: S was said, m of it heard; r may wait. -/
structure Ok (r : Nat) (m : Nat) (S : List ByteArray) : Prop where
  le : m ≤ S.length
  small : S.length ≤ 1000000
  room : S.length - m ≤ r
  r1 : 1 ≤ r
  r2 : r ≤ 100
  size : ∀ s ∈ S, (s.size : Int) ≤ 500

/-- What is kept of it. -/
structure St3 (r m : Nat) (S : List ByteArray) (x1 : Int) (x2 : List (Int × ByteArray)) (x3 : Int) : Prop extends Ok r m S where
  e1 : x1 = (S.length : Int)
  e2 : x2 = numW m (S.drop m)
  e3 : x3 = (r : Int)
theorem St3.len {r m : Nat} {S : List ByteArray} {x1 : Int} {x2 : List (Int × ByteArray)} {x3 : Int} (H : St3 r m S x1 x2 x3) : x2.length = S.length - m := by rw [H.e2, numW_length, List.length_drop]
theorem St3.get {r m : Nat} {S : List ByteArray} {x1 : Int} {x2 : List (Int × ByteArray)} {x3 : Int} (H : St3 r m S x1 x2 x3) {i : Nat} (hi : i < S.length - m) : x2[i]? = some (((m + i : Nat) : Int), S[m + i]) := by
  rw [H.e2, numW_get, List.getElem?_drop, get_of (by omega)]; rfl

theorem right_l0 {r m : Nat} {S : List ByteArray} {x1 : Int} {x2 : List (Int × ByteArray)} {x3 : Int} (H : St3 r m S x1 x2 x3) : ∀ (d i : Nat) (v : Int), v = (i : Int) → S.length - m - i = d → i ≤ S.length - m → P_party_Right_l0 x1 x2 v = some (.inl ()) := by
  have hl := H.len; have h1 := H.le; have h2 := H.small; have h3 := H.room; have h4 := H.e1
  intro d
  induction d with
  | zero =>
    intro i v hv hd hi
    rw [P_party_Right_l0_eq]
    repeat (first | refine (if_pos (by first | with_reducible rfl | assumption | (simp (disch := omega) only [ltI_iff, eqI_iff, eqS_iff, eqB_iff, inI_iff, leI_iff, capI_iff, isZ_iff, eqN_iff, roomI_iff, nI_def, ssz_def, tN_def, iadd64, isub64, imul64, conv64, Bool.not_eq_true', ← Bool.not_eq_true, Bool.not_eq_eq_eq_not, Bool.not_true, Bool.not_false, not_true_eq_false, not_false_eq_true, List.length_append, List.length_cons, List.length_nil, List.length_take, List.length_drop, List.length_set, List.length_replicate, hl] <;> omega) | omega)).trans ?_ | refine (if_neg (by first | with_reducible rfl | assumption | (simp (disch := omega) only [ltI_iff, eqI_iff, eqS_iff, eqB_iff, inI_iff, leI_iff, capI_iff, isZ_iff, eqN_iff, roomI_iff, nI_def, ssz_def, tN_def, iadd64, isub64, imul64, conv64, Bool.not_eq_true', ← Bool.not_eq_true, Bool.not_eq_eq_eq_not, Bool.not_true, Bool.not_false, not_true_eq_false, not_false_eq_true, List.length_append, List.length_cons, List.length_nil, List.length_take, List.length_drop, List.length_set, List.length_replicate, hl] <;> omega) | omega)).trans ?_ | refine Eq.trans (Sum.elim_inl _ _ _) ?_ | refine Eq.trans (Sum.elim_inr _ _ _) ?_)
    rfl
  | succ d ih =>
    intro i v hv hd hi
    have hs := H.size _ (List.getElem_mem (show m + i < S.length by omega))
    rw [P_party_Right_l0_eq]
    repeat (first | refine (if_pos (by first | with_reducible rfl | assumption | (simp (disch := omega) only [ltI_iff, eqI_iff, eqS_iff, eqB_iff, inI_iff, leI_iff, capI_iff, isZ_iff, eqN_iff, roomI_iff, nI_def, ssz_def, tN_def, iadd64, isub64, imul64, conv64, Bool.not_eq_true', ← Bool.not_eq_true, Bool.not_eq_eq_eq_not, Bool.not_true, Bool.not_false, not_true_eq_false, not_false_eq_true, List.length_append, List.length_cons, List.length_nil, List.length_take, List.length_drop, List.length_set, List.length_replicate, hl, h4] <;> omega) | omega)).trans ?_ | refine (if_neg (by first | with_reducible rfl | assumption | (simp (disch := omega) only [ltI_iff, eqI_iff, eqS_iff, eqB_iff, inI_iff, leI_iff, capI_iff, isZ_iff, eqN_iff, roomI_iff, nI_def, ssz_def, tN_def, iadd64, isub64, imul64, conv64, Bool.not_eq_true', ← Bool.not_eq_true, Bool.not_eq_eq_eq_not, Bool.not_true, Bool.not_false, not_true_eq_false, not_false_eq_true, List.length_append, List.length_cons, List.length_nil, List.length_take, List.length_drop, List.length_set, List.length_replicate, hl, h4] <;> omega) | omega)).trans ?_ | refine (bnd (getn hv (H.get (by omega)))).trans ?_ | refine Eq.trans (Sum.elim_inl _ _ _) ?_ | refine Eq.trans (Sum.elim_inr _ _ _) ?_)
    exact ih (i + 1) _ (by first | with_reducible rfl | assumption | (simp (disch := omega) only [ltI_iff, eqI_iff, eqS_iff, eqB_iff, inI_iff, leI_iff, capI_iff, isZ_iff, eqN_iff, roomI_iff, nI_def, ssz_def, tN_def, iadd64, isub64, imul64, conv64, Bool.not_eq_true', ← Bool.not_eq_true, Bool.not_eq_eq_eq_not, Bool.not_true, Bool.not_false, not_true_eq_false, not_false_eq_true, List.length_append, List.length_cons, List.length_nil, List.length_take, List.length_drop, List.length_set, List.length_replicate] <;> omega) | omega) (by omega) (by omega)

theorem num_ok {n : Nat} {x : Int} (hx : x = (n : Int)) (h : n ≤ 1000000) : party_numbered x = true := by
  unfold party_numbered
  repeat (first | refine (if_pos (by first | with_reducible rfl | assumption | (simp (disch := omega) only [ltI_iff, eqI_iff, eqS_iff, eqB_iff, inI_iff, leI_iff, capI_iff, isZ_iff, eqN_iff, roomI_iff, nI_def, ssz_def, tN_def, iadd64, isub64, imul64, conv64, Bool.not_eq_true', ← Bool.not_eq_true, Bool.not_eq_eq_eq_not, Bool.not_true, Bool.not_false, not_true_eq_false, not_false_eq_true, List.length_append, List.length_cons, List.length_nil, List.length_take, List.length_drop, List.length_set, List.length_replicate] <;> omega) | omega)).trans ?_ | refine (if_neg (by first | with_reducible rfl | assumption | (simp (disch := omega) only [ltI_iff, eqI_iff, eqS_iff, eqB_iff, inI_iff, leI_iff, capI_iff, isZ_iff, eqN_iff, roomI_iff, nI_def, ssz_def, tN_def, iadd64, isub64, imul64, conv64, Bool.not_eq_true', ← Bool.not_eq_true, Bool.not_eq_eq_eq_not, Bool.not_true, Bool.not_false, not_true_eq_false, not_false_eq_true, List.length_append, List.length_cons, List.length_nil, List.length_take, List.length_drop, List.length_set, List.length_replicate] <;> omega) | omega)).trans ?_ | refine Eq.trans (Sum.elim_inl _ _ _) ?_ | refine Eq.trans (Sum.elim_inr _ _ _) ?_)
  exact (by first | with_reducible rfl | assumption | (simp (disch := omega) only [ltI_iff, eqI_iff, eqS_iff, eqB_iff, inI_iff, leI_iff, capI_iff, isZ_iff, eqN_iff, roomI_iff, nI_def, ssz_def, tN_def, iadd64, isub64, imul64, conv64, Bool.not_eq_true', ← Bool.not_eq_true, Bool.not_eq_eq_eq_not, Bool.not_true, Bool.not_false, not_true_eq_false, not_false_eq_true, List.length_append, List.length_cons, List.length_nil, List.length_take, List.length_drop, List.length_set, List.length_replicate] <;> omega) | omega)

theorem right_ok {r m : Nat} {S : List ByteArray} {x1 : Int} {x2 : List (Int × ByteArray)} {x3 : Int} (H : St3 r m S x1 x2 x3) : P_party_Right x1 x2 x3 = some true := by
  have hl := H.len; have h1 := H.le; have h2 := H.small; have h3 := H.room; have h4 := H.e1; have h5 := H.e3; have h6 := H.r1; have h7 := H.r2
  have h8 := num_ok h4 h2
  rw [P_party_Right_eq]
  repeat (first | refine (if_pos (by first | with_reducible rfl | assumption | (simp (disch := omega) only [ltI_iff, eqI_iff, eqS_iff, eqB_iff, inI_iff, leI_iff, capI_iff, isZ_iff, eqN_iff, roomI_iff, nI_def, ssz_def, tN_def, iadd64, isub64, imul64, conv64, Bool.not_eq_true', ← Bool.not_eq_true, Bool.not_eq_eq_eq_not, Bool.not_true, Bool.not_false, not_true_eq_false, not_false_eq_true, List.length_append, List.length_cons, List.length_nil, List.length_take, List.length_drop, List.length_set, List.length_replicate, hl, h4, h5] <;> omega) | omega)).trans ?_ | refine (if_neg (by first | with_reducible rfl | assumption | (simp (disch := omega) only [ltI_iff, eqI_iff, eqS_iff, eqB_iff, inI_iff, leI_iff, capI_iff, isZ_iff, eqN_iff, roomI_iff, nI_def, ssz_def, tN_def, iadd64, isub64, imul64, conv64, Bool.not_eq_true', ← Bool.not_eq_true, Bool.not_eq_eq_eq_not, Bool.not_true, Bool.not_false, not_true_eq_false, not_false_eq_true, List.length_append, List.length_cons, List.length_nil, List.length_take, List.length_drop, List.length_set, List.length_replicate, hl, h4, h5] <;> omega) | omega)).trans ?_ | refine (bnd (right_l0 H _ 0 0 rfl rfl (by omega))).trans ?_ | refine Eq.trans (Sum.elim_inl _ _ _) ?_ | refine Eq.trans (Sum.elim_inr _ _ _) ?_)
  rfl

theorem clone_ok (l : List (Int × ByteArray)) (h : l.length ≤ 1000000) : P_slices_Clone l = some () := by
  rw [P_slices_Clone_eq, P_slices_Clone_1001_eq]
  repeat (first | refine (if_pos (by first | with_reducible rfl | assumption | (simp (disch := omega) only [ltI_iff, eqI_iff, eqS_iff, eqB_iff, inI_iff, leI_iff, capI_iff, isZ_iff, eqN_iff, roomI_iff, nI_def, ssz_def, tN_def, iadd64, isub64, imul64, conv64, Bool.not_eq_true', ← Bool.not_eq_true, Bool.not_eq_eq_eq_not, Bool.not_true, Bool.not_false, not_true_eq_false, not_false_eq_true, List.length_append, List.length_cons, List.length_nil, List.length_take, List.length_drop, List.length_set, List.length_replicate] <;> omega) | omega)).trans ?_ | refine (if_neg (by first | with_reducible rfl | assumption | (simp (disch := omega) only [ltI_iff, eqI_iff, eqS_iff, eqB_iff, inI_iff, leI_iff, capI_iff, isZ_iff, eqN_iff, roomI_iff, nI_def, ssz_def, tN_def, iadd64, isub64, imul64, conv64, Bool.not_eq_true', ← Bool.not_eq_true, Bool.not_eq_eq_eq_not, Bool.not_true, Bool.not_false, not_true_eq_false, not_false_eq_true, List.length_append, List.length_cons, List.length_nil, List.length_take, List.length_drop, List.length_set, List.length_replicate] <;> omega) | omega)).trans ?_ | refine Eq.trans (Sum.elim_inl _ _ _) ?_ | refine Eq.trans (Sum.elim_inr _ _ _) ?_)
  rfl

/-! ### Say -/
section
variable {r m : Nat} {S : List ByteArray} {x1 : Int} {x2 : List (Int × ByteArray)} {x3 : Int}
theorem St3.more (H : St3 r m S x1 x2 x3) {t : ByteArray} (ht : ¬ 500 < (t.size : Int)) (hr : S.length - m < r) (hs : S.length < 1000000) : St3 r m (S ++ [t]) (iadd .i64 x1 1) (x2 ++ [(x1, t)]) x3 := by
  have h1 := H.le; have h4 := H.e1; have h6 := H.r1; have h7 := H.r2
  refine ⟨⟨by simp; omega, by simp; omega, by simp; omega, h6, h7, fun s hm => ?_⟩, ?_, ?_, H.e3⟩
  · rcases List.mem_append.1 hm with hm | hm
    · exact H.size s hm
    · simp at hm; subst hm; omega
  · exact (by first | with_reducible rfl | assumption | (simp (disch := omega) only [ltI_iff, eqI_iff, eqS_iff, eqB_iff, inI_iff, leI_iff, capI_iff, isZ_iff, eqN_iff, roomI_iff, nI_def, ssz_def, tN_def, iadd64, isub64, imul64, conv64, Bool.not_eq_true', ← Bool.not_eq_true, Bool.not_eq_eq_eq_not, Bool.not_true, Bool.not_false, not_true_eq_false, not_false_eq_true, List.length_append, List.length_cons, List.length_nil, List.length_take, List.length_drop, List.length_set, List.length_replicate, h4] <;> omega) | omega)
  · rw [List.drop_append_of_le_length h1, numW_append, List.length_drop, show m + (S.length - m) = S.length by omega, H.e2, H.e1]
theorem say_big (H : St3 r m S x1 x2 x3) {t : ByteArray} (ht : 500 < (t.size : Int)) : P_party_Say x1 x2 x3 t = some (x1, x2, x3, 0, ByteArray.mk #[], 3) := by
  have hl := H.len; have h1 := H.le; have h2 := H.small; have h3 := H.room; have h4 := H.e1; have h5 := H.e3; have h6 := H.r1; have h7 := H.r2
  rw [P_party_Say_eq]
  repeat (first | refine (if_pos (by first | with_reducible rfl | assumption | (simp (disch := omega) only [ltI_iff, eqI_iff, eqS_iff, eqB_iff, inI_iff, leI_iff, capI_iff, isZ_iff, eqN_iff, roomI_iff, nI_def, ssz_def, tN_def, iadd64, isub64, imul64, conv64, Bool.not_eq_true', ← Bool.not_eq_true, Bool.not_eq_eq_eq_not, Bool.not_true, Bool.not_false, not_true_eq_false, not_false_eq_true, List.length_append, List.length_cons, List.length_nil, List.length_take, List.length_drop, List.length_set, List.length_replicate, hl, h4, h5] <;> omega) | omega)).trans ?_ | refine (if_neg (by first | with_reducible rfl | assumption | (simp (disch := omega) only [ltI_iff, eqI_iff, eqS_iff, eqB_iff, inI_iff, leI_iff, capI_iff, isZ_iff, eqN_iff, roomI_iff, nI_def, ssz_def, tN_def, iadd64, isub64, imul64, conv64, Bool.not_eq_true', ← Bool.not_eq_true, Bool.not_eq_eq_eq_not, Bool.not_true, Bool.not_false, not_true_eq_false, not_false_eq_true, List.length_append, List.length_cons, List.length_nil, List.length_take, List.length_drop, List.length_set, List.length_replicate, hl, h4, h5] <;> omega) | omega)).trans ?_ | refine (bnd (clone_ok x2 (by omega))).trans ?_ | refine (bnd (right_ok H)).trans ?_ | refine Eq.trans (Sum.elim_inl _ _ _) ?_ | refine Eq.trans (Sum.elim_inr _ _ _) ?_)
  rfl
theorem say_full (H : St3 r m S x1 x2 x3) {t : ByteArray} (ht : ¬ 500 < (t.size : Int)) (hr : ¬ S.length - m < r) : P_party_Say x1 x2 x3 t = some (x1, x2, x3, 0, ByteArray.mk #[], 6) := by
  have hl := H.len; have h1 := H.le; have h2 := H.small; have h3 := H.room; have h4 := H.e1; have h5 := H.e3; have h6 := H.r1; have h7 := H.r2
  rw [P_party_Say_eq]
  repeat (first | refine (if_pos (by first | with_reducible rfl | assumption | (simp (disch := omega) only [ltI_iff, eqI_iff, eqS_iff, eqB_iff, inI_iff, leI_iff, capI_iff, isZ_iff, eqN_iff, roomI_iff, nI_def, ssz_def, tN_def, iadd64, isub64, imul64, conv64, Bool.not_eq_true', ← Bool.not_eq_true, Bool.not_eq_eq_eq_not, Bool.not_true, Bool.not_false, not_true_eq_false, not_false_eq_true, List.length_append, List.length_cons, List.length_nil, List.length_take, List.length_drop, List.length_set, List.length_replicate, hl, h4, h5] <;> omega) | omega)).trans ?_ | refine (if_neg (by first | with_reducible rfl | assumption | (simp (disch := omega) only [ltI_iff, eqI_iff, eqS_iff, eqB_iff, inI_iff, leI_iff, capI_iff, isZ_iff, eqN_iff, roomI_iff, nI_def, ssz_def, tN_def, iadd64, isub64, imul64, conv64, Bool.not_eq_true', ← Bool.not_eq_true, Bool.not_eq_eq_eq_not, Bool.not_true, Bool.not_false, not_true_eq_false, not_false_eq_true, List.length_append, List.length_cons, List.length_nil, List.length_take, List.length_drop, List.length_set, List.length_replicate, hl, h4, h5] <;> omega) | omega)).trans ?_ | refine (bnd (clone_ok x2 (by omega))).trans ?_ | refine (bnd (right_ok H)).trans ?_ | refine Eq.trans (Sum.elim_inl _ _ _) ?_ | refine Eq.trans (Sum.elim_inr _ _ _) ?_)
  rfl
theorem say_ok (H : St3 r m S x1 x2 x3) {t : ByteArray} (ht : ¬ 500 < (t.size : Int)) (hr : S.length - m < r) : P_party_Say x1 x2 x3 t = some (iadd .i64 x1 1, x2 ++ [(x1, t)], x3, x1, t, 0) := by
  have hl := H.len; have h1 := H.le; have h2 := H.small; have h3 := H.room; have h4 := H.e1; have h5 := H.e3; have h6 := H.r1; have h7 := H.r2
  rw [P_party_Say_eq]
  repeat (first | refine (if_pos (by first | with_reducible rfl | assumption | (simp (disch := omega) only [ltI_iff, eqI_iff, eqS_iff, eqB_iff, inI_iff, leI_iff, capI_iff, isZ_iff, eqN_iff, roomI_iff, nI_def, ssz_def, tN_def, iadd64, isub64, imul64, conv64, Bool.not_eq_true', ← Bool.not_eq_true, Bool.not_eq_eq_eq_not, Bool.not_true, Bool.not_false, not_true_eq_false, not_false_eq_true, List.length_append, List.length_cons, List.length_nil, List.length_take, List.length_drop, List.length_set, List.length_replicate, hl, h4, h5] <;> omega) | omega)).trans ?_ | refine (if_neg (by first | with_reducible rfl | assumption | (simp (disch := omega) only [ltI_iff, eqI_iff, eqS_iff, eqB_iff, inI_iff, leI_iff, capI_iff, isZ_iff, eqN_iff, roomI_iff, nI_def, ssz_def, tN_def, iadd64, isub64, imul64, conv64, Bool.not_eq_true', ← Bool.not_eq_true, Bool.not_eq_eq_eq_not, Bool.not_true, Bool.not_false, not_true_eq_false, not_false_eq_true, List.length_append, List.length_cons, List.length_nil, List.length_take, List.length_drop, List.length_set, List.length_replicate, hl, h4, h5] <;> omega) | omega)).trans ?_ | refine (bnd (clone_ok x2 (by omega))).trans ?_ | refine (bnd (right_ok H)).trans ?_ | refine Eq.trans (Sum.elim_inl _ _ _) ?_ | refine Eq.trans (Sum.elim_inr _ _ _) ?_)
  rfl

/-! ### Acked -/
theorem idx_none (H : St3 r m S x1 x2 x3) {hd : Int} (hh : hd ≤ m) : ∀ (d i : Nat) (v : Int), v = (i : Int) → S.length - m - i = d → i ≤ S.length - m → P_slices_IndexFunc_l0 x2 hd v = some (.inl ()) := by
  have hl := H.len; have h1 := H.le; have h2 := H.small; have h3 := H.room
  intro d
  induction d with
  | zero =>
    intro i v hv h hi
    rw [P_slices_IndexFunc_l0_eq]
    repeat (first | refine (if_pos (by first | with_reducible rfl | assumption | (simp (disch := omega) only [ltI_iff, eqI_iff, eqS_iff, eqB_iff, inI_iff, leI_iff, capI_iff, isZ_iff, eqN_iff, roomI_iff, nI_def, ssz_def, tN_def, iadd64, isub64, imul64, conv64, Bool.not_eq_true', ← Bool.not_eq_true, Bool.not_eq_eq_eq_not, Bool.not_true, Bool.not_false, not_true_eq_false, not_false_eq_true, List.length_append, List.length_cons, List.length_nil, List.length_take, List.length_drop, List.length_set, List.length_replicate, hl] <;> omega) | omega)).trans ?_ | refine (if_neg (by first | with_reducible rfl | assumption | (simp (disch := omega) only [ltI_iff, eqI_iff, eqS_iff, eqB_iff, inI_iff, leI_iff, capI_iff, isZ_iff, eqN_iff, roomI_iff, nI_def, ssz_def, tN_def, iadd64, isub64, imul64, conv64, Bool.not_eq_true', ← Bool.not_eq_true, Bool.not_eq_eq_eq_not, Bool.not_true, Bool.not_false, not_true_eq_false, not_false_eq_true, List.length_append, List.length_cons, List.length_nil, List.length_take, List.length_drop, List.length_set, List.length_replicate, hl] <;> omega) | omega)).trans ?_ | refine Eq.trans (Sum.elim_inl _ _ _) ?_ | refine Eq.trans (Sum.elim_inr _ _ _) ?_)
    rfl
  | succ d ih =>
    intro i v hv h hi
    rw [P_slices_IndexFunc_l0_eq]
    repeat (first | refine (if_pos (by first | with_reducible rfl | assumption | (simp (disch := omega) only [ltI_iff, eqI_iff, eqS_iff, eqB_iff, inI_iff, leI_iff, capI_iff, isZ_iff, eqN_iff, roomI_iff, nI_def, ssz_def, tN_def, iadd64, isub64, imul64, conv64, Bool.not_eq_true', ← Bool.not_eq_true, Bool.not_eq_eq_eq_not, Bool.not_true, Bool.not_false, not_true_eq_false, not_false_eq_true, List.length_append, List.length_cons, List.length_nil, List.length_take, List.length_drop, List.length_set, List.length_replicate, hl] <;> omega) | omega)).trans ?_ | refine (if_neg (by first | with_reducible rfl | assumption | (simp (disch := omega) only [ltI_iff, eqI_iff, eqS_iff, eqB_iff, inI_iff, leI_iff, capI_iff, isZ_iff, eqN_iff, roomI_iff, nI_def, ssz_def, tN_def, iadd64, isub64, imul64, conv64, Bool.not_eq_true', ← Bool.not_eq_true, Bool.not_eq_eq_eq_not, Bool.not_true, Bool.not_false, not_true_eq_false, not_false_eq_true, List.length_append, List.length_cons, List.length_nil, List.length_take, List.length_drop, List.length_set, List.length_replicate, hl] <;> omega) | omega)).trans ?_ | refine (bnd (getn hv (H.get (by omega)))).trans ?_ | refine Eq.trans (Sum.elim_inl _ _ _) ?_ | refine Eq.trans (Sum.elim_inr _ _ _) ?_)
    exact ih (i + 1) _ (by first | with_reducible rfl | assumption | (simp (disch := omega) only [ltI_iff, eqI_iff, eqS_iff, eqB_iff, inI_iff, leI_iff, capI_iff, isZ_iff, eqN_iff, roomI_iff, nI_def, ssz_def, tN_def, iadd64, isub64, imul64, conv64, Bool.not_eq_true', ← Bool.not_eq_true, Bool.not_eq_eq_eq_not, Bool.not_true, Bool.not_false, not_true_eq_false, not_false_eq_true, List.length_append, List.length_cons, List.length_nil, List.length_take, List.length_drop, List.length_set, List.length_replicate] <;> omega) | omega) (by omega) (by omega)
/-- The loop that moves what stays: c rows go. -/
theorem del_l0 (H : St3 r m S x1 x2 x3) (c : Nat) (hd : Int) (hhd : hd = ((m + c : Nat) : Int)) (hc : 1 ≤ c) (hcl : c ≤ S.length - m) : ∀ (d j : Nat) (v w : Int) (L : List (Int × ByteArray)), v = (j : Int) → w = ((j - c : Nat) : Int) → S.length - m - j = d → 1 ≤ j → j ≤ S.length - m → L.length = S.length - m →
    L.drop j = x2.drop j → L.take (j - c) = (x2.drop c).take (j - c) →
    ∃ L', L'.length = S.length - m ∧ L'.take (S.length - m - c) = x2.drop c ∧ P_slices_DeleteFunc_l0 x2 hd v w L = some (((S.length - m - c : Nat) : Int), L') := by
  have hl := H.len; have h1 := H.le; have h2 := H.small; have h3 := H.room
  intro d
  induction d with
  | zero =>
    intro j v w L hv hw hd hj1 hj hL hdr htk
    have hjj : j = S.length - m := by omega
    subst hjj
    refine ⟨L, hL, ?_, ?_⟩
    · rw [htk, List.take_of_length_le]
      rw [List.length_drop, hl]; exact Nat.le_refl _
    · rw [P_slices_DeleteFunc_l0_eq]
      repeat (first | refine (if_pos (by first | with_reducible rfl | assumption | (simp (disch := omega) only [ltI_iff, eqI_iff, eqS_iff, eqB_iff, inI_iff, leI_iff, capI_iff, isZ_iff, eqN_iff, roomI_iff, nI_def, ssz_def, tN_def, iadd64, isub64, imul64, conv64, Bool.not_eq_true', ← Bool.not_eq_true, Bool.not_eq_eq_eq_not, Bool.not_true, Bool.not_false, not_true_eq_false, not_false_eq_true, List.length_append, List.length_cons, List.length_nil, List.length_take, List.length_drop, List.length_set, List.length_replicate, hl] <;> omega) | omega)).trans ?_ | refine (if_neg (by first | with_reducible rfl | assumption | (simp (disch := omega) only [ltI_iff, eqI_iff, eqS_iff, eqB_iff, inI_iff, leI_iff, capI_iff, isZ_iff, eqN_iff, roomI_iff, nI_def, ssz_def, tN_def, iadd64, isub64, imul64, conv64, Bool.not_eq_true', ← Bool.not_eq_true, Bool.not_eq_eq_eq_not, Bool.not_true, Bool.not_false, not_true_eq_false, not_false_eq_true, List.length_append, List.length_cons, List.length_nil, List.length_take, List.length_drop, List.length_set, List.length_replicate, hl] <;> omega) | omega)).trans ?_ | refine Eq.trans (Sum.elim_inl _ _ _) ?_ | refine Eq.trans (Sum.elim_inr _ _ _) ?_)
      rw [hw]
  | succ d ih =>
    intro j v w L hv hw hd hj1 hj hL hdr htk
    have gw := H.get (i := j) (by omega)
    have gL : L[j]? = some (((m + j : Nat) : Int), S[m + j]) := by
      have e1 : (L.drop j)[0]? = L[j]? := by rw [List.getElem?_drop]; rfl
      have e2 : (x2.drop j)[0]? = x2[j]? := by rw [List.getElem?_drop]; rfl
      rw [← e1, hdr, e2, gw]
    by_cases hk : j < c
    · have hz : j - c = 0 := by omega
      have hz2 : j + 1 - c = 0 := by omega
      obtain ⟨L', q1, q2, q3⟩ := ih (j + 1) (iadd .i64 v 1) w L (by first | with_reducible rfl | assumption | (simp (disch := omega) only [ltI_iff, eqI_iff, eqS_iff, eqB_iff, inI_iff, leI_iff, capI_iff, isZ_iff, eqN_iff, roomI_iff, nI_def, ssz_def, tN_def, iadd64, isub64, imul64, conv64, Bool.not_eq_true', ← Bool.not_eq_true, Bool.not_eq_eq_eq_not, Bool.not_true, Bool.not_false, not_true_eq_false, not_false_eq_true, List.length_append, List.length_cons, List.length_nil, List.length_take, List.length_drop, List.length_set, List.length_replicate] <;> omega) | omega) (by omega) (by omega) (by omega) (by omega) hL (by
        rw [← List.drop_drop, ← List.drop_drop, hdr] ) (by rw [hz2]; simp)
      refine ⟨L', q1, q2, ?_⟩
      rw [P_slices_DeleteFunc_l0_eq]
      repeat (first | refine (if_pos (by first | with_reducible rfl | assumption | (simp (disch := omega) only [ltI_iff, eqI_iff, eqS_iff, eqB_iff, inI_iff, leI_iff, capI_iff, isZ_iff, eqN_iff, roomI_iff, nI_def, ssz_def, tN_def, iadd64, isub64, imul64, conv64, Bool.not_eq_true', ← Bool.not_eq_true, Bool.not_eq_eq_eq_not, Bool.not_true, Bool.not_false, not_true_eq_false, not_false_eq_true, List.length_append, List.length_cons, List.length_nil, List.length_take, List.length_drop, List.length_set, List.length_replicate, hl] <;> omega) | omega)).trans ?_ | refine (if_neg (by first | with_reducible rfl | assumption | (simp (disch := omega) only [ltI_iff, eqI_iff, eqS_iff, eqB_iff, inI_iff, leI_iff, capI_iff, isZ_iff, eqN_iff, roomI_iff, nI_def, ssz_def, tN_def, iadd64, isub64, imul64, conv64, Bool.not_eq_true', ← Bool.not_eq_true, Bool.not_eq_eq_eq_not, Bool.not_true, Bool.not_false, not_true_eq_false, not_false_eq_true, List.length_append, List.length_cons, List.length_nil, List.length_take, List.length_drop, List.length_set, List.length_replicate, hl] <;> omega) | omega)).trans ?_ | refine (bnd (getn hv gL)).trans ?_ | refine Eq.trans (Sum.elim_inl _ _ _) ?_ | refine Eq.trans (Sum.elim_inr _ _ _) ?_)
      exact q3
    · have hi : j - c < L.length := by omega
      obtain ⟨L', q1, q2, q3⟩ := ih (j + 1) (iadd .i64 v 1) (iadd .i64 w 1) (L.set (tN w) (((m + j : Nat) : Int), S[m + j])) (by first | with_reducible rfl | assumption | (simp (disch := omega) only [ltI_iff, eqI_iff, eqS_iff, eqB_iff, inI_iff, leI_iff, capI_iff, isZ_iff, eqN_iff, roomI_iff, nI_def, ssz_def, tN_def, iadd64, isub64, imul64, conv64, Bool.not_eq_true', ← Bool.not_eq_true, Bool.not_eq_eq_eq_not, Bool.not_true, Bool.not_false, not_true_eq_false, not_false_eq_true, List.length_append, List.length_cons, List.length_nil, List.length_take, List.length_drop, List.length_set, List.length_replicate] <;> omega) | omega) (by first | with_reducible rfl | assumption | (simp (disch := omega) only [ltI_iff, eqI_iff, eqS_iff, eqB_iff, inI_iff, leI_iff, capI_iff, isZ_iff, eqN_iff, roomI_iff, nI_def, ssz_def, tN_def, iadd64, isub64, imul64, conv64, Bool.not_eq_true', ← Bool.not_eq_true, Bool.not_eq_eq_eq_not, Bool.not_true, Bool.not_false, not_true_eq_false, not_false_eq_true, List.length_append, List.length_cons, List.length_nil, List.length_take, List.length_drop, List.length_set, List.length_replicate] <;> omega) | omega) (by omega) (by omega) (by omega) (by simpa using hL) (by
        rw [hw, tN_nat, List.drop_set_of_lt (by omega), ← List.drop_drop, ← List.drop_drop, hdr]) (by
        have e5 : j + 1 - c = (j - c) + 1 := by omega
        have hwl : j - c < (x2.drop c).length := by rw [List.length_drop, hl]; omega
        have hx : (x2.drop c)[j - c]? = some (((m + j : Nat) : Int), S[m + j]) := by
          rw [List.getElem?_drop, show c + (j - c) = j by omega, gw]
        rw [e5, List.take_add_one, List.take_add_one, hx, hw, tN_nat, List.take_set_of_le (by omega), htk, List.getElem?_set_self hi])
      refine ⟨L', q1, q2, ?_⟩
      rw [P_slices_DeleteFunc_l0_eq]
      repeat (first | refine (if_pos (by first | with_reducible rfl | assumption | (simp (disch := omega) only [ltI_iff, eqI_iff, eqS_iff, eqB_iff, inI_iff, leI_iff, capI_iff, isZ_iff, eqN_iff, roomI_iff, nI_def, ssz_def, tN_def, iadd64, isub64, imul64, conv64, Bool.not_eq_true', ← Bool.not_eq_true, Bool.not_eq_eq_eq_not, Bool.not_true, Bool.not_false, not_true_eq_false, not_false_eq_true, List.length_append, List.length_cons, List.length_nil, List.length_take, List.length_drop, List.length_set, List.length_replicate, hl] <;> omega) | omega)).trans ?_ | refine (if_neg (by first | with_reducible rfl | assumption | (simp (disch := omega) only [ltI_iff, eqI_iff, eqS_iff, eqB_iff, inI_iff, leI_iff, capI_iff, isZ_iff, eqN_iff, roomI_iff, nI_def, ssz_def, tN_def, iadd64, isub64, imul64, conv64, Bool.not_eq_true', ← Bool.not_eq_true, Bool.not_eq_eq_eq_not, Bool.not_true, Bool.not_false, not_true_eq_false, not_false_eq_true, List.length_append, List.length_cons, List.length_nil, List.length_take, List.length_drop, List.length_set, List.length_replicate, hl] <;> omega) | omega)).trans ?_ | refine (bnd (getn hv gL)).trans ?_ | refine (bnd (geti hw hi)).trans ?_ | refine Eq.trans (Sum.elim_inl _ _ _) ?_ | refine Eq.trans (Sum.elim_inr _ _ _) ?_)
      exact q3

/-- Acked: what was heard waits no more. -/
theorem St3.less (H : St3 r m S x1 x2 x3) {h : Nat} (hh : h ≤ S.length) : St3 r (max m h) S x1 (x2.drop (h - m)) x3 := by
  have h1 := H.le; have h3 := H.room
  refine ⟨⟨by omega, H.small, by omega, H.r1, H.r2, H.size⟩, H.e1, ?_, H.e3⟩
  rw [H.e2, numW_drop m (S.drop m) (h - m) (by rw [List.length_drop]; omega), List.drop_drop, show m + (h - m) = max m h by omega]
theorem ack_ok (H : St3 r m S x1 x2 x3) {h : Nat} {x4 : Int} (hx : x4 = (h : Int)) (hh : h ≤ S.length) : P_party_Acked x1 x2 x3 x4 = some (x1, x2.drop (h - m), x3, 0) := by
  have hl := H.len; have h1 := H.le; have h2 := H.small; have h3 := H.room; have h4 := H.e1
  by_cases hm : h ≤ m
  · have hz : h - m = 0 := by omega
    have hi : P_slices_IndexFunc x2 x4 = some (-1) := by
      rw [P_slices_IndexFunc_eq]
      repeat (first | refine (if_pos (by first | with_reducible rfl | assumption | (simp (disch := omega) only [ltI_iff, eqI_iff, eqS_iff, eqB_iff, inI_iff, leI_iff, capI_iff, isZ_iff, eqN_iff, roomI_iff, nI_def, ssz_def, tN_def, iadd64, isub64, imul64, conv64, Bool.not_eq_true', ← Bool.not_eq_true, Bool.not_eq_eq_eq_not, Bool.not_true, Bool.not_false, not_true_eq_false, not_false_eq_true, List.length_append, List.length_cons, List.length_nil, List.length_take, List.length_drop, List.length_set, List.length_replicate] <;> omega) | omega)).trans ?_ | refine (if_neg (by first | with_reducible rfl | assumption | (simp (disch := omega) only [ltI_iff, eqI_iff, eqS_iff, eqB_iff, inI_iff, leI_iff, capI_iff, isZ_iff, eqN_iff, roomI_iff, nI_def, ssz_def, tN_def, iadd64, isub64, imul64, conv64, Bool.not_eq_true', ← Bool.not_eq_true, Bool.not_eq_eq_eq_not, Bool.not_true, Bool.not_false, not_true_eq_false, not_false_eq_true, List.length_append, List.length_cons, List.length_nil, List.length_take, List.length_drop, List.length_set, List.length_replicate] <;> omega) | omega)).trans ?_ | refine (bnd (idx_none H (by omega) _ 0 0 rfl rfl (by omega))).trans ?_ | refine Eq.trans (Sum.elim_inl _ _ _) ?_ | refine Eq.trans (Sum.elim_inr _ _ _) ?_)
      rfl
    have hdl : P_slices_DeleteFunc x2 x4 = some (x2.length, x2) := by
      rw [P_slices_DeleteFunc_eq]
      repeat (first | refine (if_pos (by first | with_reducible rfl | assumption | (simp (disch := omega) only [ltI_iff, eqI_iff, eqS_iff, eqB_iff, inI_iff, leI_iff, capI_iff, isZ_iff, eqN_iff, roomI_iff, nI_def, ssz_def, tN_def, iadd64, isub64, imul64, conv64, Bool.not_eq_true', ← Bool.not_eq_true, Bool.not_eq_eq_eq_not, Bool.not_true, Bool.not_false, not_true_eq_false, not_false_eq_true, List.length_append, List.length_cons, List.length_nil, List.length_take, List.length_drop, List.length_set, List.length_replicate] <;> omega) | omega)).trans ?_ | refine (if_neg (by first | with_reducible rfl | assumption | (simp (disch := omega) only [ltI_iff, eqI_iff, eqS_iff, eqB_iff, inI_iff, leI_iff, capI_iff, isZ_iff, eqN_iff, roomI_iff, nI_def, ssz_def, tN_def, iadd64, isub64, imul64, conv64, Bool.not_eq_true', ← Bool.not_eq_true, Bool.not_eq_eq_eq_not, Bool.not_true, Bool.not_false, not_true_eq_false, not_false_eq_true, List.length_append, List.length_cons, List.length_nil, List.length_take, List.length_drop, List.length_set, List.length_replicate] <;> omega) | omega)).trans ?_ | refine (bnd hi).trans ?_ | refine Eq.trans (Sum.elim_inl _ _ _) ?_ | refine Eq.trans (Sum.elim_inr _ _ _) ?_)
      rfl
    rw [P_party_Acked_eq]
    repeat (first | refine (if_pos (by first | with_reducible rfl | assumption | (simp (disch := omega) only [ltI_iff, eqI_iff, eqS_iff, eqB_iff, inI_iff, leI_iff, capI_iff, isZ_iff, eqN_iff, roomI_iff, nI_def, ssz_def, tN_def, iadd64, isub64, imul64, conv64, Bool.not_eq_true', ← Bool.not_eq_true, Bool.not_eq_eq_eq_not, Bool.not_true, Bool.not_false, not_true_eq_false, not_false_eq_true, List.length_append, List.length_cons, List.length_nil, List.length_take, List.length_drop, List.length_set, List.length_replicate, hl, h4] <;> omega) | omega)).trans ?_ | refine (if_neg (by first | with_reducible rfl | assumption | (simp (disch := omega) only [ltI_iff, eqI_iff, eqS_iff, eqB_iff, inI_iff, leI_iff, capI_iff, isZ_iff, eqN_iff, roomI_iff, nI_def, ssz_def, tN_def, iadd64, isub64, imul64, conv64, Bool.not_eq_true', ← Bool.not_eq_true, Bool.not_eq_eq_eq_not, Bool.not_true, Bool.not_false, not_true_eq_false, not_false_eq_true, List.length_append, List.length_cons, List.length_nil, List.length_take, List.length_drop, List.length_set, List.length_replicate, hl, h4] <;> omega) | omega)).trans ?_ | refine (bnd (clone_ok x2 (by omega))).trans ?_ | refine (bnd (right_ok H)).trans ?_ | refine (bnd hdl).trans ?_ | refine Eq.trans (Sum.elim_inl _ _ _) ?_ | refine Eq.trans (Sum.elim_inr _ _ _) ?_)
    rw [hz, List.take_length]; rfl
  · obtain ⟨c, rfl⟩ : ∃ c, h = m + c := ⟨h - m, by omega⟩
    have g := H.get (i := 0) (by omega)
    have hi : P_slices_IndexFunc x2 x4 = some 0 := by
      have : P_slices_IndexFunc_l0 x2 x4 0 = some (.inr 0) := by
        rw [P_slices_IndexFunc_l0_eq]
        repeat (first | refine (if_pos (by first | with_reducible rfl | assumption | (simp (disch := omega) only [ltI_iff, eqI_iff, eqS_iff, eqB_iff, inI_iff, leI_iff, capI_iff, isZ_iff, eqN_iff, roomI_iff, nI_def, ssz_def, tN_def, iadd64, isub64, imul64, conv64, Bool.not_eq_true', ← Bool.not_eq_true, Bool.not_eq_eq_eq_not, Bool.not_true, Bool.not_false, not_true_eq_false, not_false_eq_true, List.length_append, List.length_cons, List.length_nil, List.length_take, List.length_drop, List.length_set, List.length_replicate, hl] <;> omega) | omega)).trans ?_ | refine (if_neg (by first | with_reducible rfl | assumption | (simp (disch := omega) only [ltI_iff, eqI_iff, eqS_iff, eqB_iff, inI_iff, leI_iff, capI_iff, isZ_iff, eqN_iff, roomI_iff, nI_def, ssz_def, tN_def, iadd64, isub64, imul64, conv64, Bool.not_eq_true', ← Bool.not_eq_true, Bool.not_eq_eq_eq_not, Bool.not_true, Bool.not_false, not_true_eq_false, not_false_eq_true, List.length_append, List.length_cons, List.length_nil, List.length_take, List.length_drop, List.length_set, List.length_replicate, hl] <;> omega) | omega)).trans ?_ | refine (bnd (getn (i := 0) rfl g)).trans ?_ | refine Eq.trans (Sum.elim_inl _ _ _) ?_ | refine Eq.trans (Sum.elim_inr _ _ _) ?_)
        rfl
      rw [P_slices_IndexFunc_eq]
      repeat (first | refine (if_pos (by first | with_reducible rfl | assumption | (simp (disch := omega) only [ltI_iff, eqI_iff, eqS_iff, eqB_iff, inI_iff, leI_iff, capI_iff, isZ_iff, eqN_iff, roomI_iff, nI_def, ssz_def, tN_def, iadd64, isub64, imul64, conv64, Bool.not_eq_true', ← Bool.not_eq_true, Bool.not_eq_eq_eq_not, Bool.not_true, Bool.not_false, not_true_eq_false, not_false_eq_true, List.length_append, List.length_cons, List.length_nil, List.length_take, List.length_drop, List.length_set, List.length_replicate] <;> omega) | omega)).trans ?_ | refine (if_neg (by first | with_reducible rfl | assumption | (simp (disch := omega) only [ltI_iff, eqI_iff, eqS_iff, eqB_iff, inI_iff, leI_iff, capI_iff, isZ_iff, eqN_iff, roomI_iff, nI_def, ssz_def, tN_def, iadd64, isub64, imul64, conv64, Bool.not_eq_true', ← Bool.not_eq_true, Bool.not_eq_eq_eq_not, Bool.not_true, Bool.not_false, not_true_eq_false, not_false_eq_true, List.length_append, List.length_cons, List.length_nil, List.length_take, List.length_drop, List.length_set, List.length_replicate] <;> omega) | omega)).trans ?_ | refine (bnd this).trans ?_ | refine Eq.trans (Sum.elim_inl _ _ _) ?_ | refine Eq.trans (Sum.elim_inr _ _ _) ?_)
      rfl
    obtain ⟨L', q1, q2, q3⟩ := del_l0 H c x4 hx (by omega) (by omega) (S.length - m - 1) 1 (iadd .i64 0 1) 0 x2 (by first | with_reducible rfl | assumption | (simp (disch := omega) only [ltI_iff, eqI_iff, eqS_iff, eqB_iff, inI_iff, leI_iff, capI_iff, isZ_iff, eqN_iff, roomI_iff, nI_def, ssz_def, tN_def, iadd64, isub64, imul64, conv64, Bool.not_eq_true', ← Bool.not_eq_true, Bool.not_eq_eq_eq_not, Bool.not_true, Bool.not_false, not_true_eq_false, not_false_eq_true, List.length_append, List.length_cons, List.length_nil, List.length_take, List.length_drop, List.length_set, List.length_replicate] <;> omega) | omega) (by first | with_reducible rfl | assumption | (simp (disch := omega) only [ltI_iff, eqI_iff, eqS_iff, eqB_iff, inI_iff, leI_iff, capI_iff, isZ_iff, eqN_iff, roomI_iff, nI_def, ssz_def, tN_def, iadd64, isub64, imul64, conv64, Bool.not_eq_true', ← Bool.not_eq_true, Bool.not_eq_eq_eq_not, Bool.not_true, Bool.not_false, not_true_eq_false, not_false_eq_true, List.length_append, List.length_cons, List.length_nil, List.length_take, List.length_drop, List.length_set, List.length_replicate] <;> omega) | omega) rfl (by omega) (by omega) hl rfl (by rw [show 1 - c = 0 by omega]; simp)
    have hdl : P_slices_DeleteFunc x2 x4 = some (S.length - m - c, L'.take (S.length - m - c) ++ List.replicate (x2.length - (S.length - m - c)) (0, ByteArray.mk #[])) := by
      rw [P_slices_DeleteFunc_eq]
      have e : x2.length - (S.length - m - c) + (S.length - m - c) = x2.length := by omega
      repeat (first | refine (if_pos (by first | with_reducible rfl | assumption | (simp (disch := omega) only [ltI_iff, eqI_iff, eqS_iff, eqB_iff, inI_iff, leI_iff, capI_iff, isZ_iff, eqN_iff, roomI_iff, nI_def, ssz_def, tN_def, iadd64, isub64, imul64, conv64, Bool.not_eq_true', ← Bool.not_eq_true, Bool.not_eq_eq_eq_not, Bool.not_true, Bool.not_false, not_true_eq_false, not_false_eq_true, List.length_append, List.length_cons, List.length_nil, List.length_take, List.length_drop, List.length_set, List.length_replicate, hl, q1] <;> omega) | omega)).trans ?_ | refine (if_neg (by first | with_reducible rfl | assumption | (simp (disch := omega) only [ltI_iff, eqI_iff, eqS_iff, eqB_iff, inI_iff, leI_iff, capI_iff, isZ_iff, eqN_iff, roomI_iff, nI_def, ssz_def, tN_def, iadd64, isub64, imul64, conv64, Bool.not_eq_true', ← Bool.not_eq_true, Bool.not_eq_eq_eq_not, Bool.not_true, Bool.not_false, not_true_eq_false, not_false_eq_true, List.length_append, List.length_cons, List.length_nil, List.length_take, List.length_drop, List.length_set, List.length_replicate, hl, q1] <;> omega) | omega)).trans ?_ | refine (bnd hi).trans ?_ | refine (bnd q3).trans ?_ | refine Eq.trans (Sum.elim_inl _ _ _) ?_ | refine Eq.trans (Sum.elim_inr _ _ _) ?_)
      have e2 : List.drop (S.length - m - c + (x2.length - (S.length - m - c))) L' = [] := List.drop_of_length_le (by omega)
      simp only [tN_nat, e2, List.append_nil]
    have hlen : (L'.take (S.length - m - c)).length = S.length - m - c := by rw [List.length_take, q1]; omega
    rw [P_party_Acked_eq]
    repeat (first | refine (if_pos (by first | with_reducible rfl | assumption | (simp (disch := omega) only [ltI_iff, eqI_iff, eqS_iff, eqB_iff, inI_iff, leI_iff, capI_iff, isZ_iff, eqN_iff, roomI_iff, nI_def, ssz_def, tN_def, iadd64, isub64, imul64, conv64, Bool.not_eq_true', ← Bool.not_eq_true, Bool.not_eq_eq_eq_not, Bool.not_true, Bool.not_false, not_true_eq_false, not_false_eq_true, List.length_append, List.length_cons, List.length_nil, List.length_take, List.length_drop, List.length_set, List.length_replicate, hl, h4, q1] <;> omega) | omega)).trans ?_ | refine (if_neg (by first | with_reducible rfl | assumption | (simp (disch := omega) only [ltI_iff, eqI_iff, eqS_iff, eqB_iff, inI_iff, leI_iff, capI_iff, isZ_iff, eqN_iff, roomI_iff, nI_def, ssz_def, tN_def, iadd64, isub64, imul64, conv64, Bool.not_eq_true', ← Bool.not_eq_true, Bool.not_eq_eq_eq_not, Bool.not_true, Bool.not_false, not_true_eq_false, not_false_eq_true, List.length_append, List.length_cons, List.length_nil, List.length_take, List.length_drop, List.length_set, List.length_replicate, hl, h4, q1] <;> omega) | omega)).trans ?_ | refine (bnd (clone_ok x2 (by omega))).trans ?_ | refine (bnd (right_ok H)).trans ?_ | refine (bnd hdl).trans ?_ | refine Eq.trans (Sum.elim_inl _ _ _) ?_ | refine Eq.trans (Sum.elim_inr _ _ _) ?_)
    rw [List.take_append_of_le_length (by rw [hlen]; exact Nat.le_refl _), List.take_of_length_le (by rw [hlen]; exact Nat.le_refl _), q2, Nat.add_sub_cancel_left]
end
end Go.Ws
