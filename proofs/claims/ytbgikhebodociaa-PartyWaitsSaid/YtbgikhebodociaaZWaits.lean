/-
  PartyWaits, plain: what the law's plain function answers is true, whatever texts and numbers come.
  Conditions: none.
-/
import Derived.Test.YtbgikhebodociaaZPure
import Derived.Test.YtbgikhebodociaaZB2
set_option linter.unusedVariables false
set_option linter.unusedSimpArgs false
namespace Go.Ws
set_option linter.unusedVariables false
set_option linter.unusedSimpArgs false
set_option maxHeartbeats 1000000

/-- Texts, numbered from m on. -/
def numW (m : Nat) : List ByteArray → List (Int × ByteArray)
  | [] => []
  | s :: l => ((m : Int), s) :: numW (m + 1) l
theorem numW_length : ∀ (m : Nat) (l : List ByteArray), (numW m l).length = l.length
  | _, [] => rfl
  | m, s :: l => by simp [numW, numW_length (m + 1) l]
theorem numW_get : ∀ (m : Nat) (l : List ByteArray) (i : Nat), (numW m l)[i]? = (l[i]?).map fun s => (((m + i : Nat) : Int), s)
  | _, [], i => by simp [numW]
  | m, s :: l, 0 => by simp [numW]
  | m, s :: l, i + 1 => by
    simp only [numW, List.getElem?_cons_succ, numW_get (m + 1) l i]
    congr 1
    funext x
    rw [show m + 1 + i = m + (i + 1) by omega]
theorem numW_append : ∀ (m : Nat) (l : List ByteArray) (s : ByteArray), numW m (l ++ [s]) = numW m l ++ [(((m + l.length : Nat) : Int), s)]
  | m, [], s => by simp [numW]
  | m, a :: l, s => by
    simp only [List.cons_append, numW, numW_append (m + 1) l s, List.length_cons]
    rw [show m + 1 + l.length = m + (l.length + 1) by omega]
theorem numW_drop : ∀ (m : Nat) (l : List ByteArray) (d : Nat), d ≤ l.length → (numW m l).drop d = numW (m + d) (l.drop d)
  | m, l, 0, _ => rfl
  | m, [], d + 1, h => by simp at h
  | m, a :: l, d + 1, h => by
    simp only [numW, List.drop_succ_cons]
    rw [numW_drop (m + 1) l d (by simpa using h), show m + 1 + d = m + (d + 1) by omega]

theorem get_of {l : List ByteArray} {i : Nat} (h : i < l.length) : l[i]? = some l[i] := List.getElem?_eq_getElem h

/-- The state of who says: S was said, m of it heard. -/
structure Ok (m : Nat) (S : List ByteArray) : Prop where
  le : m ≤ S.length
  small : S.length ≤ 1000000
  room : S.length - m ≤ 100
  size : ∀ s ∈ S, (s.size : Int) ≤ 500

theorem right_l0 {m : Nat} {S : List ByteArray} (H : Ok m S) : ∀ (d i : Nat), S.length - m - i = d → i ≤ S.length - m → Evp (fun k => party_Right_l0 k (S.length : Int) (numW m (S.drop m)) (i : Int)) (.inl ()) := by
  have hl : (numW m (S.drop m)).length = S.length - m := by rw [numW_length, List.length_drop]
  have h1 := H.le; have h2 := H.small; have h3 := H.room
  intro d
  induction d with
  | zero =>
    intro i hd hi
    refine Evp.step (fun k => party_Right_l0.eq_2 ..) ?_
    have c : ¬ (ltI (i : Int) (nI (numW m (S.drop m)).length) = true) := by rw [ltI_iff, nI_def, hl]; omega
    simp only [if_neg c]
    exact .ret _
  | succ d ih =>
    intro i hd hi
    refine Evp.step (fun k => party_Right_l0.eq_2 ..) ?_
    have c : ltI (i : Int) (nI (numW m (S.drop m)).length) = true := by rw [ltI_iff, nI_def, hl]; omega
    have c2 : inI (i : Int) (numW m (S.drop m)).length = true := by rw [inI_iff, hl]; omega
    have hlt : m + i < S.length := by omega
    have g : (numW m (S.drop m))[tN (i : Int)]? = some (((m + i : Nat) : Int), S[m + i]) := by
      rw [tN_nat, numW_get, List.getElem?_drop, get_of hlt]; rfl
    have e1 : isub .i64 (S.length : Int) (nI (numW m (S.drop m)).length) = (m : Int) := by
      rw [nI_def, hl, isub64 (by omega)]; omega
    have e2 : iadd .i64 (m : Int) (i : Int) = ((m + i : Nat) : Int) := by rw [iadd64 (by omega)]; omega
    have e3 : iadd .i64 (i : Int) 1 = ((i + 1 : Nat) : Int) := by rw [iadd64 (by omega)]; omega
    have c4 : ¬ (ltI 500 (ssz S[m + i]) = true) := by
      rw [ltI_iff, ssz_def]
      have := H.size _ (List.getElem_mem hlt)
      omega
    have c3 : eqI (((m + i : Nat) : Int)) (((m + i : Nat) : Int)) = true := eqI_self _
    simp only [if_pos c, if_pos c2, g, Option.bind_some, e1, e2, if_pos c3, if_neg c4, e3]
    exact ih (i + 1) (by omega) (by omega)

theorem num_ok {n : Nat} (h : n ≤ 1000000) : party_numbered (n : Int) = true := by
  unfold party_numbered
  rw [if_neg (by rw [ltI_iff]; omega)]
  simp only [Bool.not_eq_true', ← Bool.not_eq_true, ltI_iff]
  omega

theorem right_ok {m : Nat} {S : List ByteArray} (H : Ok m S) : Evp (fun k => party_Right k (S.length : Int) (numW m (S.drop m)) 100) true := by
  have hl : (numW m (S.drop m)).length = S.length - m := by rw [numW_length, List.length_drop]
  have h1 := H.le; have h2 := H.small; have h3 := H.room
  unfold party_Right
  have c1 : ¬ (ltI 100 1 = true) := by rw [ltI_iff]; omega
  have c2 : ¬ (ltI 100 100 = true) := by rw [ltI_iff]; omega
  have c3 : party_numbered (S.length : Int) = true := num_ok h2
  have c4 : ¬ (ltI 100 (nI (numW m (S.drop m)).length) = true) := by rw [ltI_iff, nI_def, hl]; omega
  have c5 : ¬ (ltI (isub .i64 (S.length : Int) (nI (numW m (S.drop m)).length)) 0 = true) := by
    rw [ltI_iff, nI_def, hl, isub64 (by omega)]; omega
  simp only [if_neg c1, if_neg c2, if_pos c3, if_neg c4, if_neg c5]
  refine Evp.bind (right_l0 H (S.length - m) 0 rfl (by omega)) ?_
  exact .ret _

theorem clone_ok (l : List (Int × ByteArray)) (h : l.length ≤ 1000000) (k : Nat) : slices_Clone_18 k l = some l := by
  unfold slices_Clone_18 cloneP
  rw [if_pos (by rw [roomI_iff]; omega)]

/-- Say: what it answers. -/
def sayA (m : Nat) (S : List ByteArray) (t : ByteArray) : Int × (List (Int × ByteArray)) × Int × Int × ByteArray × Int :=
  if 500 < (t.size : Int) then ((S.length : Int), numW m (S.drop m), 100, 0, ByteArray.mk #[], 3)
  else if S.length - m < 100 then (((S.length + 1 : Nat) : Int), numW m (S.drop m) ++ [((S.length : Int), t)], 100, (S.length : Int), t, 0)
  else ((S.length : Int), numW m (S.drop m), 100, 0, ByteArray.mk #[], 6)
theorem say_ok {m : Nat} {S : List ByteArray} (H : Ok m S) (t : ByteArray) : Evp (fun k => party_Say k (S.length : Int) (numW m (S.drop m)) 100 t) (sayA m S t) := by
  have hl : (numW m (S.drop m)).length = S.length - m := by rw [numW_length, List.length_drop]
  have h1 := H.le; have h2 := H.small; have h3 := H.room
  unfold party_Say sayA
  refine Evp.bind (a := numW m (S.drop m)) (Evp.of (clone_ok _ (by omega))) ?_
  refine Evp.bind (right_ok H) ?_
  simp only [if_true]
  by_cases a : 500 < (t.size : Int)
  · have c : ltI 500 (ssz t) = true := by rw [ltI_iff, ssz_def]; exact a
    simp only [if_pos c, if_pos a]
    exact .ret _
  have c : ¬ (ltI 500 (ssz t) = true) := by rw [ltI_iff, ssz_def]; exact a
  have c2 : ¬ (eqI (S.length : Int) 1048576 = true) := by rw [eqI_iff]; omega
  by_cases b : S.length - m < 100
  · have c3 : ltI (nI (numW m (S.drop m)).length) 100 = true := by rw [ltI_iff, nI_def, hl]; omega
    have c4 : roomI (((numW m (S.drop m)).length + 1) * 24) = true := by rw [roomI_iff, hl]; omega
    have e : iadd .i64 (S.length : Int) 1 = ((S.length + 1 : Nat) : Int) := by rw [iadd64 (by omega)]; omega
    simp only [if_neg c, if_neg a, if_neg c2, if_pos c3, if_pos c4, if_pos b, e]
    exact .ret _
  · have c3 : ¬ (ltI (nI (numW m (S.drop m)).length) 100 = true) := by rw [ltI_iff, nI_def, hl]; omega
    simp only [if_neg c, if_neg a, if_neg c2, if_neg c3, if_neg b]
    exact .ret _

/-! ### Acked -/
theorem acked_at (x2 a : Int) (s : ByteArray) : (party_Acked_1 x2 a s = true) = (a < x2) := by
  unfold party_Acked_1
  rw [ltI_iff]

theorem idx_none {m : Nat} {S : List ByteArray} (H : Ok m S) (hd : Int) (hh : hd ≤ m) : ∀ (d i : Nat), S.length - m - i = d → i ≤ S.length - m → Evp (fun k => slices_IndexFunc_l0 k (numW m (S.drop m)) hd (i : Int)) (.inl ()) := by
  have hl : (numW m (S.drop m)).length = S.length - m := by rw [numW_length, List.length_drop]
  have h1 := H.le; have h2 := H.small; have h3 := H.room
  intro d
  induction d with
  | zero =>
    intro i h hi
    refine Evp.step (fun k => slices_IndexFunc_l0.eq_2 ..) ?_
    have c : ¬ (ltI (i : Int) (nI (numW m (S.drop m)).length) = true) := by rw [ltI_iff, nI_def, hl]; omega
    simp only [if_neg c]
    exact .ret _
  | succ d ih =>
    intro i h hi
    refine Evp.step (fun k => slices_IndexFunc_l0.eq_2 ..) ?_
    have c : ltI (i : Int) (nI (numW m (S.drop m)).length) = true := by rw [ltI_iff, nI_def, hl]; omega
    have c2 : inI (i : Int) (numW m (S.drop m)).length = true := by rw [inI_iff, hl]; omega
    have hlt : m + i < S.length := by omega
    have g : (numW m (S.drop m))[tN (i : Int)]? = some (((m + i : Nat) : Int), S[m + i]) := by
      rw [tN_nat, numW_get, List.getElem?_drop, get_of hlt]; rfl
    have c3 : ¬ (party_Acked_1 hd ((m + i : Nat) : Int) S[m + i] = true) := by rw [acked_at]; omega
    have e3 : iadd .i64 (i : Int) 1 = ((i + 1 : Nat) : Int) := by rw [iadd64 (by omega)]; omega
    simp only [if_pos c, if_pos c2, g, Option.bind_some, if_neg c3, e3]
    exact ih (i + 1) (by omega) (by omega)

/-- The loop that moves what stays: c rows go. -/
theorem del_l0 {m : Nat} {S : List ByteArray} (H : Ok m S) (c : Nat) (hc : 1 ≤ c) (hcl : c ≤ S.length - m) : ∀ (d j : Nat) (L : List (Int × ByteArray)), S.length - m - j = d → 1 ≤ j → j ≤ S.length - m → L.length = S.length - m →
    L.drop j = (numW m (S.drop m)).drop j → L.take (j - c) = ((numW m (S.drop m)).drop c).take (j - c) →
    ∃ L', L'.length = S.length - m ∧ L'.take (S.length - m - c) = (numW m (S.drop m)).drop c ∧ Evp (fun k => slices_DeleteFunc_l0 k ((m + c : Nat) : Int) (j : Int) ((j - c : Nat) : Int) L) (((S.length - m - c : Nat) : Int), L') := by
  have hl : (numW m (S.drop m)).length = S.length - m := by rw [numW_length, List.length_drop]
  have h1 := H.le; have h2 := H.small; have h3 := H.room
  intro d
  induction d with
  | zero =>
    intro j L hd hj1 hj hL hdr htk
    have hjj : j = S.length - m := by omega
    subst hjj
    refine ⟨L, hL, ?_, ?_⟩
    · rw [htk, List.take_of_length_le]
      rw [List.length_drop, hl]; exact Nat.le_refl _
    · refine Evp.step (fun k => slices_DeleteFunc_l0.eq_2 ..) ?_
      have c1 : ¬ (ltI ((S.length - m : Nat) : Int) (nI L.length) = true) := by rw [ltI_iff, nI_def, hL]; omega
      simp only [if_neg c1]
      exact .ret _
  | succ d ih =>
    intro j L hd hj1 hj hL hdr htk
    have hlt : m + j < S.length := by omega
    have hjl : j < L.length := by omega
    have gw : (numW m (S.drop m))[j]? = some (((m + j : Nat) : Int), S[m + j]) := by
      rw [numW_get, List.getElem?_drop, get_of hlt]; rfl
    have gL : L[j]? = some (((m + j : Nat) : Int), S[m + j]) := by
      have e1 : (L.drop j)[0]? = L[j]? := by rw [List.getElem?_drop]; rfl
      have e2 : ((numW m (S.drop m)).drop j)[0]? = (numW m (S.drop m))[j]? := by rw [List.getElem?_drop]; rfl
      rw [← e1, hdr, e2, gw]
    have c1 : ltI (j : Int) (nI L.length) = true := by rw [ltI_iff, nI_def, hL]; omega
    have c2 : inI (j : Int) L.length = true := by rw [inI_iff, hL]; omega
    have g : L[tN (j : Int)]? = some (((m + j : Nat) : Int), S[m + j]) := by rw [tN_nat, gL]
    have e3 : iadd .i64 (j : Int) 1 = ((j + 1 : Nat) : Int) := by rw [iadd64 (by omega)]; omega
    by_cases hk : j < c
    · have c3 : party_Acked_1 ((m + c : Nat) : Int) ((m + j : Nat) : Int) S[m + j] = true := by rw [acked_at]; omega
      have hz : j - c = 0 := by omega
      have hz2 : j + 1 - c = 0 := by omega
      obtain ⟨L', q1, q2, q3⟩ := ih (j + 1) L (by omega) (by omega) (by omega) hL (by
        rw [← List.drop_drop, ← List.drop_drop, hdr] ) (by rw [hz2]; simp)
      refine ⟨L', q1, q2, ?_⟩
      refine Evp.step (fun k => slices_DeleteFunc_l0.eq_2 ..) ?_
      simp only [if_pos c1, if_pos c2, g, Option.bind_some, if_pos c3, e3]
      rw [hz2] at q3
      rw [hz]
      exact q3
    · have c3 : ¬ (party_Acked_1 ((m + c : Nat) : Int) ((m + j : Nat) : Int) S[m + j] = true) := by rw [acked_at]; omega
      have hi : j - c < L.length := by omega
      have c4 : inI ((j - c : Nat) : Int) L.length = true := by rw [inI_iff]; omega
      have g2 : L[tN ((j - c : Nat) : Int)]? = some L[j - c] := by rw [tN_nat]; exact List.getElem?_eq_getElem hi
      have e4 : iadd .i64 ((j - c : Nat) : Int) 1 = ((j + 1 - c : Nat) : Int) := by rw [iadd64 (by omega)]; omega
      obtain ⟨L', q1, q2, q3⟩ := ih (j + 1) (L.set (j - c) (((m + j : Nat) : Int), S[m + j])) (by omega) (by omega) (by omega) (by simpa using hL) (by
        rw [List.drop_set_of_lt (by omega), ← List.drop_drop, ← List.drop_drop, hdr]) (by
        have e5 : j + 1 - c = (j - c) + 1 := by omega
        have hwl : j - c < ((numW m (S.drop m)).drop c).length := by rw [List.length_drop, hl]; omega
        have hx : ((numW m (S.drop m)).drop c)[j - c]? = some (((m + j : Nat) : Int), S[m + j]) := by
          rw [List.getElem?_drop, show c + (j - c) = j by omega, gw]
        rw [e5, List.take_add_one, List.take_add_one, hx, List.take_set_of_le (by omega), htk, List.getElem?_set_self hi])
      refine ⟨L', q1, q2, ?_⟩
      refine Evp.step (fun k => slices_DeleteFunc_l0.eq_2 ..) ?_
      simp only [if_pos c1, if_pos c2, g, Option.bind_some, if_neg c3, if_pos c4, g2, e3, e4]
      simp only [tN_nat]
      exact q3

theorem drop_more {m : Nat} {S : List ByteArray} (c : Nat) (h : c ≤ S.length - m) : (numW m (S.drop m)).drop c = numW (m + c) (S.drop (m + c)) := by
  rw [numW_drop m (S.drop m) c (by rw [List.length_drop]; exact h), List.drop_drop]

/-- Acked: what was heard waits no more. -/
theorem ack_ok {m : Nat} {S : List ByteArray} (H : Ok m S) (hd : Nat) (hh : hd ≤ S.length) : Evp (fun k => party_Acked k (S.length : Int) (numW m (S.drop m)) 100 (hd : Int)) ((S.length : Int), numW (max m hd) (S.drop (max m hd)), 100, 0) := by
  have hl : (numW m (S.drop m)).length = S.length - m := by rw [numW_length, List.length_drop]
  have h1 := H.le; have h2 := H.small; have h3 := H.room
  unfold party_Acked
  refine Evp.bind (a := numW m (S.drop m)) (Evp.of (clone_ok _ (by omega))) ?_
  refine Evp.bind (right_ok H) ?_
  have c1 : ¬ (ltI (hd : Int) 0 = true) := by rw [ltI_iff]; omega
  have c2 : ¬ (ltI (S.length : Int) (hd : Int) = true) := by rw [ltI_iff]; omega
  simp only [if_true, if_neg c1, if_neg c2]
  by_cases hm : hd ≤ m
  · have hmx : max m hd = m := by omega
    refine Evp.bind (a := (S.length - m, numW m (S.drop m))) ?_ ?_
    · unfold slices_DeleteFunc
      refine Evp.bind (a := -1) ?_ ?_
      · unfold slices_IndexFunc
        refine Evp.bind (idx_none H hd (by omega) (S.length - m) 0 rfl (by omega)) ?_
        exact .ret _
      · simp only [if_pos (eqI_self (-1)), hl]
        exact .ret _
    · have c3 : capI (S.length - m) (numW m (S.drop m)).length = true := by rw [capI_iff, hl]; exact Nat.le_refl _
      simp only [if_pos c3, hmx]
      rw [List.take_of_length_le (by rw [hl]; exact Nat.le_refl _)]
      exact .ret _
  · obtain ⟨c, rfl⟩ : ∃ c, hd = m + c := ⟨hd - m, by omega⟩
    have hmx : max m (m + c) = m + c := by omega
    obtain ⟨L', q1, q2, q3⟩ := del_l0 H c (by omega) (by omega) (S.length - m - 1) 1 (numW m (S.drop m)) rfl (by omega) (by omega) hl rfl (by rw [show 1 - c = 0 by omega]; simp)
    have hlt : m + 0 < S.length := by omega
    have g : (numW m (S.drop m))[tN 0]? = some (((m + 0 : Nat) : Int), S[m + 0]) := by
      show (numW m (S.drop m))[0]? = _
      rw [numW_get, List.getElem?_drop, get_of hlt]; rfl
    have hidx : Evp (fun k => slices_IndexFunc k (numW m (S.drop m)) ((m + c : Nat) : Int)) 0 := by
      unfold slices_IndexFunc
      refine Evp.bind (a := (.inr 0 : Sum Unit Int)) ?_ (Evp.of fun _ => rfl)
      refine Evp.step (fun k => slices_IndexFunc_l0.eq_2 ..) ?_
      have d1 : ltI 0 (nI (numW m (S.drop m)).length) = true := by rw [ltI_iff, nI_def, hl]; omega
      have d2 : inI 0 (numW m (S.drop m)).length = true := by rw [inI_iff, hl]; omega
      have d3 : party_Acked_1 ((m + c : Nat) : Int) ((m + 0 : Nat) : Int) S[m + 0] = true := by rw [acked_at]; omega
      simp only [if_pos d1, if_pos d2, g, Option.bind_some, if_pos d3]
      exact .ret _
    have e0 : iadd .i64 0 1 = ((1 : Nat) : Int) := by rw [iadd64 (by omega)]; rfl
    have hne : ¬ (eqI 0 (-1) = true) := by rw [eqI_iff]; omega
    have q3' : Evp (fun k => slices_DeleteFunc_l0 k ((m + c : Nat) : Int) ((1 : Nat) : Int) 0 (numW m (S.drop m))) (((S.length - m - c : Nat) : Int), L') := by
      have hz : 1 - c = 0 := by omega
      rw [hz] at q3
      exact q3
    refine Evp.bind (a := (S.length - m - c, L'.take (S.length - m - c) ++ List.replicate (S.length - m - (S.length - m - c)) (0, ByteArray.mk #[]))) ?_ ?_
    · unfold slices_DeleteFunc
      refine Evp.bind hidx ?_
      simp only [if_neg hne, e0]
      refine Evp.bind q3' ?_
      have d1 : leI ((S.length - m - c : Nat) : Int) L'.length = true := by rw [leI_iff, q1]; omega
      have d2 : ¬ (isZ (L'.length - tN ((S.length - m - c : Nat) : Int)) = true) := by rw [isZ_iff, tN_nat, q1]; omega
      simp only [if_pos d1, if_neg d2]
      simp only [tN_nat, q1]
      exact .ret _
    · have hlen : (L'.take (S.length - m - c)).length = S.length - m - c := by rw [List.length_take, q1]; omega
      have c3 : capI (S.length - m - c) (L'.take (S.length - m - c) ++ List.replicate (S.length - m - (S.length - m - c)) ((0 : Int), ByteArray.mk #[])).length = true := by
        rw [capI_iff, List.length_append, hlen]; omega
      simp only [if_pos c3, hmx]
      rw [List.take_append_of_le_length (by rw [hlen]; exact Nat.le_refl _), List.take_of_length_le (by rw [hlen]; exact Nat.le_refl _), q2, drop_more c (by omega)]
      exact .ret _

/-! ### The law -/
theorem Ok.more {m : Nat} {S : List ByteArray} (H : Ok m S) (t : ByteArray) (ht : ¬ 500 < (t.size : Int)) (hr : S.length - m < 100) (hs : S.length < 1000000) : Ok m (S ++ [t]) := by
  have h1 := H.le
  refine ⟨by simp; omega, by simp; omega, by simp; omega, fun s hm => ?_⟩
  rcases List.mem_append.1 hm with hm | hm
  · exact H.size s hm
  · simp at hm; subst hm; omega
theorem Ok.less {m : Nat} {S : List ByteArray} (H : Ok m S) (hd : Nat) (h : hd ≤ S.length) : Ok (max m hd) S := by
  have h1 := H.le; have h3 := H.room
  exact ⟨by omega, H.small, by omega, H.size⟩
theorem more_row {m : Nat} {S : List ByteArray} (H : Ok m S) (t : ByteArray) : numW m ((S ++ [t]).drop m) = numW m (S.drop m) ++ [((S.length : Int), t)] := by
  have h1 := H.le
  rw [List.drop_append_of_le_length h1, numW_append, List.length_drop, show m + (S.length - m) = S.length by omega]

theorem check_l1 {x1 : List ByteArray} {x2 : List Int} {v : Int} {m : Nat} {S : List ByteArray} (H : Ok m S) (a b c : Int) (wf : List (Int × ByteArray)) : ∀ (d i : Nat), S.length - m - i = d → i ≤ S.length - m →
    Evp (fun k => law16_PartyWaits_l1 k x1 x2 v (i : Int) (m : Int) (numW m (S.drop m)) (nI (numW m (S.drop m)).length) a wf b S) (.inl (a, wf, b, S)) := by
  have hl : (numW m (S.drop m)).length = S.length - m := by rw [numW_length, List.length_drop]
  have h1 := H.le; have h2 := H.small; have h3 := H.room
  intro d
  induction d with
  | zero =>
    intro i h hi
    refine Evp.step (fun k => law16_PartyWaits_l1.eq_2 ..) ?_
    have c1 : ¬ (ltI (i : Int) (nI (numW m (S.drop m)).length) = true) := by rw [ltI_iff, nI_def, hl]; omega
    simp only [if_neg c1]
    exact .ret _
  | succ d ih =>
    intro i h hi
    refine Evp.step (fun k => law16_PartyWaits_l1.eq_2 ..) ?_
    have c1 : ltI (i : Int) (nI (numW m (S.drop m)).length) = true := by rw [ltI_iff, nI_def, hl]; omega
    have c2 : inI (i : Int) (numW m (S.drop m)).length = true := by rw [inI_iff, hl]; omega
    have hlt : m + i < S.length := by omega
    have g : (numW m (S.drop m))[tN (i : Int)]? = some (((m + i : Nat) : Int), S[m + i]) := by
      rw [tN_nat, numW_get, List.getElem?_drop, get_of hlt]; rfl
    have e2 : iadd .i64 (m : Int) (i : Int) = ((m + i : Nat) : Int) := by rw [iadd64 (by omega)]; omega
    have e3 : iadd .i64 (i : Int) 1 = ((i + 1 : Nat) : Int) := by rw [iadd64 (by omega)]; omega
    have c3 : ltI ((m + i : Nat) : Int) (nI S.length) = true := by rw [ltI_iff, nI_def]; omega
    have c4 : inI ((m + i : Nat) : Int) S.length = true := by rw [inI_iff]; omega
    have g2 : S[tN ((m + i : Nat) : Int)]? = some S[m + i] := by rw [tN_nat]; exact get_of hlt
    have c5 : eqS S[m + i] S[m + i] = true := eqS_iff.2 rfl
    simp only [if_pos c1, if_pos c2, g, Option.bind_some, e2, if_pos c3, if_pos c4, g2, if_pos c5, e3]
    exact ih (i + 1) (by omega) (by omega)

theorem rest_ok {x1 : List ByteArray} {x2 : List Int} (hx2 : ∀ b ∈ x2, 0 ≤ b ∧ b ≤ 255) {i : Nat} {m : Nat} {S : List ByteArray} (H : Ok m S) {P : Sum (Int × (List (Int × ByteArray)) × Int × (List ByteArray)) Bool → Prop}
    (cont : ∀ m', Ok m' S → ∃ R, P R ∧ Evp (fun k => law16_PartyWaits_l0 k x1 x2 (iadd .i64 (i : Int) 1) (S.length : Int) (numW m' (S.drop m')) 100 S) R) :
    ∃ R, P R ∧ Evp (fun k => (if ltI (i : Int) (nI x2.length) = true then (if inI (i : Int) x2.length = true then ((x2[tN (i : Int)]?).bind fun v3 => (if eqI (iadd .i64 (S.length : Int) 1) 0 = true then none else ((party_Acked k (S.length : Int) (numW m (S.drop m)) 100 (irem .i64 (conv .i64 v3) (iadd .i64 (S.length : Int) 1))).bind fun v4 => (if eqI v4.2.2.2 0 = true then (if ltI (nI (numW m (S.drop m)).length) (nI v4.2.1.length) = true then (some (.inr false)) else (if ltI (isub .i64 (S.length : Int) (irem .i64 (conv .i64 v3) (iadd .i64 (S.length : Int) 1))) (nI v4.2.1.length) = true then (some (.inr false)) else ((law16_PartyWaits_l1 k x1 x2 (i : Int) 0 (isub .i64 v4.1 (nI v4.2.1.length)) v4.2.1 (nI v4.2.1.length) v4.1 v4.2.1 v4.2.2.1 S).bind fun v5 => Sum.elim (fun v6 => (law16_PartyWaits_l0 k x1 x2 (iadd .i64 (i : Int) 1) v6.1 v6.2.1 v6.2.2.1 v6.2.2.2)) (fun v6 => (some (.inr v6))) v5))) else (some (.inr false)))))) else none) else ((law16_PartyWaits_l1 k x1 x2 (i : Int) 0 (isub .i64 (S.length : Int) (nI (numW m (S.drop m)).length)) (numW m (S.drop m)) (nI (numW m (S.drop m)).length) (S.length : Int) (numW m (S.drop m)) 100 S).bind fun v3 => Sum.elim (fun v4 => (law16_PartyWaits_l0 k x1 x2 (iadd .i64 (i : Int) 1) v4.1 v4.2.1 v4.2.2.1 v4.2.2.2)) (fun v4 => (some (.inr v4))) v3))) R := by
  have len : ∀ m', m' ≤ S.length → (numW m' (S.drop m')).length = S.length - m' := fun m' _ => by rw [numW_length, List.length_drop]
  have h1 := H.le; have h2 := H.small; have h3 := H.room
  have first : ∀ m', m' ≤ S.length → isub .i64 (S.length : Int) (nI (numW m' (S.drop m')).length) = (m' : Int) := fun m' h => by
    rw [nI_def, len m' h, isub64 (by omega)]; omega
  by_cases hi : i < x2.length
  · have c1 : ltI (i : Int) (nI x2.length) = true := by rw [ltI_iff, nI_def]; omega
    have c2 : inI (i : Int) x2.length = true := by rw [inI_iff]; omega
    have g : x2[tN (i : Int)]? = some x2[i] := by rw [tN_nat]; exact List.getElem?_eq_getElem hi
    have hb := hx2 _ (List.getElem_mem hi)
    have e1 : iadd .i64 (S.length : Int) 1 = ((S.length + 1 : Nat) : Int) := by rw [iadd64 (by omega)]; omega
    have c3 : ¬ (eqI ((S.length + 1 : Nat) : Int) 0 = true) := by rw [eqI_iff]; omega
    obtain ⟨q, hq⟩ : ∃ q : Nat, x2[i] = (q : Int) := ⟨x2[i].toNat, by omega⟩
    have e2 : irem .i64 (conv .i64 x2[i]) ((S.length + 1 : Nat) : Int) = ((q % (S.length + 1) : Nat) : Int) := by
      rw [conv64 (by omega), hq]
      show ((q : Int)).tmod ((S.length + 1 : Nat) : Int) = _
      exact (Int.ofNat_tmod q (S.length + 1)).symm
    have hd : q % (S.length + 1) ≤ S.length := by have := Nat.mod_lt q (show 0 < S.length + 1 by omega); omega
    generalize hdd : q % (S.length + 1) = hd' at e2 hd
    simp only [if_pos c1, if_pos c2, g, Option.bind_some, e1, if_neg c3, e2]
    have H' := H.less hd' hd
    obtain ⟨R, hP, hR⟩ := cont _ H'
    refine ⟨R, hP, Evp.bind (ack_ok H hd' hd) ?_⟩
    have hm' := H'.le
    have c4 : ¬ (ltI (nI (numW m (S.drop m)).length) (nI (numW (max m hd') (S.drop (max m hd'))).length) = true) := by
      rw [ltI_iff, nI_def, nI_def, len m h1, len _ hm']; omega
    have c5 : ¬ (ltI (isub .i64 (S.length : Int) (hd' : Int)) (nI (numW (max m hd') (S.drop (max m hd'))).length) = true) := by
      rw [ltI_iff, nI_def, len _ hm', isub64 (by omega)]; omega
    simp only [if_pos (eqI_self 0), if_neg c4, if_neg c5, first _ hm']
    refine Evp.bind (check_l1 H' _ _ 0 _ (S.length - max m hd') 0 rfl (by omega)) ?_
    exact hR
  · have c1 : ¬ (ltI (i : Int) (nI x2.length) = true) := by rw [ltI_iff, nI_def]; omega
    obtain ⟨R, hP, hR⟩ := cont _ H
    refine ⟨R, hP, ?_⟩
    simp only [if_neg c1, first _ h1]
    refine Evp.bind (check_l1 H _ _ 0 _ (S.length - m) 0 rfl (by omega)) ?_
    exact hR

/-- What the loop ends in. -/
def EndQ (R : Sum (Int × (List (Int × ByteArray)) × Int × (List ByteArray)) Bool) : Prop := ∃ (S : List ByteArray) (w : List (Int × ByteArray)) (z : Int), R = .inl ((S.length : Int), w, z, S)

theorem law_l0 {x1 : List ByteArray} {x2 : List Int} (hx1 : x1.length ≤ 110) (hx2 : ∀ b ∈ x2, 0 ≤ b ∧ b ≤ 255) : ∀ (d i m : Nat) (S : List ByteArray), x1.length - i = d → i ≤ x1.length → S.length ≤ i → Ok m S →
    ∃ R, EndQ R ∧ Evp (fun k => law16_PartyWaits_l0 k x1 x2 (i : Int) (S.length : Int) (numW m (S.drop m)) 100 S) R := by
  intro d
  induction d with
  | zero =>
    intro i m S hd hi hS H
    refine ⟨_, ⟨S, numW m (S.drop m), 100, rfl⟩, Evp.step (fun k => law16_PartyWaits_l0.eq_2 ..) ?_⟩
    have c : ¬ (ltI (i : Int) (nI x1.length) = true) := by rw [ltI_iff, nI_def]; omega
    simp only [if_neg c]
    exact .ret _
  | succ d ih =>
    intro i m S hd hi hS H
    have h1 := H.le; have h2 := H.small; have h3 := H.room
    have hlt : i < x1.length := by omega
    have c1 : ltI (i : Int) (nI x1.length) = true := by rw [ltI_iff, nI_def]; omega
    have c2 : inI (i : Int) x1.length = true := by rw [inI_iff]; omega
    have g : x1[tN (i : Int)]? = some x1[i] := by rw [tN_nat]; exact get_of hlt
    have e3 : iadd .i64 (i : Int) 1 = ((i + 1 : Nat) : Int) := by rw [iadd64 (by omega)]; omega
    by_cases c3 : ltI 600 (ssz x1[i]) = true
    · obtain ⟨R, hP, h⟩ := ih (i + 1) m S (by omega) (by omega) (by omega) H
      refine ⟨R, hP, Evp.step (fun k => law16_PartyWaits_l0.eq_2 ..) ?_⟩
      simp only [if_pos c1, if_pos c2, g, Option.bind_some, if_pos c3, e3]
      exact h
    have cont : ∀ S1, S1.length ≤ i + 1 → ∀ m', Ok m' S1 → ∃ R, EndQ R ∧ Evp (fun k => law16_PartyWaits_l0 k x1 x2 (iadd .i64 (i : Int) 1) (S1.length : Int) (numW m' (S1.drop m')) 100 S1) R := by
      intro S1 hS1 m' H'
      rw [e3]
      exact ih (i + 1) m' S1 (by omega) (by omega) hS1 H'
    have hne : ∀ n : Int, n ≠ 0 → ¬ (eqI n 0 = true) := fun n h => by rw [eqI_iff]; exact h
    by_cases a : 500 < (x1[i].size : Int)
    · have hs : sayA m S x1[i] = ((S.length : Int), numW m (S.drop m), 100, 0, ByteArray.mk #[], 3) := by unfold sayA; rw [if_pos a]
      obtain ⟨R, hP, hR⟩ := rest_ok (x1 := x1) hx2 (i := i) H (P := EndQ) (cont S (by omega))
      refine ⟨R, hP, Evp.step (fun k => law16_PartyWaits_l0.eq_2 ..) ?_⟩
      simp only [if_pos c1, if_pos c2, g, Option.bind_some, if_neg c3]
      refine Evp.bind (say_ok H x1[i]) ?_
      simp only [hs, if_neg (hne 3 (by omega))]
      exact hR
    by_cases b : S.length - m < 100
    · have hs : sayA m S x1[i] = (((S.length + 1 : Nat) : Int), numW m (S.drop m) ++ [((S.length : Int), x1[i])], 100, (S.length : Int), x1[i], 0) := by unfold sayA; rw [if_neg a, if_pos b]
      have H1 := H.more x1[i] a b (by omega)
      have hlen : (S ++ [x1[i]]).length = S.length + 1 := by simp
      obtain ⟨R, hP, hR⟩ := rest_ok (x1 := x1) hx2 (i := i) H1 (P := EndQ) (cont (S ++ [x1[i]]) (by omega))
      rw [more_row H, hlen] at hR
      refine ⟨R, hP, Evp.step (fun k => law16_PartyWaits_l0.eq_2 ..) ?_⟩
      simp only [if_pos c1, if_pos c2, g, Option.bind_some, if_neg c3]
      refine Evp.bind (say_ok H x1[i]) ?_
      have c4 : roomI ((S.length + 1) * 16) = true := by rw [roomI_iff]; omega
      simp only [hs, if_pos (eqI_self 0), if_pos c4]
      exact hR
    · have hs : sayA m S x1[i] = ((S.length : Int), numW m (S.drop m), 100, 0, ByteArray.mk #[], 6) := by unfold sayA; rw [if_neg a, if_neg b]
      obtain ⟨R, hP, hR⟩ := rest_ok (x1 := x1) hx2 (i := i) H (P := EndQ) (cont S (by omega))
      refine ⟨R, hP, Evp.step (fun k => law16_PartyWaits_l0.eq_2 ..) ?_⟩
      simp only [if_pos c1, if_pos c2, g, Option.bind_some, if_neg c3]
      refine Evp.bind (say_ok H x1[i]) ?_
      simp only [hs, if_neg (hne 6 (by omega))]
      exact hR

theorem law_waits (x1 : List ByteArray) (x2 : List Int) (hx2 : ∀ b ∈ x2, 0 ≤ b ∧ b ≤ 255) : ∃ k, law16_PartyWaits k x1 x2 = some true := by
  refine Evp.get ?_
  unfold law16_PartyWaits
  by_cases c1 : ltI 110 (nI x1.length) = true
  · simp only [if_pos c1]
    exact .ret _
  by_cases c2 : ltI 110 (nI x2.length) = true
  · simp only [if_neg c1, if_pos c2]
    exact .ret _
  simp only [if_neg c1, if_neg c2]
  have hl : x1.length ≤ 110 := by rw [ltI_iff, nI_def] at c1; omega
  have H0 : Ok 0 [] := ⟨Nat.le_refl _, Nat.zero_le _, Nat.zero_le _, fun s hs => by cases hs⟩
  obtain ⟨R, ⟨S, w, z, rfl⟩, hR⟩ := law_l0 hl hx2 x1.length 0 0 [] rfl (Nat.zero_le _) (Nat.zero_le _) H0
  refine Evp.bind hR ?_
  have c : eqI (S.length : Int) (nI S.length) = true := by rw [eqI_iff, nI_def]
  simp only [Sum.elim_inl, c]
  exact .ret _
end Go.Ws
