/-
  Frames behind one another, plainly.
  Conditions: none.
-/
import Derived.Test.YtaddlnmhjlmneaaZAlls
set_option linter.unusedVariables false
set_option linter.unusedSimpArgs false
namespace Go.Ws
set_option linter.unusedVariables false
set_option linter.unusedSimpArgs false
set_option maxHeartbeats 1000000

theorem fr_cons (l : List Int) : fr l = 1 :: ((l.length : Int) / 256) :: ((l.length : Int) % 256) :: (l ++ s4 (sumR (hd l ++ l))) := rfl
theorem s4_len (s : Int) : (s4 s).length = 4 := rfl
theorem first_fr {l : List Int} (h : l.length ≤ 4000) (r : List Int) : first (fr l ++ r) = (l, (l.length : Int) + 7, 0) := by
  have e : (l.length : Int) / 256 * 256 + (l.length : Int) % 256 = l.length := by omega
  have e2 : ((l ++ s4 (sumR (hd l ++ l)) ++ r).drop l.length).take 4 = s4 (sumR (hd l ++ l)) := by
    rw [List.append_assoc, List.drop_left, List.take_left' (s4_len _)]
  have e3 : (l ++ s4 (sumR (hd l ++ l)) ++ r).take l.length = l := by rw [List.append_assoc, List.take_left]
  have e4 : sumR (1 :: ((l.length : Int) / 256) :: ((l.length : Int) % 256) :: l) = sumR (hd l ++ l) := rfl
  rw [fr_cons, List.cons_append, List.cons_append, List.cons_append, first, e, if_pos (by simp [s4_len]; omega), Int.toNat_natCast, e3, e2, e4, if_pos rfl]
theorem all_fr {l : List Int} (hb : Bytes l) (h : l.length ≤ 4000) {r : List Int} (hr : Bytes r) : all (fr l ++ r) = (l :: (all r).1, l.length + 7 + (all r).2) := by
  have f := first_fr h r
  have q := all_ok ((fr_bytes hb h).append hr) (n := l.length + 7) (by rw [f]) (by rw [f]; simp)
  rw [q, f, ← fr_len l, List.drop_left]
theorem first_cut {l : List Int} (h : l.length ≤ 4000) (r : List Int) {k : Nat} (hk : k < l.length + 7) : ¬ (first ((fr l ++ r).take k)).2.2 = 0 := by
  rw [fr_cons]
  match k, hk with
  | 0, _ => simp [first]
  | 1, _ => simp [first]
  | 2, _ => simp [first]
  | k + 3, hk =>
    rw [List.cons_append, List.cons_append, List.cons_append, List.take_succ_cons, List.take_succ_cons, List.take_succ_cons, first, if_neg (by rw [List.length_take]; omega)]
    simp

/-- Frames behind one another. -/
def cat : List (List Int) → List Int
  | [] => []
  | l :: t => fr l ++ cat t
def good (L : List (List Int)) : Prop := ∀ l ∈ L, Bytes l ∧ l.length ≤ 4000
theorem good.cons {l : List Int} {t : List (List Int)} (h : good (l :: t)) : (Bytes l ∧ l.length ≤ 4000) ∧ good t := ⟨h l (by simp), fun x hx => h x (by simp [hx])⟩
theorem cat_append : ∀ (a b : List (List Int)), cat (a ++ b) = cat a ++ cat b
  | [], b => rfl
  | l :: a, b => by rw [List.cons_append, cat, cat_append a b, cat, List.append_assoc]
theorem cat_bytes : ∀ {L : List (List Int)}, good L → Bytes (cat L)
  | [], _ => Bytes.nil
  | l :: t, h => (fr_bytes h.cons.1.1 (by have := h.cons.1.2; omega)).append (cat_bytes h.cons.2)
theorem cat_len : ∀ {L : List (List Int)}, good L → (cat L).length ≤ 4007 * L.length ∧ 7 * L.length ≤ (cat L).length
  | [], _ => ⟨Nat.le_refl _, Nat.le_refl _⟩
  | l :: t, h => by
    have := cat_len h.cons.2
    have h2 := h.cons.1.2
    simp only [cat, List.length_append, fr_len, List.length_cons]
    omega
theorem good.take {L : List (List Int)} (h : good L) (n : Nat) : good (L.take n) := fun l hl => h l (List.mem_of_mem_take hl)
theorem all_cat : ∀ {L : List (List Int)}, good L → ∀ {r : List Int}, Bytes r → all (cat L ++ r) = (L ++ (all r).1, (cat L).length + (all r).2)
  | [], _, r, _ => by simp [cat]
  | l :: t, h, r, hr => by
    rw [cat, List.append_assoc, all_fr h.cons.1.1 (by have := h.cons.1.2; omega) ((cat_bytes h.cons.2).append hr), all_cat h.cons.2 hr, List.length_append, fr_len]
    simp; omega
theorem all_nil : all [] = ([], 0) := rfl
/-- Of a beginning of them those that are whole. -/
theorem all_take : ∀ {L : List (List Int)}, good L → ∀ (k w : Nat), w ≤ L.length → (cat (L.take w)).length ≤ k → (w = L.length ∨ k < (cat (L.take (w + 1))).length) → all ((cat L).take k) = (L.take w, (cat (L.take w)).length)
  | [], _, k, w, hw, _, _ => by simp [cat, all_nil]
  | l :: t, h, k, 0, hw, _, h2 => by
    have hk : k < l.length + 7 := by
      rcases h2 with h2 | h2
      · simp at h2
      · simpa [cat, fr_len] using h2
    rw [cat, all_no (first_cut (by have := h.cons.1.2; omega) _ hk)]
    simp [cat]
  | l :: t, h, k, w + 1, hw, h1, h2 => by
    have h4000 := h.cons.1.2
    simp only [List.take_succ_cons, cat, List.length_append, fr_len] at h1
    have ih := all_take h.cons.2 (k - (l.length + 7)) w (by simpa using hw) (by omega) (by
      rcases h2 with h2 | h2
      · left; simpa using h2
      · right
        simp only [List.take_succ_cons, cat, List.length_append, fr_len] at h2
        omega)
    have et : (cat (l :: t)).take k = fr l ++ (cat t).take (k - (l.length + 7)) := by
      rw [cat, List.take_append, fr_len, List.take_of_length_le (by rw [fr_len]; omega)]
    rw [et, all_fr h.cons.1.1 (by omega) ((cat_bytes h.cons.2).take _), ih]
    simp only [List.take_succ_cons, cat, List.length_append, fr_len]

end Go.Ws
