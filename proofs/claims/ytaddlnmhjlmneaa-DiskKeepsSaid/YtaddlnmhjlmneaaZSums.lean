/-
  The check sum, plain: by parts of three thousand, and by single bytes, it is the same; what it is.
  Conditions: none.
-/
import Derived.Test.YtaddlnmhjlmneaaZPlain
set_option linter.unusedVariables false
set_option linter.unusedSimpArgs false
namespace Go.Ws
set_option linter.unusedVariables false
set_option linter.unusedSimpArgs false
set_option maxHeartbeats 1000000

theorem tmod_pos {a b : Int} (h : 0 ≤ a) : a.tmod b = a % b := Int.tmod_eq_emod_of_nonneg h

/-- One byte more, in the document's way. -/
def stepR (p : Int × Int) (c : Int) : Int × Int := ((p.1 + c) % 65521, (p.2 + (p.1 + c) % 65521) % 65521)
def refJ (f : Nat → Int) (p : Int × Int) : Nat → Int × Int
  | 0 => p
  | j + 1 => stepR (refJ f p j) (f j)

def red (p : Int × Int) : Prop := 0 ≤ p.1 ∧ p.1 < 65521 ∧ 0 ≤ p.2 ∧ p.2 < 65521

theorem stepR_red (p : Int × Int) (c : Int) : red (stepR p c) := by
  unfold red stepR
  refine ⟨?_, ?_, ?_, ?_⟩ <;> omega

theorem refJ_red {f : Nat → Int} {p : Int × Int} (hp : red p) : ∀ j, red (refJ f p j)
  | 0 => hp
  | j + 1 => stepR_red _ _

theorem refJ_add (f : Nat → Int) (p : Int × Int) (a : Nat) : ∀ b, refJ f p (a + b) = refJ (fun j => f (a + j)) (refJ f p a) b
  | 0 => rfl
  | b + 1 => by
    show stepR (refJ f p (a + b)) (f (a + b)) = _
    rw [refJ_add f p a b]
    rfl

/-- Without a remainder being lost. -/
theorem sumJ_ref {f : Nat → Int} (hf : ∀ j, 0 ≤ f j ∧ f j < 256) {p : Int × Int} (hp : red p) : ∀ j, j ≤ 3000 →
    (0 ≤ (sumJ f p j).1 ∧ (sumJ f p j).1 ≤ 65520 + 255 * j) ∧ (0 ≤ (sumJ f p j).2 ∧ (sumJ f p j).2 ≤ 65520 + 830520 * j) ∧
    (refJ f p j).1 = (sumJ f p j).1 % 65521 ∧ (refJ f p j).2 = (sumJ f p j).2 % 65521
  | 0, _ => by
    obtain ⟨h1, h2, h3, h4⟩ := hp
    simp only [sumJ, refJ]
    refine ⟨⟨h1, by omega⟩, ⟨h3, by omega⟩, ?_, ?_⟩ <;> omega
  | j + 1, hj => by
    obtain ⟨⟨a1, a2⟩, ⟨b1, b2⟩, c1, c2⟩ := sumJ_ref hf hp j (by omega)
    obtain ⟨f1, f2⟩ := hf j
    have hc : ((j : Int)) + 1 ≤ 3000 := by omega
    have e1 : (sumJ f p (j + 1)).1 = (sumJ f p j).1 + f j := by
      show ((sumJ f p j).1 + f j) % 4294967296 = _
      omega
    have e2 : (sumJ f p (j + 1)).2 = (sumJ f p j).2 + ((sumJ f p j).1 + f j) := by
      show ((sumJ f p j).2 + ((sumJ f p j).1 + f j)) % 4294967296 = _
      omega
    have r1 : (refJ f p (j + 1)).1 = ((refJ f p j).1 + f j) % 65521 := rfl
    have r2 : (refJ f p (j + 1)).2 = ((refJ f p j).2 + ((refJ f p j).1 + f j) % 65521) % 65521 := rfl
    rw [e1, e2, r1, r2, c1, c2]
    push_cast
    refine ⟨⟨by omega, by omega⟩, ⟨by omega, by omega⟩, ?_, ?_⟩ <;> omega

theorem red_one : red (1, 0) := ⟨by decide, by decide, by decide, by decide⟩

theorem sumT_ref {f : Nat → Int} (hf : ∀ j, 0 ≤ f j ∧ f j < 256) (L : Nat) {p : Int × Int} (hp : red p) (k : Nat) :
    sumT f L p k = refJ (fun j => f (k * 3000 + j)) p (min 3000 (L - k * 3000)) := by
  obtain ⟨⟨a1, a2⟩, ⟨b1, b2⟩, c1, c2⟩ := sumJ_ref (f := fun j => f (k * 3000 + j)) (fun j => hf _) hp (min 3000 (L - k * 3000)) (by omega)
  unfold sumT
  rw [tmod_pos a1, tmod_pos b1, ← c1, ← c2]

theorem sumL_ref {f : Nat → Int} (hf : ∀ j, 0 ≤ f j ∧ f j < 256) (L : Nat) : ∀ k, sumL f L (List.range k) = refJ f (1, 0) (min L (k * 3000))
  | 0 => by simp [sumL, refJ]
  | k + 1 => by
    rw [List.range_succ, sumL_snoc, sumL_ref hf L k, sumT_ref hf L (refJ_red red_one _)]
    by_cases h : k * 3000 ≤ L
    · rw [show min L (k * 3000) = k * 3000 by omega, ← refJ_add]
      congr 1
      omega
    · rw [show min 3000 (L - k * 3000) = 0 by omega, show min L (k * 3000) = min L ((k + 1) * 3000) by omega]
      rfl

theorem or_shift {x y : Int} (hx : 0 ≤ x ∧ x < 65536) (hy : 0 ≤ y ∧ y < 65536) : bits BinOp.or IntKind.u32 (y * 65536 % 4294967296) x = y * 65536 + x := by
  obtain ⟨a, rfl⟩ := Int.eq_ofNat_of_zero_le hx.1
  obtain ⟨b, rfl⟩ := Int.eq_ofNat_of_zero_le hy.1
  have e : ((b : Int) * 65536 % 4294967296) = ((b * 65536 : Nat) : Int) := by omega
  rw [e]
  have h : (b * 65536) ||| a = b * 65536 + a := by
    rw [show b * 65536 = 2 ^ 16 * b by omega]
    rw [← Nat.two_pow_add_eq_or_of_lt (i := 16) (by omega) b]
  unfold bits
  have e1 : (BitVec.ofInt 32 ((b * 65536 : Nat) : Int) ||| BitVec.ofInt 32 (a : Int)).toNat = b * 65536 + a := by
    rw [BitVec.toNat_or, BitVec.ofInt_natCast, BitVec.ofInt_natCast, BitVec.toNat_ofNat, BitVec.toNat_ofNat, Nat.mod_eq_of_lt (by omega), Nat.mod_eq_of_lt (by omega), h]
  show IntKind.u32.wrap ((BitVec.ofInt 32 ((b * 65536 : Nat) : Int) ||| BitVec.ofInt 32 (a : Int)).toNat : Int) = _
  rw [e1, wrap32 (by omega)]
  omega

/-- What the check sum is. -/
def sumR (l : List Int) : Int := (refJ (fun j => l.getD j 0) (1, 0) l.length).2 * 65536 + (refJ (fun j => l.getD j 0) (1, 0) l.length).1

theorem bytes_getD {l : List Int} (h : Bytes l) (j : Nat) : 0 ≤ l.getD j 0 ∧ l.getD j 0 < 256 := by
  by_cases hj : j < l.length
  · have := h _ (List.getElem_mem hj)
    simpa [hj] using this
  · simp [List.getElem?_eq_none (show l.length ≤ j by omega)]

theorem sumOf_ref {l : List Int} (h : Bytes l) : sumOf l = sumR l := by
  unfold sumOf sumV sumR
  rw [sumL_ref (bytes_getD h), show min l.length ((l.length + 2999) / 3000 * 3000) = l.length by omega]
  obtain ⟨h1, h2, h3, h4⟩ := refJ_red (f := fun j => l.getD j 0) red_one l.length
  exact or_shift ⟨h1, by omega⟩ ⟨h3, by omega⟩

theorem sumP_ok {l : List Int} (h : Bytes l) (hl : l.length ≤ 140737488351232) : sumP l = some (sumR l) := by
  unfold sumP
  rw [if_pos ⟨hl, h⟩, sumOf_ref h]


theorem sum_ok {l : List Int} (h : Bytes l) (hl : l.length ≤ 1000000) : P_sum_Sum l = some (sumR l) := by
  rw [P_sum_Sum_eq, sumP_ok h (by omega)]

theorem sumR_bd (l : List Int) : 0 ≤ sumR l ∧ sumR l < 4294967296 := by
  obtain ⟨h1, h2, h3, h4⟩ := refJ_red (f := fun j => l.getD j 0) red_one l.length
  unfold sumR
  omega

theorem ref_l0 {l : List Int} (h : Bytes l) (hl : l.length ≤ 1000000) : ∀ (d i : Nat) (a b v : Int), (a, b) = refJ (fun j => l.getD j 0) (1, 0) i → v = (i : Int) → l.length - i = d → i ≤ l.length →
    P_ref03_Sum_l0 l a b v = some (refJ (fun j => l.getD j 0) (1, 0) l.length) := by
  intro d
  induction d with
  | zero =>
    intro i a b v hab hv hd hi
    obtain rfl : i = l.length := by omega
    rw [P_ref03_Sum_l0_eq]
    repeat (first | refine (if_pos (by first | with_reducible rfl | assumption | (simp (disch := omega) only [ltI_iff, eqI_iff, eqS_iff, eqB_iff, inI_iff, leI_iff, capI_iff, isZ_iff, eqN_iff, roomI_iff, nI_def, ssz_def, tN_def, iadd64, isub64, imul64, conv64, conv8, conv32, iadd32, imul32, irem_pos, iquo64, iquo32, imin_l, imin_r, imax_l, imax_r, Bool.not_eq_true', ← Bool.not_eq_true, Bool.not_eq_eq_eq_not, Bool.not_true, Bool.not_false, not_true_eq_false, not_false_eq_true, List.length_append, List.length_cons, List.length_nil, List.length_take, List.length_drop, List.length_set, List.length_replicate] <;> omega) | omega)).trans ?_ | refine (if_neg (by first | with_reducible rfl | assumption | (simp (disch := omega) only [ltI_iff, eqI_iff, eqS_iff, eqB_iff, inI_iff, leI_iff, capI_iff, isZ_iff, eqN_iff, roomI_iff, nI_def, ssz_def, tN_def, iadd64, isub64, imul64, conv64, conv8, conv32, iadd32, imul32, irem_pos, iquo64, iquo32, imin_l, imin_r, imax_l, imax_r, Bool.not_eq_true', ← Bool.not_eq_true, Bool.not_eq_eq_eq_not, Bool.not_true, Bool.not_false, not_true_eq_false, not_false_eq_true, List.length_append, List.length_cons, List.length_nil, List.length_take, List.length_drop, List.length_set, List.length_replicate] <;> omega) | omega)).trans ?_ | refine Eq.trans (Sum.elim_inl _ _ _) ?_ | refine Eq.trans (Sum.elim_inr _ _ _) ?_)
    rw [hab]
  | succ d ih =>
    intro i a b v hab hv hd hi
    have hlt : i < l.length := by omega
    have g : l[i]? = some (l.getD i 0) := by simp [hlt]
    obtain ⟨b1, b2⟩ := bytes_getD h i
    have hr := refJ_red (f := fun j => l.getD j 0) red_one i
    rw [← hab] at hr
    obtain ⟨h1, h2, h3, h4⟩ := hr
    rw [P_ref03_Sum_l0_eq]
    repeat (first | refine (if_pos (by first | with_reducible rfl | assumption | (simp (disch := omega) only [ltI_iff, eqI_iff, eqS_iff, eqB_iff, inI_iff, leI_iff, capI_iff, isZ_iff, eqN_iff, roomI_iff, nI_def, ssz_def, tN_def, iadd64, isub64, imul64, conv64, conv8, conv32, iadd32, imul32, irem_pos, iquo64, iquo32, imin_l, imin_r, imax_l, imax_r, Bool.not_eq_true', ← Bool.not_eq_true, Bool.not_eq_eq_eq_not, Bool.not_true, Bool.not_false, not_true_eq_false, not_false_eq_true, List.length_append, List.length_cons, List.length_nil, List.length_take, List.length_drop, List.length_set, List.length_replicate] <;> omega) | omega)).trans ?_ | refine (if_neg (by first | with_reducible rfl | assumption | (simp (disch := omega) only [ltI_iff, eqI_iff, eqS_iff, eqB_iff, inI_iff, leI_iff, capI_iff, isZ_iff, eqN_iff, roomI_iff, nI_def, ssz_def, tN_def, iadd64, isub64, imul64, conv64, conv8, conv32, iadd32, imul32, irem_pos, iquo64, iquo32, imin_l, imin_r, imax_l, imax_r, Bool.not_eq_true', ← Bool.not_eq_true, Bool.not_eq_eq_eq_not, Bool.not_true, Bool.not_false, not_true_eq_false, not_false_eq_true, List.length_append, List.length_cons, List.length_nil, List.length_take, List.length_drop, List.length_set, List.length_replicate] <;> omega) | omega)).trans ?_ | refine (bnd (getn hv g)).trans ?_ | refine Eq.trans (Sum.elim_inl _ _ _) ?_ | refine Eq.trans (Sum.elim_inr _ _ _) ?_)
    simp only at h1 h2 h3 h4
    refine ih (i + 1) _ _ _ ?_ (by first | with_reducible rfl | assumption | (simp (disch := omega) only [ltI_iff, eqI_iff, eqS_iff, eqB_iff, inI_iff, leI_iff, capI_iff, isZ_iff, eqN_iff, roomI_iff, nI_def, ssz_def, tN_def, iadd64, isub64, imul64, conv64, conv8, conv32, iadd32, imul32, irem_pos, iquo64, iquo32, imin_l, imin_r, imax_l, imax_r, Bool.not_eq_true', ← Bool.not_eq_true, Bool.not_eq_eq_eq_not, Bool.not_true, Bool.not_false, not_true_eq_false, not_false_eq_true, List.length_append, List.length_cons, List.length_nil, List.length_take, List.length_drop, List.length_set, List.length_replicate] <;> omega) | omega) (by omega) (by omega)
    show _ = stepR (refJ (fun j => l.getD j 0) (1, 0) i) (l.getD i 0)
    rw [← hab]
    generalize l.getD i 0 = c at b1 b2 ⊢
    have e1 : irem .u32 (iadd .u32 a (conv .u32 c)) 65521 = (a + c) % 65521 := by
      rw [conv32 (by omega), iadd32 (by omega), irem_pos (by omega)]
    rw [e1, iadd32 (by omega), irem_pos (by omega)]
    rfl

theorem ref_ok {l : List Int} (h : Bytes l) (hl : l.length ≤ 1000000) : P_ref03_Sum l = some (sumR l) := by
  rw [P_ref03_Sum_eq]
  repeat (first | refine (if_pos (by first | with_reducible rfl | assumption | (simp (disch := omega) only [ltI_iff, eqI_iff, eqS_iff, eqB_iff, inI_iff, leI_iff, capI_iff, isZ_iff, eqN_iff, roomI_iff, nI_def, ssz_def, tN_def, iadd64, isub64, imul64, conv64, conv8, conv32, iadd32, imul32, irem_pos, iquo64, iquo32, imin_l, imin_r, imax_l, imax_r, Bool.not_eq_true', ← Bool.not_eq_true, Bool.not_eq_eq_eq_not, Bool.not_true, Bool.not_false, not_true_eq_false, not_false_eq_true, List.length_append, List.length_cons, List.length_nil, List.length_take, List.length_drop, List.length_set, List.length_replicate] <;> omega) | omega)).trans ?_ | refine (if_neg (by first | with_reducible rfl | assumption | (simp (disch := omega) only [ltI_iff, eqI_iff, eqS_iff, eqB_iff, inI_iff, leI_iff, capI_iff, isZ_iff, eqN_iff, roomI_iff, nI_def, ssz_def, tN_def, iadd64, isub64, imul64, conv64, conv8, conv32, iadd32, imul32, irem_pos, iquo64, iquo32, imin_l, imin_r, imax_l, imax_r, Bool.not_eq_true', ← Bool.not_eq_true, Bool.not_eq_eq_eq_not, Bool.not_true, Bool.not_false, not_true_eq_false, not_false_eq_true, List.length_append, List.length_cons, List.length_nil, List.length_take, List.length_drop, List.length_set, List.length_replicate] <;> omega) | omega)).trans ?_ | refine (bnd (ref_l0 h hl _ 0 1 0 0 rfl rfl rfl (by omega))).trans ?_ | refine Eq.trans (Sum.elim_inl _ _ _) ?_ | refine Eq.trans (Sum.elim_inr _ _ _) ?_)
  obtain ⟨h1, h2, h3, h4⟩ := refJ_red (f := fun j => l.getD j 0) red_one l.length
  unfold sumR
  rw [imul32 (by omega), iadd32 (by omega)]

/-! ### The sum without remainders -/
def zstep (p : Int × Int) (c : Int) : Int × Int := (p.1 + c, p.2 + (p.1 + c))
def zsum (l : List Int) : Int := l.foldl (fun a c => a + c) 0
theorem foldl_add : ∀ (l : List Int) (a : Int), l.foldl (fun a c => a + c) a = a + zsum l
  | [], a => by simp [zsum]
  | c :: l, a => by
    simp only [zsum, List.foldl_cons]
    rw [foldl_add l (a + c), foldl_add l (0 + c)]
    omega
theorem zsum_cons (c : Int) (l : List Int) : zsum (c :: l) = c + zsum l := by
  show l.foldl (fun a c => a + c) (0 + c) = _
  rw [foldl_add]; omega
/-- What stands ahead weighs more. -/
def zw : List Int → Int
  | [] => 0
  | c :: l => (l.length + 1) * c + zw l
theorem zfold : ∀ (l : List Int) (p : Int × Int), l.foldl zstep p = (p.1 + zsum l, p.2 + l.length * p.1 + zw l)
  | [], p => by simp [zsum, zw]
  | c :: l, p => by
    rw [List.foldl_cons, zfold l, zsum_cons, zw, zstep]
    refine Prod.ext ?_ ?_
    · show p.1 + c + zsum l = p.1 + (c + zsum l)
      omega
    · show p.2 + (p.1 + c) + l.length * (p.1 + c) + zw l = p.2 + ((c :: l).length : Int) * p.1 + ((l.length + 1) * c + zw l)
      rw [List.length_cons, Int.natCast_add, Int.add_mul, Int.add_mul, Int.mul_add]
      simp
      omega
theorem step_mod {p q : Int × Int} {c : Int} (h1 : p.1 = q.1 % 65521) (h2 : p.2 = q.2 % 65521) : (stepR p c).1 = (zstep q c).1 % 65521 ∧ (stepR p c).2 = (zstep q c).2 % 65521 := by
  simp only [stepR, zstep, h1, h2]
  omega
theorem fold_mod : ∀ (l : List Int) (p q : Int × Int), p.1 = q.1 % 65521 → p.2 = q.2 % 65521 → (l.foldl stepR p).1 = (l.foldl zstep q).1 % 65521 ∧ (l.foldl stepR p).2 = (l.foldl zstep q).2 % 65521
  | [], p, q, h1, h2 => ⟨h1, h2⟩
  | c :: l, p, q, h1, h2 => fold_mod l _ _ (step_mod h1 h2).1 (step_mod h1 h2).2
theorem refJ_take (l : List Int) : ∀ n, n ≤ l.length → refJ (fun j => l.getD j 0) (1, 0) n = (l.take n).foldl stepR (1, 0)
  | 0, _ => by simp [refJ]
  | n + 1, h => by
    have hlt : n < l.length := by omega
    rw [refJ, refJ_take l n (by omega), List.take_add_one, List.foldl_append]
    simp [hlt]
theorem sumR_z (l : List Int) : sumR l = (l.length + zw l) % 65521 * 65536 + (1 + zsum l) % 65521 := by
  unfold sumR
  rw [refJ_take l _ (Nat.le_refl _), List.take_length]
  obtain ⟨h1, h2⟩ := fold_mod l (1, 0) (1, 0) (by decide) (by decide)
  rw [h1, h2, zfold]
  simp
theorem zsum_append : ∀ (a b : List Int), zsum (a ++ b) = zsum a + zsum b
  | [], b => by simp [zsum]
  | c :: a, b => by rw [List.cons_append, zsum_cons, zsum_append a b, zsum_cons]; omega
theorem zw_append : ∀ (a b : List Int), zw (a ++ b) = zw a + b.length * zsum a + zw b
  | [], b => by simp [zsum, zw]
  | c :: a, b => by
    rw [List.cons_append, zw, zw_append a b, zw, zsum_cons, List.length_append, Int.natCast_add, Int.mul_add]
    have : ((a.length : Int) + (b.length : Int) + 1) * c = (a.length + 1) * c + b.length * c := by
      rw [← Int.add_mul]; congr 1; omega
    rw [this]; omega
/-- One byte is another one: so is the sum. -/
theorem sumR_one {a b : List Int} {c d : Int} (hc : 0 ≤ c ∧ c < 256) (hd : 0 ≤ d ∧ d < 256) (h : sumR (a ++ c :: b) = sumR (a ++ d :: b)) : c = d := by
  rw [sumR_z, sumR_z, zsum_append, zsum_append, zsum_cons, zsum_cons] at h
  omega
/-- Two that stand side by side, in the other order. -/
theorem sumR_two {a b : List Int} {c d : Int} (hc : 0 ≤ c ∧ c < 256) (hd : 0 ≤ d ∧ d < 256) (h : sumR (a ++ c :: d :: b) = sumR (a ++ d :: c :: b)) : c = d := by
  rw [sumR_z, sumR_z, zsum_append, zsum_append, zw_append, zw_append] at h
  simp only [zsum_cons, zw, List.length_append, List.length_cons] at h
  have e1 : ((b.length + 1 : Nat) : Int) + 1 = (b.length : Int) + 2 := by omega
  rw [e1] at h
  have e2 : ((b.length : Int) + 2) * c = (b.length + 1) * c + c := by rw [show (b.length : Int) + 2 = (b.length + 1) + 1 by omega, Int.add_mul]; omega
  have e3 : ((b.length : Int) + 2) * d = (b.length + 1) * d + d := by rw [show (b.length : Int) + 2 = (b.length + 1) + 1 by omega, Int.add_mul]; omega
  rw [e2, e3] at h
  generalize ((b.length : Int) + 1) * c = u at h
  generalize ((b.length : Int) + 1) * d = v at h
  generalize zw a + _ = k at h
  omega
end Go.Ws
