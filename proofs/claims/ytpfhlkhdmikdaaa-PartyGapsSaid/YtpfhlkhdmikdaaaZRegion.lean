/-
  Regions: in the order of the text, and in any order that binds.
  Conditions: none.
-/
import Derived.Test.YtpfhlkhdmikdaaaZExec
import Derived.Orders
namespace Go.Ws
set_option linter.unusedVariables false
set_option linter.unusedSimpArgs false

/-! ### Changes laid over each other in any order -/
section
variable {K V R : Type} (up : R → (K → V) → K → V) (touch : R → K → Prop)

def comb (L : Nat → Bool) : Nat → List R → (K → V) → K → V
  | _, [], s => s
  | k, r :: rs, s => comb L (k + 1) rs (if L k then up r s else s)

variable {up touch} (hA : ∀ r s x, ¬ touch r x → up r s x = s x) (hB : ∀ r s s' x, touch r x → up r s x = up r s' x)
include hA hB

theorem comb_at (L : Nat → Bool) (x : K) : ∀ (k : Nat) (rs : List R) (s s' : K → V), s x = s' x → comb up L k rs s x = comb up L k rs s' x
  | _, [], s, s', h => h
  | k, r :: rs, s, s', h => by
    refine comb_at L x (k + 1) rs _ _ ?_
    by_cases hl : L k = true
    · rw [if_pos hl, if_pos hl]
      by_cases ht : touch r x
      · exact hB r s s' x ht
      · rw [hA r s x ht, hA r s' x ht, h]
    · rw [if_neg hl, if_neg hl, h]

theorem comb_eq (L L' : Nat → Bool) (x : K) : ∀ (k : Nat) (rs : List R) (s : K → V), (∀ i r, rs[i]? = some r → touch r x → L (k + i) = L' (k + i)) → comb up L k rs s x = comb up L' k rs s x
  | _, [], s, h => rfl
  | k, r :: rs, s, h => by
    show comb up L (k + 1) rs (if L k then up r s else s) x = comb up L' (k + 1) rs (if L' k then up r s else s) x
    rw [comb_eq L L' x (k + 1) rs _ (fun i r' hi ht => by have := h (i + 1) r' (by simpa using hi) ht; rwa [show k + (i + 1) = k + 1 + i by omega] at this)]
    refine comb_at hA hB L' x (k + 1) rs _ _ ?_
    by_cases ht : touch r x
    · have := h 0 r rfl ht
      simp only [Nat.add_zero] at this
      rw [this]
    · split <;> split <;> simp [hA r s x ht]

theorem comb_not (L : Nat → Bool) (x : K) : ∀ (k : Nat) (rs : List R) (s : K → V), (∀ i r, rs[i]? = some r → touch r x → L (k + i) = false) → comb up L k rs s x = s x := by
  intro k rs s h
  rw [comb_eq hA hB L (fun _ => false) x k rs s h]
  clear h
  induction rs generalizing k s with
  | nil => rfl
  | cons r rs ih => exact ih (k + 1) _

theorem comb_last (L : Nat → Bool) (x : K) : ∀ (j k : Nat) (rs : List R) (s s' : K → V) (r : R), rs[j]? = some r → L (k + j) = true → touch r x →
    (∀ i r', j < i → rs[i]? = some r' → touch r' x → L (k + i) = false) → comb up L k rs s x = up r s' x
  | 0, k, r0 :: rs, s, s', r, hr, hL, ht, hl => by
    simp at hr; subst hr
    show comb up L (k + 1) rs (if L k then up r0 s else s) x = _
    simp only [Nat.add_zero] at hL
    rw [if_pos hL, comb_not hA hB L x (k + 1) rs _ (fun i r' hi ht' => by have := hl (i + 1) r' (by omega) (by simpa using hi) ht'; rwa [show k + (i + 1) = k + 1 + i by omega] at this)]
    exact hB _ _ _ _ ht
  | j + 1, k, r0 :: rs, s, s', r, hr, hL, ht, hl => by
    refine comb_last L x j (k + 1) rs _ s' r (by simpa using hr) (by rw [show k + 1 + j = k + (j + 1) by omega]; exact hL) ht (fun i r' hi h1 h2 => ?_)
    have := hl (i + 1) r' (by omega) (by simpa using h1) h2
    rwa [show k + (i + 1) = k + 1 + i by omega] at this
  | _, _, [], _, _, _, hr, _, _, _ => by simp at hr

/-- One more. -/
theorem comb_ins (L L' : Nat → Bool) (j : Nat) (rs : List R) (s : K → V) (r : R) (hr : rs[j]? = some r) (hj : L' j = true) (hL : ∀ i, i ≠ j → L' i = L i)
    (hx : ∀ i r' x, j < i → rs[i]? = some r' → L i = true → touch r x → ¬ touch r' x) : comb up L' 0 rs s = up r (comb up L 0 rs s) := by
  funext x
  by_cases ht : touch r x
  · refine comb_last hA hB L' x j 0 rs s _ r hr (by simpa using hj) ht (fun i r' hi h1 h2 => ?_)
    simp only [Nat.zero_add]
    rw [hL i (by omega)]
    cases hLi : L i with
    | false => rfl
    | true => exact absurd h2 (hx i r' x hi h1 hLi ht)
  · rw [hA r _ x ht]
    refine comb_eq hA hB L' L x 0 rs s (fun i r' hi h1 => ?_)
    simp only [Nat.zero_add]
    refine hL i fun e => ?_
    subst e
    rw [hr] at hi; cases hi
    exact ht h1
end

/-! ### One operation -/
variable {P : Program}

/-- The state is read now. -/
def Now (σ : Sig) (π : Prot) (w : World) (t : List AV) (h : Nat → Option Blk) (a : Act) (w' : World) : Prop :=
  a.defers = [] ∧ ∃ σ' π', VRs σ' π' w' t a.tmps ∧ Done σ π w σ' π' w' h

theorem Now.put {σ : Sig} {π : Prot} {w w' : World} {t : List AV} {h : Nat → Option Blk} {a : Act} {σ' : Sig} {π' : Prot} (hd : a.defers = []) (ht : VRs σ' π' w' t a.tmps) (dst : Option Nat) {v : AV} {u : Value} (hv : VR σ' π' w' v u)
    (D : Done σ π w σ' π' w' h) : Now σ π w (putA t dst v) h (a.put dst u) w' := by
  cases dst with
  | none => exact ⟨hd, σ', π', ht, D⟩
  | some d =>
    refine ⟨hd, σ', π', ?_, D⟩
    refine ⟨by simp [putA, Act.put, ht.1], fun i v' u' hi hu => ?_⟩
    simp only [putA, Act.put] at hi hu
    by_cases e : d = i
    · subst e
      rw [List.getElem?_set] at hi
      simp only [if_true] at hi
      split at hi
      · rename_i hlt
        cases hi
        have : d < a.tmps.size := by rw [ht.1]; exact hlt
        rw [Array.getElem?_setIfInBounds_self_of_lt this] at hu
        cases hu
        exact hv
      · cases hi
    · rw [List.getElem?_set_ne e] at hi
      rw [Array.getElem?_setIfInBounds_ne e] at hu
      exact ht.2 i v' u' hi hu

theorem wanted_iff {σ : Sig} {π : Prot} {w : World} {t : List AV} {a : Act} (ht : VRs σ π w t a.tmps) (ops : Array Oper) (o : Oper) : Region.wanted o (yielded ops a.tmps) = wantedA ops.toList t o := by
  unfold Region.wanted wantedA
  cases o.guard with
  | none => rfl
  | some g =>
    obtain ⟨j, want⟩ := g
    simp only [yielded, Array.getElem?_toList]
    cases ho : (ops[j]?).bind (·.dst) with
    | none => simp
    | some d =>
      simp only [Option.bind_some]
      rcases Nat.lt_or_ge d t.length with hlt | hge
      · have hd : d < a.tmps.size := by rw [ht.1]; exact hlt
        have h1 := ht.2 d _ _ (List.getElem?_eq_getElem hlt) (Array.getElem?_eq_getElem hd)
        rw [List.getElem?_eq_getElem hlt, Array.getElem?_eq_getElem hd]
        generalize t[d] = v at h1
        generalize a.tmps[d] = u at h1
        cases h1 <;> simp
      · rw [List.getElem?_eq_none hge, Array.getElem?_eq_none (by rw [ht.1]; exact hge)]
        simp

section
variable {σ : Sig} {π : Prot} {w : World} {call : CallT} {cfg : Nat → Bool × Bool} (hcall : CallOK P call)
include hcall

theorem one_op {ops : Array Oper} {t : List AV} {h : Nat → Option Blk} {n : Nat} {δ : Delta} {L : List Nat} {o : Oper} {a : Act} {w1 : World} {K : Act → World → Prop} {Q : Exit → Act → World → Prop}
    (hs : stepF (tiOf P) call cfg ops.toList n t h o = some (δ, L)) (hn : ∀ i, i < δ.nw.length → h (n + i) = none) (N : Now σ π w t h a w1)
    (hK : ∀ a' w', Now σ π w (putA t o.dst δ.v) (updF h n δ) a' w' → K a' w') :
    if Region.wanted o (yielded ops a.tmps) then o.wp P a w1 K Q ∨ (o.asks P a w1 ∧ LetsOut Q) else K (a.put o.dst undef) w1 := by
  obtain ⟨hd, σ1, π1, ht, D⟩ := N
  rw [wanted_iff ht]
  unfold stepF at hs
  split at hs
  · rename_i hw
    rw [if_pos hw]
    refine .inl (op_all hcall cfg D.rel ht o hn hs fun u σ' π' w' hv D' => hK _ _ ?_)
    exact Now.put hd (ht.mono D'.ext) _ hv (D.trans D')
  · rename_i hw
    rw [if_neg hw]
    cases hs
    refine hK _ _ ?_
    rw [updF_none]
    exact Now.put hd ht _ (undef_vr _ _ _) D

/-! ### In the order of the text -/
omit hcall in
theorem upd_fn : ∀ (l : List (Nat × Blk)) (h : List Blk), (∀ p ∈ l, p.1 < h.length) → ((upd h l)[·]?) = updF1 (h[·]?) l ∧ (upd h l).length = h.length
  | [], h, _ => ⟨rfl, rfl⟩
  | (b, x) :: l, h, hl => by
    have hb : b < h.length := hl (b, x) (by simp)
    obtain ⟨h1, h2⟩ := upd_fn l (h.set b x) (fun p hp => by rw [List.length_set]; exact hl p (by simp [hp]))
    refine ⟨?_, by simpa [upd] using h2⟩
    show ((upd (h.set b x) l)[·]?) = updF1 (fun c => if c = b then some x else h[c]?) l
    rw [h1]
    congr 1
    funext c
    by_cases e : c = b
    · subst e; simp [hb]
    · rw [if_neg e, List.getElem?_set_ne (fun h => e h.symm)]

omit hcall in
theorem after_fn {st : St} {dst : Option Nat} {δ : Delta} (hu : upOk st.h.length δ = true) : ((st.after dst δ).h[·]?) = updF (st.h[·]?) st.h.length δ ∧ (st.after dst δ).h.length = st.h.length + δ.nw.length := by
  have hl : ∀ p ∈ δ.up, p.1 < st.h.length := fun p hp => by
    have := List.all_eq_true.1 hu p hp
    simpa using this
  obtain ⟨h1, h2⟩ := upd_fn δ.up st.h hl
  refine ⟨?_, by simp [St.after, h2]⟩
  funext b
  have e1 : (upd st.h δ.up)[b]? = updF1 (st.h[·]?) δ.up b := congrFun h1 b
  simp only [St.after, updF]
  rcases Nat.lt_or_ge b st.h.length with hlt | hge
  · rw [List.getElem?_append_left (by omega), if_neg (by omega), e1]
  · rw [List.getElem?_append_right (by omega), h2]
    split
    · rfl
    · rename_i hb
      rw [List.getElem?_eq_none (by omega), ← e1, List.getElem?_eq_none (by omega)]

theorem ops_text {ops : Array Oper} {Q : Exit → Act → World → Prop} : ∀ (l : List Oper) (i : Nat) (st st' : St) (a : Act) (w1 : World), ops.toList.drop i = l → runOps (tiOf P) call cfg ops.toList l st = some st' → Now σ π w st.t (st.h[·]?) a w1 →
    (∀ a' w', Now σ π w st'.t (st'.h[·]?) a' w' → Q .normal a' w') → wpOps P ops Q (List.range' i l.length) a w1
  | [], i, st, st', a, w1, _, hr, N, hQ => by
    cases hr
    exact hQ _ _ N
  | o :: l, i, st, st', a, w1, hd, hr, N, hQ => by
    simp only [runOps] at hr
    split at hr
    · rename_i δ L hs
      split at hr
      · rename_i hu
        have hi : ops[i]? = some o := by
          have : (ops.toList.drop i)[0]? = some o := by rw [hd]; rfl
          simpa using this
        have hd' : ops.toList.drop (i + 1) = l := by rw [← List.drop_drop, hd]; rfl
        obtain ⟨h1, h2⟩ := after_fn (dst := o.dst) hu
        simp only [List.length_cons, List.range'_succ, wpOps, hi]
        refine one_op hcall hs (fun k _ => List.getElem?_eq_none (by omega)) N fun a' w' N' => ?_
        refine ops_text l (i + 1) (st.after o.dst δ) st' a' w' hd' hr ?_ hQ
        rw [h1]
        exact N'
      · cases hr
    · cases hr

theorem region_text {id : Nat} {ops : Array Oper} {Q : Exit → Act → World → Prop} {st st' : St} {a : Act} {w1 : World} (hr : runOps (tiOf P) call cfg ops.toList ops.toList st = some st') (N : Now σ π w st.t (st.h[·]?) a w1)
    (hQ : ∀ a' w', Now σ π w st'.t (st'.h[·]?) a' w' → Q .normal a' w') : (Code.region id ops false).wp P Q a w1 := by
  refine wp_region ?_
  have := ops_text hcall (Q := Q) ops.toList 0 st st' a w1 (by simp) hr N hQ
  rwa [Array.length_toList, ← List.range_eq_range'] at this
end

end Go.Ws
