/-
  Regions whose order is drawn, under the kit's rule for any order.
  Conditions: none.
-/
import Derived.Test.YtpfhlkhdmikdaaaZRegionD
namespace Go.Ws
set_option linter.unusedVariables false
set_option linter.unusedSimpArgs false

variable {P : Program} {σ : Sig} {π : Prot} {w : World} {call : CallT} {cfg : Nat → Bool × Bool}

/-- What is listed. -/
def lst (l : Array Bool) : Nat → Bool := fun i => l.getD i false

theorem lst_set {l : Array Bool} {j : Nat} (hj : j < l.size) : lst (l.setIfInBounds j true) j = true ∧ ∀ i, i ≠ j → lst (l.setIfInBounds j true) i = lst l i := by
  refine ⟨by simp [lst, hj], fun i hi => ?_⟩
  simp [lst, Array.getElem?_setIfInBounds_ne (Ne.symm hi)]

/-- The records, and that they are apart. -/
structure Drawn (P : Program) (call : CallT) (cfg : Nat → Bool × Bool) (ops : List Oper) (rs : List Rec) (t0 : List AV) (h0 : Nat → Option Blk) : Prop where
  run : TextRun (tiOf P) call cfg ops t0.length ops rs (t0[·]?) h0
  edges : edgesOk 0 ops = true
  feet : feetOk (befs ops []) (feet ops ops rs) = true

theorem Drawn.pair {ops : List Oper} {rs : List Rec} {t0 : List AV} {h0 : Nat → Option Blk} (D : Drawn P call cfg ops rs t0 h0) {i j : Nat} {oi oj : Oper} {ri rj : Rec} (hij : i < j)
    (hi : ops[i]? = some oi) (hj : ops[j]? = some oj) (hri : rs[i]? = some ri) (hrj : rs[j]? = some rj) :
    ((befs ops []).getD j 0).testBit i = true ∨ (footOf ops oi ri).apart (footOf ops oj rj) = true :=
  feetOk_spec D.feet hij (feet_at ops ops rs i oi ri hi hri) (feet_at ops ops rs j oj rj hj hrj)

/-- What one more operation finds, where what binds it is listed. -/
theorem Drawn.step {ops : List Oper} {rs : List Rec} {t0 : List AV} {h0 : Nat → Option Blk} (D : Drawn P call cfg ops rs t0 h0) {L : Nat → Bool}
    (hc : ∀ j o, ops[j]? = some o → L j = true → ∀ e ∈ o.after, Region.binds .any e = true → L e.on = true) {j : Nat} {o : Oper} {r : Rec} (ho : ops[j]? = some o) (hr : rs[j]? = some r) (hj : L j = false)
    (hb : ∀ e ∈ o.after, Region.binds .any e = true → L e.on = true) {L' : Nat → Bool} (hj' : L' j = true) (hL : ∀ i, i ≠ j → L' i = L i) :
    (∀ tl : List AV, (tl[·]?) = comb (upT t0.length) L 0 rs (t0[·]?) → stepF (tiOf P) call cfg ops r.n tl (comb upH L 0 rs h0) o = some (r.δ, r.l)) ∧
    (∀ i, i < r.δ.nw.length → comb upH L 0 rs h0 (r.n + i) = none) ∧
    comb (upT t0.length) L' 0 rs (t0[·]?) = upT t0.length r (comb (upT t0.length) L 0 rs (t0[·]?)) ∧
    comb upH L' 0 rs h0 = upH r (comb upH L 0 rs h0) ∧ r.dst = o.dst := by
  have hlen := textRun_len D.run
  have opAt : ∀ i r', rs[i]? = some r' → ∃ o', ops[i]? = some o' := fun i r' h => by
    have := (List.getElem?_eq_some_iff.1 h).1
    exact ⟨_, List.getElem?_eq_getElem (by omega)⟩
  have hc' : ∀ k o, ops[k]? = some o → L' k = true → ∀ e ∈ o.after, Region.binds .any e = true → L' e.on = true := by
    intro k o' hk hl e he hbd
    by_cases hkj : k = j
    · subst hkj
      rw [ho] at hk; cases hk
      by_cases he' : e.on = k
      · rw [he']; exact hj'
      · rw [hL _ he']; exact hb e he hbd
    · rw [hL k hkj] at hl
      by_cases he' : e.on = j
      · rw [he']; exact hj'
      · rw [hL _ he']; exact hc k o' hk hl e he hbd
  obtain ⟨hdst, hrun, hnone⟩ := textRun_at ops rs _ _ D.run j 0 o r ho hr
  simp only [Nat.zero_add] at hrun hnone
  have key : ∀ i r', rs[i]? = some r' → L i ≠ decide (i < j) → ∃ o', ops[i]? = some o' ∧ ((i < j ∧ (footOf ops o' r').apart (footOf ops o r) = true) ∨ (j < i ∧ L i = true ∧ (footOf ops o r).apart (footOf ops o' r') = true)) := by
    intro i r' hi hne
    obtain ⟨o', ho'⟩ := opAt i r' hi
    refine ⟨o', ho', ?_⟩
    rcases Nat.lt_trichotomy i j with hij | hij | hij
    · refine .inl ⟨hij, (D.pair hij ho' ho hi hr).resolve_left fun hbit => ?_⟩
      have := closed_bef hc' j i hj' hbit
      rw [hL i (by omega)] at this
      exact hne (by rw [this]; simp [hij])
    · subst hij
      exact absurd (by rw [hj]; simp) hne
    · have hli : L i = true := by
        cases h : L i with
        | true => rfl
        | false => exact absurd (by rw [h]; simp; omega) hne
      refine .inr ⟨hij, hli, (D.pair hij ho ho' hr hi).resolve_left fun hbit => ?_⟩
      have := closed_bef hc i j hli hbit
      rw [hj] at this
      cases this
  have agreeT : ∀ d, d ∈ looks ops o → comb (upT t0.length) L 0 rs (t0[·]?) d = comb (upT t0.length) (fun i => decide (i < j)) 0 rs (t0[·]?) d := by
    intro d hd
    refine comb_eq (upT_A _) (upT_B _) _ _ d 0 rs _ fun i r' hi ht => ?_
    simp only [Nat.zero_add]
    refine Classical.byContradiction fun hne => ?_
    obtain ⟨o', ho', h⟩ := key i r' hi hne
    have hw : d ∈ (footOf ops o' r').tw := by simp only [tchT] at ht; simp [footOf, ht]
    have hrd : d ∈ (footOf ops o r).tr := hd
    rcases h with ⟨_, h⟩ | ⟨_, _, h⟩
    · exact (apart_spec h).2.2.2.2.1 d hw hrd
    · exact (apart_spec h).2.2.2.2.2 d hrd hw
  have agreeH : ∀ b, b ∈ r.l → comb upH L 0 rs h0 b = comb upH (fun i => decide (i < j)) 0 rs h0 b := by
    intro b hb
    refine comb_eq upH_A upH_B _ _ b 0 rs _ fun i r' hi ht => ?_
    simp only [Nat.zero_add]
    refine Classical.byContradiction fun hne => ?_
    obtain ⟨o', ho', h⟩ := key i r' hi hne
    have hw : b ∈ (footOf ops o' r').w := ht
    have hrd : b ∈ (footOf ops o r).r := hb
    rcases h with ⟨_, h⟩ | ⟨_, _, h⟩
    · exact (apart_spec h).2.1 b hw hrd
    · exact (apart_spec h).2.2.1 b hrd hw
  have apartW : ∀ i r' x, j < i → rs[i]? = some r' → L i = true → tchH r x → ¬ tchH r' x := by
    intro i r' x hij hi hli h1 h2
    obtain ⟨o', ho', h⟩ := key i r' hi (by rw [hli]; simp; omega)
    rcases h with ⟨hlt, _⟩ | ⟨_, _, h⟩
    · omega
    · exact (apart_spec h).1 x h1 h2
  have apartT : ∀ i r' x, j < i → rs[i]? = some r' → L i = true → tchT r x → ¬ tchT r' x := by
    intro i r' x hij hi hli h1 h2
    obtain ⟨o', ho', h⟩ := key i r' hi (by rw [hli]; simp; omega)
    simp only [tchT] at h1 h2
    rcases h with ⟨hlt, _⟩ | ⟨_, _, h⟩
    · omega
    · exact (apart_spec h).2.2.2.1 x (by simp [footOf, h1]) (by simp [footOf, h2])
  refine ⟨fun tl htl => ?_, fun i hi => ?_, comb_ins (upT_A _) (upT_B _) L L' j rs _ r hr hj' hL apartT, comb_ins upH_A upH_B L L' j rs _ r hr hj' hL apartW, hdst⟩
  · -- a list for the prefix's temporaries
    have hex : ∃ tp : List AV, (tp[·]?) = comb (upT t0.length) (fun i => decide (i < j)) 0 rs (t0[·]?) := by
      have gen : ∀ (M : Nat → Bool) (k : Nat) (l : List Rec) (t : List AV), t.length = t0.length → ∃ tp : List AV, (tp[·]?) = comb (upT t0.length) M k l (t[·]?) := by
        intro M k l
        induction l generalizing k with
        | nil => intro t _; exact ⟨t, rfl⟩
        | cons r l ih =>
          intro t hlen
          simp only [comb]
          split
          · rw [← hlen, ← putA_fn t r, hlen]
            exact ih (k + 1) (putA t r.dst r.δ.v) (by unfold putA; cases r.dst <;> simp [hlen])
          · exact ih (k + 1) t hlen
      exact gen _ 0 rs t0 rfl
    obtain ⟨tp, htp⟩ := hex
    refine stepF_congr (hrun tp htp) (fun d hd => ?_) agreeH
    have e1 := congrFun htl d
    have e2 := congrFun htp d
    exact e1.trans ((agreeT d hd).trans e2.symm)
  · have : comb upH L 0 rs h0 (r.n + i) = comb upH (fun i => decide (i < j)) 0 rs h0 (r.n + i) := by
      refine comb_eq upH_A upH_B _ _ _ 0 rs _ fun k r' hk ht => ?_
      simp only [Nat.zero_add]
      refine Classical.byContradiction fun hne => ?_
      obtain ⟨o', ho', h⟩ := key k r' hk hne
      have h1 : r.n + i ∈ (footOf ops o r).w := by simp only [footOf, List.mem_append, List.mem_range'_1]; exact .inr (by omega)
      rcases h with ⟨_, h⟩ | ⟨_, _, h⟩
      · exact (apart_spec h).1 _ ht h1
      · exact (apart_spec h).1 _ h1 ht
    rw [this]
    exact hnone _ (by omega)

def unl (n : Nat) (L : Nat → Bool) : List Nat := (List.range n).filter fun i => !L i

theorem unl_less {n : Nat} {L L' : Nat → Bool} {j : Nat} (hjn : j < n) (hj : L j = false) (hj' : L' j = true) (hL : ∀ i, i ≠ j → L' i = L i) : (unl n L').length < (unl n L).length := by
  have e : unl n L' = (unl n L).filter fun i => decide (i ≠ j) := by
    unfold unl
    rw [List.filter_filter]
    refine List.filter_congr fun i _ => ?_
    by_cases h : i = j
    · subst h; simp [hj']
    · simp [h, hL i h]
  rw [e, List.length_filter_lt_length_iff_exists]
  exact ⟨j, by simp [unl, hjn, hj], by simp⟩

theorem any_drawn (hcall : CallOK P call) {ops : Array Oper} {rs : List Rec} {t0 : List AV} {h0 : Nat → Option Blk} (D : Drawn P call cfg ops.toList rs t0 h0) {Q : Exit → Act → World → Prop}
    {t' : List AV} {h' : Nat → Option Blk} (ht' : (t'[·]?) = comb (upT t0.length) (fun _ => true) 0 rs (t0[·]?)) (hh' : h' = comb upH (fun _ => true) 0 rs h0)
    (hQ : ∀ a' w', Now σ π w t' h' a' w' → Q .normal a' w') : ∀ (fuel : Nat) (listed : Array Bool) (a : Act) (w1 : World) (t : List AV),
    listed.size = ops.size → (unl ops.size (lst listed)).length ≤ fuel →
    (∀ j o, ops.toList[j]? = some o → lst listed j = true → ∀ e ∈ o.after, Region.binds .any e = true → lst listed e.on = true) →
    t.length = t0.length → (t[·]?) = comb (upT t0.length) (lst listed) 0 rs (t0[·]?) → Now σ π w t (comb upH (lst listed) 0 rs h0) a w1 → wpAny P .any ops Q fuel listed a w1 := by
  have hlen := textRun_len D.run
  replace hlen : rs.length = ops.size := hlen.trans (Array.length_toList ..)
  have done : ∀ (listed : Array Bool) (a : Act) (w1 : World) (t : List AV), Region.ready .any ops listed = [] → listed.size = ops.size →
      (t[·]?) = comb (upT t0.length) (lst listed) 0 rs (t0[·]?) → Now σ π w t (comb upH (lst listed) 0 rs h0) a w1 → Q .normal a w1 := by
    intro listed a w1 t hr hsz ht N
    have hall : ∀ j, j < ops.size → lst listed j = true := by
      intro j
      induction j using Nat.strongRecOn with
      | _ j ih =>
      intro hj
      cases hlj : lst listed j with
      | true => rfl
      | false =>
        have : j ∈ Region.ready .any ops listed := by
          refine mem_ready.2 ⟨?_, ops[j], Array.getElem?_eq_getElem hj, fun e he hb => ?_⟩
          · simp only [lst] at hlj
            have hj2 : j < listed.size := by omega
            simp [hj2] at hlj ⊢
            exact hlj
          · have := edgesOk_spec ops.toList 0 D.edges j ops[j] (by simp [hj]) e he hb
            exact ih e.on (by omega) (by omega)
        rw [hr] at this
        cases this
    have e1 : comb (upT t0.length) (lst listed) 0 rs (t0[·]?) = comb (upT t0.length) (fun _ => true) 0 rs (t0[·]?) := by
      funext x
      refine comb_eq (upT_A _) (upT_B _) _ _ x 0 rs _ fun i r hi _ => ?_
      have := (List.getElem?_eq_some_iff.1 hi).1
      simpa using hall i (by omega)
    have e2 : comb upH (lst listed) 0 rs h0 = comb upH (fun _ => true) 0 rs h0 := by
      funext x
      refine comb_eq upH_A upH_B _ _ x 0 rs _ fun i r hi _ => ?_
      have := (List.getElem?_eq_some_iff.1 hi).1
      simpa using hall i (by omega)
    have et : t = t' := List.ext_getElem? fun i => by
      have := congrFun (ht.trans (e1.trans ht'.symm)) i
      exact this
    rw [et, e2, ← hh'] at N
    exact hQ _ _ N
  intro fuel
  induction fuel with
  | zero =>
    intro listed a w1 t hsz hf hc htl ht N
    have hr : Region.ready .any ops listed = [] := by
      refine List.eq_nil_iff_forall_not_mem.2 fun j hj => ?_
      obtain ⟨h0, o, ho, _⟩ := mem_ready.1 hj
      have hjn := (Array.getElem?_eq_some_iff.1 ho).1
      have hj2 : j < listed.size := by omega
      have : j ∈ unl ops.size (lst listed) := by
        simp only [unl, List.mem_filter, List.mem_range]
        refine ⟨hjn, ?_⟩
        simp [hj2] at h0
        simp [lst, hj2, h0]
      have hz : unl ops.size (lst listed) = [] := List.length_eq_zero_iff.1 (Nat.le_zero.1 hf)
      rw [hz] at this
      cases this
    exact ⟨hr, done listed a w1 t hr hsz ht N⟩
  | succ fuel ih =>
    intro listed a w1 t hsz hf hc htl ht N
    refine ⟨fun hr => done listed a w1 t hr hsz ht N, fun j hj => ?_⟩
    obtain ⟨h0, o, ho, hb⟩ := mem_ready.1 hj
    have hjn := (Array.getElem?_eq_some_iff.1 ho).1
    have hj2 : j < listed.size := by omega
    have hlj : lst listed j = false := by
      simp [hj2] at h0
      simp [lst, hj2, h0]
    obtain ⟨s1, s2⟩ := lst_set hj2
    have hor : ops.toList[j]? = some o := by simpa using ho
    have hrj : ∃ r, rs[j]? = some r := ⟨_, List.getElem?_eq_getElem (by omega)⟩
    obtain ⟨r, hr⟩ := hrj
    obtain ⟨k1, k2, k3, k4, k5⟩ := D.step hc hor hr hlj (fun e he hbd => hb e he hbd) s1 s2
    unfold wpOp
    rw [ho]
    refine one_op hcall (k1 t ht) k2 N fun a' w' N' => ?_
    refine ih (listed.setIfInBounds j true) a' w' (putA t o.dst r.δ.v) (by simp [hsz]) ?_ ?_ (by unfold putA; cases o.dst <;> simp [htl]) ?_ ?_
    · have := unl_less hjn hlj s1 s2
      omega
    · intro k o' hk hl e he hbd
      by_cases hkj : k = j
      · subst hkj
        rw [hor] at hk; cases hk
        by_cases he' : e.on = k
        · rw [he']; exact s1
        · rw [s2 _ he']; exact hb e he hbd
      · rw [s2 k hkj] at hl
        by_cases he' : e.on = j
        · rw [he']; exact s1
        · rw [s2 _ he']; exact hc k o' hk hl e he hbd
    · rw [k3, ← ht, ← k5, putA_fn, htl]
    · rw [k4]
      exact N'

/-- A world that differs in how often it drew alone. -/
theorem Now.drew {t : List AV} {h : Nat → Option Blk} {a : Act} {w1 : World} (N : Now σ π w t h a w1) (d : Nat) : Now σ π w t h a { w1 with drawn := d } := by
  obtain ⟨hd, σ1, π1, ht, D⟩ := N
  have E : Ext σ1 π1 w1 σ1 π1 { w1 with drawn := d } := Ext.of_old (fun _ _ _ h => h) D.rel.prot D.rel.lt (fun _ _ => rfl)
  refine ⟨hd, σ1, π1, ht.mono E, D.trans ⟨E, ⟨Nat.le_refl _, rfl, rfl, rfl, fun _ _ _ => rfl, fun b g l hl => .inr ⟨b, g, l, hl, rfl⟩, fun _ _ hp => .inl hp⟩, ?_⟩⟩
  exact ⟨fun b x hx => (D.rel.blk b x hx).mono E (fun _ => rfl) (fun _ _ _ => rfl) (fun _ _ _ _ hp => hp), D.rel.non, D.rel.inj, D.rel.lt, D.rel.prot⟩

/-- Every region. -/
theorem region_all (hcall : CallOK P call) (hm : P.follows .mixedOrders = true) {id : Nat} {ops : Array Oper} {draw : Bool} {Q : Exit → Act → World → Prop} {st st' : St} {a : Act} {w1 : World}
    (hr : runRegion (tiOf P) call cfg ops draw st = some st') (N : Now σ π w st.t (st.h[·]?) a w1)
    (hQ : ∀ a' w', Now σ π w st'.t (st'.h[·]?) a' w' → Q .normal a' w') : (Code.region id ops draw).wp P Q a w1 := by
  unfold runRegion at hr
  split at hr
  · rename_i hd
    subst hd
    split at hr
    · rename_i st2 rs hrun
      split at hr
      · rename_i hok
        cases hr
        simp only [Bool.and_eq_true] at hok
        obtain ⟨i1, i2, i3, i4⟩ := textRun_of _ _ _ _ hrun
        have D : Drawn P call cfg ops.toList rs st.t (st.h[·]?) := ⟨i1, hok.1, hok.2⟩
        refine wp_region_any hm ?_
        have hf : lst (Array.replicate ops.size false) = fun _ => false := by
          funext i
          simp only [lst]
          rcases Nat.lt_or_ge i ops.size with h | h
          · simp [h]
          · simp [Nat.not_lt.2 h]
        have none1 : comb (upT st.t.length) (fun _ => false) 0 rs (st.t[·]?) = (st.t[·]?) := by
          funext x; exact comb_not (upT_A _) (upT_B _) _ x 0 rs _ fun _ _ _ _ => rfl
        have none2 : comb upH (fun _ => false) 0 rs (st.h[·]?) = (st.h[·]?) := by
          funext x; exact comb_not upH_A upH_B _ x 0 rs _ fun _ _ _ _ => rfl
        refine any_drawn hcall D (t' := st'.t) (h' := (st'.h[·]?)) i2 i3 hQ ops.size _ a _ st.t (by simp) ?_ ?_ rfl ?_ ?_
        · rw [hf]; unfold unl; exact Nat.le_trans (List.length_filter_le ..) (by simp)
        · rw [hf]; intro j o _ h; cases h
        · rw [hf, none1]
        · rw [hf, none2]; exact N.drew _
      · cases hr
    · cases hr
  · rename_i hd
    have : draw = false := by simpa using hd
    subst this
    exact region_text hcall hr N hQ

end Go.Ws
