/-
  Regions whose order is drawn: any order comes to what the text's order comes to, where the operations are apart.
  Conditions: none.
-/
import Derived.Test.YtpfhlkhdmikdaaaZRegion
namespace Go.Ws
set_option linter.unusedVariables false
set_option linter.unusedSimpArgs false

variable {P : Program}

/-! ### An operation answers by what it looks at -/
theorem am_local {α : Type} : ∀ (m : AM α) (h h' : Nat → Option Blk) (a : α) (l : List Nat), m.run h = some (a, l) → (∀ b ∈ l, h' b = h b) → m.run h' = some (a, l)
  | .ret _, _, _, _, _, e, _ => e
  | .fail, _, _, _, _, e, _ => by cases e
  | .rd b k, h, h', a, l, e, hl => by
    simp only [AM.run] at e ⊢
    split at e
    · cases e
    · rename_i x hx
      split at e
      · cases e
      · rename_i a' l' he
        cases e
        rw [hl b (by simp), hx]
        simp only []
        rw [am_local (k x) h h' _ _ he (fun c hc => hl c (by simp [hc]))]

theorem evA_congr {t t' : List AV} {x : Operand} (h : ∀ d, x = .tmp d → t[d]? = t'[d]?) : evA t x = evA t' x := by
  cases x with
  | tmp d => simp [evA, List.getD_eq_getElem?_getD, h d rfl]
  | _ => rfl

theorem evL_congr {t t' : List AV} : ∀ {l : List Operand}, (∀ x ∈ l, evA t x = evA t' x) → evL t l = evL t' l
  | [], _ => rfl
  | x :: l, h => by simp only [evL]; rw [h x (by simp), evL_congr (fun y hy => h y (by simp [hy]))]

theorem evP_congr {t t' : List AV} : ∀ {l : List (Nat × Operand)}, (∀ p ∈ l, evA t p.2 = evA t' p.2) → evP t l = evP t' l
  | [], _ => rfl
  | (i, x) :: l, h => by simp only [evP]; rw [h (i, x) (by simp), evP_congr (fun y hy => h y (by simp [hy]))]

theorem evO_congr {t t' : List AV} {x : Option Operand} (h : ∀ y, x = some y → evA t y = evA t' y) : evO t x = evO t' x := by
  cases x with
  | none => rfl
  | some x => simp only [evO]; rw [h x rfl]

theorem aop_congr {T : Nat → Option TI} {call : CallT} {cfg : Nat → Bool × Bool} {n : Nat} {t t' : List AV} (o : Op) (h : ∀ x ∈ o.operands, evA t x = evA t' x) : aop T call cfg n t o = aop T call cfg n t' o := by
  cases o <;> simp only [Op.operands] at h <;> simp only [aop]
  case build ty ps => rw [evP_congr (t' := t') fun p hp => h p.2 (by simp only [List.mem_toArray, List.mem_map]; exact ⟨p, hp, rfl⟩)]
  case buildSlice ty len ps => rw [evP_congr (t' := t') fun p hp => h p.2 (by simp only [List.mem_toArray, List.mem_map]; exact ⟨p, hp, rfl⟩)]
  case makeFunc fn first c => cases fn <;> simp only [] ; rw [evL_congr (t' := t') fun x hx => h x (by simp at hx; simp [hx])]
  case makeMap ty r => cases r <;> rfl
  case slice ty x lo hi mx =>
    rw [h x (by simp), evO_congr (t' := t') (x := lo) fun y hy => h y (by simp [hy]), evO_congr (t' := t') (x := hi) fun y hy => h y (by simp [hy]), evO_congr (t' := t') (x := mx) fun y hy => h y (by simp [hy])]
  case call c =>
    have hargs : evL t c.args.toList = evL t' c.args.toList := evL_congr fun x hx => h x (by simp at hx; simp [Call.operands, hx])
    rw [hargs]
    cases hc : c.callee with
    | value f => simp only []; rw [h f (by simp [Call.operands, hc])]
    | _ => rfl
  all_goals (first | rfl | (simp only [List.mem_toArray, List.mem_cons, List.not_mem_nil, or_false, forall_eq_or_imp, forall_eq] at h; simp only [h]; done) | (simp_all; done))

theorem stepF_congr {T : Nat → Option TI} {call : CallT} {cfg : Nat → Bool × Bool} {ops : List Oper} {n : Nat} {t t' : List AV} {h h' : Nat → Option Blk} {o : Oper} {δ : Delta} {L : List Nat}
    (hs : stepF T call cfg ops n t h o = some (δ, L)) (ht : ∀ d ∈ looks ops o, t'[d]? = t[d]?) (hh : ∀ b ∈ L, h' b = h b) : stepF T call cfg ops n t' h' o = some (δ, L) := by
  have hw : wantedA ops t' o = wantedA ops t o := by
    unfold wantedA
    cases hg : o.guard with
    | none => rfl
    | some g =>
      obtain ⟨j, want⟩ := g
      simp only []
      cases ho : (ops[j]?).bind (·.dst) with
      | none => rfl
      | some d =>
        simp only []
        rw [ht d (by simp [looks, hg, ho])]
  unfold stepF at hs ⊢
  rw [hw]
  split at hs
  · rename_i hwt
    rw [if_pos hwt]
    rw [aop_congr (t' := t) o.op fun x hx => evA_congr fun d hd => ht d (by
      subst hd
      exact List.mem_append_left _ (List.mem_filterMap.2 ⟨.tmp d, by simpa using hx, rfl⟩))]
    exact am_local _ _ _ _ _ hs hh
  · rename_i hwt
    rw [if_neg hwt]
    exact hs

/-! ### Temporaries and blocks as places -/
def upT (len : Nat) (r : Rec) (s : Nat → Option AV) : Nat → Option AV := fun x => if r.dst = some x then (if x < len then some r.δ.v else none) else s x
def tchT (r : Rec) (x : Nat) : Prop := r.dst = some x
theorem upT_A (len : Nat) (r : Rec) (s : Nat → Option AV) (x : Nat) (h : ¬ tchT r x) : upT len r s x = s x := if_neg h
theorem upT_B (len : Nat) (r : Rec) (s s' : Nat → Option AV) (x : Nat) (h : tchT r x) : upT len r s x = upT len r s' x := by
  simp only [tchT] at h
  simp [upT, h]
theorem putA_fn (t : List AV) (r : Rec) : ((putA t r.dst r.δ.v)[·]?) = upT t.length r (t[·]?) := by
  funext x
  unfold upT putA
  cases r.dst with
  | none => simp
  | some d =>
    simp only [Option.some.injEq]
    by_cases e : d = x
    · subst e
      rw [if_pos rfl, List.getElem?_set]
      simp
    · rw [if_neg e, List.getElem?_set_ne e]

def upH (r : Rec) (h : Nat → Option Blk) : Nat → Option Blk := updF h r.n r.δ
def tchH (r : Rec) (b : Nat) : Prop := b ∈ r.δ.up.map (·.1) ++ List.range' r.n r.δ.nw.length
theorem upH_A (r : Rec) (s : Nat → Option Blk) (b : Nat) (h : ¬ tchH r b) : upH r s b = s b := by
  simp only [tchH, List.mem_append, not_or, List.mem_range'_1] at h
  unfold upH updF
  rw [if_neg h.2]
  exact updF1_not h.1
theorem updF1_in {b : Nat} : ∀ {l : List (Nat × Blk)} {h h' : Nat → Option Blk}, b ∈ l.map (·.1) ∨ h b = h' b → updF1 h l b = updF1 h' l b
  | [], _, _, hb => by simpa [updF1] using hb
  | (c, x) :: l, h, h', hb => by
    simp only [updF1]
    refine updF1_in ?_
    by_cases e : b = c
    · exact .inr (by simp [e])
    · rcases hb with hb | hb
      · simp only [List.map_cons, List.mem_cons] at hb
        exact .inl (hb.resolve_left e)
      · exact .inr (by simp [e, hb])
theorem upH_B (r : Rec) (s s' : Nat → Option Blk) (b : Nat) (h : tchH r b) : upH r s b = upH r s' b := by
  simp only [tchH, List.mem_append, List.mem_range'_1] at h
  unfold upH updF
  split
  · rfl
  · rename_i hn
    exact updF1_in (.inl (h.resolve_right hn))

/-! ### The text's run -/
section
variable (T : Nat → Option TI) (call : CallT) (cfg : Nat → Bool × Bool) (ops : List Oper)

/-- Each record is its operation's, at the state that the text's order comes to. -/
def TextRun (len : Nat) : List Oper → List Rec → (Nat → Option AV) → (Nat → Option Blk) → Prop
  | [], [], _, _ => True
  | o :: l, r :: rs, t, h => r.dst = o.dst ∧ (∀ tl : List AV, (tl[·]?) = t → stepF T call cfg ops r.n tl h o = some (r.δ, r.l)) ∧ (∀ b, r.n ≤ b → h b = none) ∧ TextRun len l rs (upT len r t) (upH r h)
  | _, _, _, _ => False

variable {T call cfg ops}
theorem textRun_of : ∀ (l : List Oper) (st st' : St) (rs : List Rec), runOpsD T call cfg ops l st = some (st', rs) →
    TextRun T call cfg ops st.t.length l rs (st.t[·]?) (st.h[·]?) ∧ (st'.t[·]?) = comb (upT st.t.length) (fun _ => true) 0 rs (st.t[·]?) ∧ (st'.h[·]?) = comb upH (fun _ => true) 0 rs (st.h[·]?) ∧ st'.t.length = st.t.length
  | [], st, st', rs, e => by cases e; exact ⟨trivial, rfl, rfl, rfl⟩
  | o :: l, st, st', rs, e => by
    simp only [runOpsD] at e
    split at e
    · rename_i δ L hs
      split at e
      · rename_i hu
        split at e
        · rename_i st2 rs2 hr
          cases e
          obtain ⟨h1, h2⟩ := after_fn (dst := o.dst) hu
          have hlen : (st.after o.dst δ).t.length = st.t.length := by unfold St.after putA; cases o.dst <;> simp
          obtain ⟨i1, i2, i3, i4⟩ := textRun_of l _ _ _ hr
          have ht : ((st.after o.dst δ).t[·]?) = upT st.t.length ⟨st.h.length, o.dst, δ, L⟩ (st.t[·]?) := putA_fn st.t ⟨st.h.length, o.dst, δ, L⟩
          rw [hlen, ht, h1] at i1
          rw [hlen, ht] at i2
          rw [h1] at i3
          have shift : ∀ {K V : Type} (up : Rec → (K → V) → K → V) (k : Nat) (rs : List Rec) (s : K → V), comb up (fun _ => true) (k + 1) rs s = comb up (fun _ => true) k rs s := by
            intro K V up k rs
            induction rs generalizing k with
            | nil => intro s; rfl
            | cons r rs ih => intro s; exact ih (k + 1) _
          refine ⟨⟨rfl, fun tl htl => ?_, fun b hb => List.getElem?_eq_none hb, i1⟩, ?_, ?_, by omega⟩
          · have : tl = st.t := List.ext_getElem? fun i => congrFun htl i
            rw [this]; exact hs
          · rw [i2]
            exact (shift _ 0 rs2 _).symm
          · rw [i3]
            exact (shift _ 0 rs2 _).symm
        · cases e
      · cases e
    · cases e

theorem textRun_len : ∀ {len : Nat} {l : List Oper} {rs : List Rec} {t : Nat → Option AV} {h : Nat → Option Blk}, TextRun T call cfg ops len l rs t h → rs.length = l.length
  | _, [], [], _, _, _ => rfl
  | _, _ :: _, _ :: _, _, _, e => by simp [textRun_len e.2.2.2]

/-- One record, at the state that those ahead of it come to. -/
theorem textRun_at {len : Nat} (l : List Oper) : ∀ (rs : List Rec) (t : Nat → Option AV) (h : Nat → Option Blk), TextRun T call cfg ops len l rs t h → ∀ (j k : Nat) o r, l[j]? = some o → rs[j]? = some r →
    r.dst = o.dst ∧ (∀ tl : List AV, (tl[·]?) = comb (upT len) (fun i => decide (i < k + j)) k rs t → stepF T call cfg ops r.n tl (comb upH (fun i => decide (i < k + j)) k rs h) o = some (r.δ, r.l)) ∧
      (∀ b, r.n ≤ b → comb upH (fun i => decide (i < k + j)) k rs h b = none) := by
  induction l with
  | nil => intro rs t h e j k o r ho hr; simp at ho
  | cons o0 l ih =>
    intro rs t h e j k o r ho hr
    cases rs with
    | nil => exact e.elim
    | cons r0 rs =>
      cases j with
      | zero =>
        simp only [List.getElem?_cons_zero, Option.some.injEq] at ho hr
        subst ho hr
        have h1 : comb (upT len) (fun i => decide (i < k + 0)) k (r0 :: rs) t = t := by
          funext x
          refine comb_not (upT_A len) (upT_B len) _ x k _ t (fun i r hi ht => ?_)
          simp
        have h2 : comb upH (fun i => decide (i < k + 0)) k (r0 :: rs) h = h := by
          funext x
          refine comb_not upH_A upH_B _ x k _ h (fun i r hi ht => ?_)
          simp
        rw [h1, h2]
        exact ⟨e.1, e.2.1, e.2.2.1⟩
      | succ j =>
        have := ih rs _ _ e.2.2.2 j (k + 1) o r (by simpa using ho) (by simpa using hr)
        have hk : (fun i => decide (i < k + (j + 1))) = (fun i => decide (i < k + 1 + j)) := by funext i; rw [show k + (j + 1) = k + 1 + j by omega]
        have hd : decide (k < k + 1 + j) = true := decide_eq_true (by omega)
        have c1 : comb (upT len) (fun i => decide (i < k + (j + 1))) k (r0 :: rs) t = comb (upT len) (fun i => decide (i < k + 1 + j)) (k + 1) rs (upT len r0 t) := by
          rw [hk]; simp only [comb, hd, if_true]
        have c2 : comb upH (fun i => decide (i < k + (j + 1))) k (r0 :: rs) h = comb upH (fun i => decide (i < k + 1 + j)) (k + 1) rs (upH r0 h) := by
          rw [hk]; simp only [comb, hd, if_true]
        rw [c1, c2]
        exact this
end

/-! ### Edges -/
theorem befs_spec : ∀ (l : List Oper) (acc : List Nat), (befs l acc).length = acc.length + l.length ∧ (∀ j, j < acc.length → (befs l acc)[j]? = acc[j]?) ∧
    ∀ j o, l[j]? = some o → (befs l acc)[acc.length + j]? = some (befOne ((befs l acc).take (acc.length + j)) o)
  | [], acc => ⟨rfl, fun _ _ => rfl, fun j o h => by simp at h⟩
  | o :: l, acc => by
    obtain ⟨h1, h2, h3⟩ := befs_spec l (acc ++ [befOne acc o])
    simp only [List.length_append, List.length_singleton] at h1 h2 h3
    have hp : ∀ k, k ≤ acc.length + 1 → (befs (o :: l) acc).take k = (acc ++ [befOne acc o]).take k := by
      intro k hk
      refine List.ext_getElem? fun i => ?_
      rw [List.getElem?_take, List.getElem?_take]
      split
      · exact h2 i (by omega)
      · rfl
    refine ⟨by simp only [befs, List.length_cons]; omega, fun j hj => ?_, fun j o' ho => ?_⟩
    · simp only [befs]
      rw [h2 j (by omega), List.getElem?_append_left hj]
    · cases j with
      | zero =>
        simp at ho; subst ho
        rw [hp _ (by omega)]
        simp only [befs, Nat.add_zero]
        rw [h2 acc.length (by omega), List.take_left']
        · simp
        · rfl
      | succ j =>
        have := h3 j o' (by simpa using ho)
        simp only [befs]
        rw [show acc.length + (j + 1) = acc.length + 1 + j by omega]
        exact this

theorem fold_bit (acc : List Nat) (i : Nat) : ∀ (l : List Edge) (s : Nat), (l.foldl (fun s e => if Region.binds .any e then s ||| 2 ^ e.on ||| acc.getD e.on 0 else s) s).testBit i = true →
    s.testBit i = true ∨ ∃ e ∈ l, Region.binds .any e = true ∧ (e.on = i ∨ (acc.getD e.on 0).testBit i = true)
  | [], s, h => .inl h
  | e :: l, s, h => by
    rcases fold_bit acc i l _ h with h | ⟨e', he, hb⟩
    · replace h : (if Region.binds Region.Mode.any e = true then s ||| 2 ^ e.on ||| acc.getD e.on 0 else s).testBit i = true := h
      split at h
      · rename_i hb
        simp only [Nat.testBit_or, Bool.or_eq_true, Nat.testBit_two_pow, decide_eq_true_eq] at h
        rcases h with (h | h) | h
        · exact .inl h
        · exact .inr ⟨e, by simp, hb, .inl h⟩
        · exact .inr ⟨e, by simp, hb, .inr h⟩
      · exact .inl h
    · exact .inr ⟨e', by simp [he], hb⟩

/-- A set that holds what binds its members holds all that comes ahead of them. -/
theorem closed_bef {ops : List Oper} {L : Nat → Bool} (hc : ∀ j o, ops[j]? = some o → L j = true → ∀ e ∈ o.after, Region.binds .any e = true → L e.on = true) :
    ∀ (j i : Nat), L j = true → ((befs ops []).getD j 0).testBit i = true → L i = true := by
  intro j
  induction j using Nat.strongRecOn with
  | _ j ih =>
  intro i hj hb
  obtain ⟨h1, h2, h3⟩ := befs_spec ops []
  simp only [List.length_nil, Nat.zero_add] at h1 h2 h3
  rcases Nat.lt_or_ge j ops.length with hlt | hge
  · have ho := h3 j ops[j] (List.getElem?_eq_getElem hlt)
    rw [List.getD_eq_getElem?_getD, ho] at hb
    simp only [Option.getD_some, befOne] at hb
    rcases fold_bit _ i _ _ hb with h | ⟨e, he, hbd, h⟩
    · simp at h
    · have hLe := hc j ops[j] (List.getElem?_eq_getElem hlt) hj e (by simpa using he) hbd
      rcases h with h | h
      · rw [← h]; exact hLe
      · rw [List.getD_eq_getElem?_getD, List.getElem?_take] at h
        split at h
        · rename_i hej
          refine ih e.on hej i hLe ?_
          rw [List.getD_eq_getElem?_getD]
          exact h
        · simp at h
  · rw [List.getD_eq_getElem?_getD, List.getElem?_eq_none (by omega)] at hb
    simp at hb

theorem edgesOk_spec : ∀ (l : List Oper) (k : Nat), edgesOk k l = true → ∀ j o, l[j]? = some o → ∀ e ∈ o.after, Region.binds .any e = true → e.on < k + j
  | o0 :: l, k, h, 0, o, ho, e, he, hb => by
    simp at ho; subst ho
    simp only [edgesOk, Bool.and_eq_true, List.all_eq_true] at h
    have := h.1 e (by simpa using he)
    simp [hb] at this
    omega
  | o0 :: l, k, h, j + 1, o, ho, e, he, hb => by
    simp only [edgesOk, Bool.and_eq_true] at h
    have := edgesOk_spec l (k + 1) h.2 j o (by simpa using ho) e he hb
    omega
  | [], _, _, _, _, ho, _, _, _ => by simp at ho

theorem feet_at (ops : List Oper) : ∀ (l : List Oper) (rs : List Rec) (j : Nat) o r, l[j]? = some o → rs[j]? = some r → (feet ops l rs)[j]? = some (footOf ops o r)
  | o0 :: l, r0 :: rs, 0, o, r, ho, hr => by simp at ho hr; subst ho hr; rfl
  | o0 :: l, r0 :: rs, j + 1, o, r, ho, hr => by simpa [feet] using feet_at ops l rs j o r (by simpa using ho) (by simpa using hr)
  | [], _, _, _, _, ho, _ => by simp at ho
  | _ :: _, [], _, _, _, _, hr => by simp at hr

theorem disj_spec {a b : List Nat} (h : disj a b = true) {x : Nat} (ha : x ∈ a) (hb : x ∈ b) : False := by
  have := List.all_eq_true.1 h x ha
  simp [hb] at this

theorem feetOk_spec {before : List Nat} {fs : List Foot} (h : feetOk before fs = true) {i j : Nat} {x y : Foot} (hij : i < j) (hx : fs[i]? = some x) (hy : fs[j]? = some y) : (before.getD j 0).testBit i = true ∨ x.apart y = true := by
  have hj := (List.getElem?_eq_some_iff.1 hy).1
  have h1 := List.all_eq_true.1 h j (List.mem_range.2 hj)
  have h2 := List.all_eq_true.1 h1 i (List.mem_range.2 hij)
  rw [hx, hy] at h2
  simpa using h2

theorem apart_spec {x y : Foot} (h : x.apart y = true) : (∀ b, b ∈ x.w → b ∈ y.w → False) ∧ (∀ b, b ∈ x.w → b ∈ y.r → False) ∧ (∀ b, b ∈ x.r → b ∈ y.w → False) ∧
    (∀ b, b ∈ x.tw → b ∈ y.tw → False) ∧ (∀ b, b ∈ x.tw → b ∈ y.tr → False) ∧ (∀ b, b ∈ x.tr → b ∈ y.tw → False) := by
  simp only [Foot.apart, Bool.and_eq_true] at h
  exact ⟨fun b => disj_spec h.1.1.1.1.1, fun b => disj_spec h.1.1.1.1.2, fun b => disj_spec h.1.1.1.2, fun b => disj_spec h.1.1.2, fun b => disj_spec h.1.2, fun b => disj_spec h.2⟩

end Go.Ws
