/-
  Every operation, under the model's own rule for operations.
  Conditions: none.
-/
import Derived.Test.YtpfhlkhdmikdaaaZCall2
namespace Go.Ws
set_option linter.unusedVariables false
set_option linter.unusedSimpArgs false

section
variable {P : Program} {σ : Sig} {π : Prot} {w : World} {h : Nat → Option Blk} {n : Nat} {δ : Delta} {L : List Nat} {t : List AV} {a : Act}

theorem vrs_getD {c : List AV} {d : Array Value} (hv : VRs σ π w c d) (i : Nat) : VR σ π w (c.getD i undefA) (d.getD i undef) := by
  rcases Nat.lt_or_ge i c.length with hlt | hge
  · have hd : i < d.size := by rw [hv.1]; exact hlt
    have := hv.2 i c[i] d[i] (List.getElem?_eq_getElem hlt) (by simp [hd])
    simpa [List.getD_eq_getElem?_getD, hlt, Array.getD, hd] using this
  · have hd : ¬ i < d.size := by rw [hv.1]; omega
    have e1 : c.getD i undefA = undefA := by rw [List.getD_eq_getElem?_getD, List.getElem?_eq_none hge]; rfl
    have e2 : d.getD i undef = undef := by simp [Array.getD, hd]
    rw [e1, e2]
    exact undef_vr _ _ _

theorem ev_vr (ht : VRs σ π w t a.tmps) {x : Operand} {v : AV} (e : evA t x = some v) : VR σ π w v (a.eval x) := by
  cases x with
  | tmp k =>
    simp only [evA, Option.some.injEq] at e
    subst e
    exact vrs_getD ht k
  | const u => exact ofVal_vr e σ π w
  | global g => cases e
  | func f =>
    simp only [evA, Option.some.injEq] at e
    subst e
    exact .fn f [] #[] rfl (fun i v u h => by simp at h)

theorem evL_vr (ht : VRs σ π w t a.tmps) : ∀ {l : List Operand} {vs : List AV}, evL t l = some vs → VRs σ π w vs (l.map a.eval).toArray
  | [], vs, e => by simp [evL] at e; subst e; exact ⟨rfl, fun i v u h => by simp at h⟩
  | x :: l, vs, e => by
    simp only [evL] at e
    split at e
    · rename_i v vs' hv hvs
      cases e
      exact .cons (ev_vr ht hv) (evL_vr ht hvs)
    · cases e

theorem evP_vr (ht : VRs σ π w t a.tmps) : ∀ {l : List (Nat × Operand)} {vs : List (Nat × AV)}, evP t l = some vs → PartsR σ π w vs (l.map fun p => (p.1, a.eval p.2))
  | [], vs, e => by simp [evP] at e; subst e; exact .nil
  | (i, x) :: l, vs, e => by
    simp only [evP] at e
    split at e
    · rename_i v vs' hv hvs
      cases e
      exact .cons ⟨rfl, ev_vr ht hv⟩ (evP_vr ht hvs)
    · cases e

theorem evO_vr (ht : VRs σ π w t a.tmps) {x : Option Operand} {v : Option AV} (e : evO t x = some v) : OptR σ π w v (x.map a.eval) := by
  cases x with
  | none => simp [evO] at e; subst e; trivial
  | some x =>
    simp only [evO, Option.map_eq_some_iff] at e
    obtain ⟨v', hv, rfl⟩ := e
    exact ev_vr ht hv

theorem two_vrs {vs : List AV} {l : List Value} {x y : AV} (h : VRs σ π w [x, y] l.toArray) : ∃ u v, l = [u, v] ∧ VR σ π w x u ∧ VR σ π w y v := by
  obtain ⟨u, r, h1, hu, hr⟩ := h.tail
  obtain ⟨v, r', h2, hv', hr'⟩ := hr.tail
  have := hr'.1
  simp at this
  subst this
  have e1 : l = u :: r := by simpa using h1
  have e2 : r = [v] := by simpa using h2
  subst e2
  exact ⟨u, v, e1, hu, hv'⟩

theorem one_vrs {l : List Value} {x : AV} (h : VRs σ π w [x] l.toArray) : ∃ u, l = [u] ∧ VR σ π w x u := by
  obtain ⟨u, r, h1, hu, hr⟩ := h.tail
  have := hr.1
  simp at this
  subst this
  have e1 : l = [u] := by simpa using h1
  exact ⟨u, e1, hu⟩

theorem op_builtin (R : Rel σ π w h) (hn : δ.nw ≠ [] → h n = none) (b : Builtin) (ts : Array TypeId) (ty : Nat) (cs : Array Bool) (args : List AV) (us : List Value) (hv : VRs σ π w args us.toArray)
    (e : (aBuiltin (tiOf P) n b ts.toList args).run h = some (δ, L)) : OpDone P (builtin b ts ty cs us.toArray) σ π w h n δ := by
  unfold aBuiltin at e
  split at e
  · rename_i st xt s x hts
    obtain ⟨u1, u2, rfl, h1, h2⟩ := two_vrs (vs := []) hv
    have : ts = #[st, xt] := by rw [← Array.toArray_toList (xs := ts), hts]
    subst this
    exact op_append R hn st xt ty s x u1 u2 h1 h2 e
  · rename_i dt rest d s hts
    obtain ⟨u1, u2, rfl, h1, h2⟩ := two_vrs (vs := []) hv
    exact op_copy R dt ty ts d s u1 u2 h1 h2 (by rw [← Array.getElem?_toList, hts]; rfl) e
  · rename_i t0 x hts
    obtain ⟨u, rfl, h1⟩ := one_vrs hv
    have : ts = #[t0] := by rw [← Array.toArray_toList (xs := ts), hts]
    subst this
    exact op_clear R t0 ty x u h1 e
  · rename_i t0 x hts
    obtain ⟨u, rfl, h1⟩ := one_vrs hv
    have : ts = #[t0] := by rw [← Array.toArray_toList (xs := ts), hts]
    subst this
    exact op_len R t0 ty x u h1 e
  · rename_i t0 x hts
    obtain ⟨u, rfl, h1⟩ := one_vrs hv
    have : ts = #[t0] := by rw [← Array.toArray_toList (xs := ts), hts]
    subst this
    exact op_cap R t0 ty x u h1 e
  · rename_i x y
    obtain ⟨u1, u2, rfl, h1, h2⟩ := two_vrs (vs := []) hv
    obtain ⟨v, hm, e2⟩ := am_of e
    have hδ := am_val e2; subst hδ
    exact (op_min R true ts ty x y u1 u2 h1 h2 hm).1 rfl
  · rename_i x y
    obtain ⟨u1, u2, rfl, h1, h2⟩ := two_vrs (vs := []) hv
    obtain ⟨v, hm, e2⟩ := am_of e
    have hδ := am_val e2; subst hδ
    exact (op_min R false ts ty x y u1 u2 h1 h2 hm).2 rfl
  · rename_i t0 rest x k hts
    obtain ⟨u1, u2, rfl, h1, h2⟩ := two_vrs (vs := []) hv
    exact op_delete R t0 ty ts x k u1 u2 (by rw [← Array.getElem?_toList, hts]; rfl) h1 h2 e
  · exact (am_fail e).elim

/-- The operation's own rule, out of what it comes to. -/
theorem wp_of_done {o : Oper} {K : Act → World → Prop} {Q : Exit → Act → World → Prop} (hd : OpDone P (execOp a.eval o) σ π w h n δ)
    (hK : ∀ u σ' π' w', VR σ' π' w' δ.v u → Done σ π w σ' π' w' (updF h n δ) → K (a.put o.dst u) w') : o.wp P a w K Q := by
  obtain ⟨r, u, w', σ', π', hr, hru, hv, hD⟩ := hd
  unfold Oper.wp
  rw [hr]
  rcases hru with rfl | ⟨rfl, rfl⟩
  · exact hK u σ' π' w' hv hD
  · exact hK _ σ' π' w' hv hD

theorem ex_build (ρ : Operand → Value) (d : Option Nat) (tt : Nat) (ps : Array (Nat × Operand)) (ty : Nat) (pos) (af) (gd) :
    execOp ρ ⟨d, .build tt ps, ty, pos, af, gd⟩ = (do pure (.value (← Instr.build tt (ps.map fun p => (p.1, ρ p.2))))) := by
  unfold execOp
  rfl

theorem ex_buildSlice (ρ : Operand → Value) (d : Option Nat) (tt len : Nat) (ps : Array (Nat × Operand)) (ty : Nat) (pos) (af) (gd) :
    execOp ρ ⟨d, .buildSlice tt len ps, ty, pos, af, gd⟩ = (do pure (.value (← Instr.buildSlice tt len (ps.map fun p => (p.1, ρ p.2))))) := by
  unfold execOp
  rfl

set_option maxHeartbeats 1000000 in
/-- EVERY OPERATION: what the abstract machine makes of it is the model's. -/
theorem op_all {call : CallT} (hcall : CallOK P call) (cfg : Nat → Bool × Bool) (R : Rel σ π w h) (ht : VRs σ π w t a.tmps) (o : Oper) (hn : ∀ i, i < δ.nw.length → h (n + i) = none)
    (e : (aop (tiOf P) call cfg n t o.op).run h = some (δ, L)) {K : Act → World → Prop} {Q : Exit → Act → World → Prop}
    (hK : ∀ u σ' π' w', VR σ' π' w' δ.v u → Done σ π w σ' π' w' (updF h n δ) → K (a.put o.dst u) w') : o.wp P a w K Q := by
  have hn1 : δ.nw ≠ [] → h n = none := fun hne => by
    have := hn 0 (List.length_pos_iff.2 hne)
    simpa using this
  have pure1 : ∀ {x : Operand} {k : AV → AM Delta}, (match evA t x with | some v => k v | none => AM.fail).run h = some (δ, L) → ∃ v, evA t x = some v ∧ (k v).run h = some (δ, L) := by
    intro x k e
    split at e
    · rename_i v hv; exact ⟨v, hv, e⟩
    · exact (am_fail e).elim
  obtain ⟨dst, op, ty, pos, after, guard⟩ := o
  simp only at e hK
  have fin : OpDone P (execOp a.eval ⟨dst, op, ty, pos, after, guard⟩) σ π w h n δ → Oper.wp P ⟨dst, op, ty, pos, after, guard⟩ a w K Q := fun hd => wp_of_done hd hK
  have isVal : ∀ {v : AV} {u : Value}, VR σ π w v u → δ = ⟨v, [], []⟩ → (execOp a.eval ⟨dst, op, ty, pos, after, guard⟩).run P w = .ok (.value u) w → OpDone P (execOp a.eval ⟨dst, op, ty, pos, after, guard⟩) σ π w h n δ := by
    intro v u hv hδ hr
    subst hδ
    exact ⟨_, u, w, σ, π, hr, .inl rfl, hv, by rw [updF_none]; exact .refl R⟩
  cases op with
  | move x =>
    obtain ⟨v, hv, e2⟩ := pure1 e
    exact fin (isVal (ev_vr ht hv) (am_val e2) rfl)
  | assign x =>
    obtain ⟨v, hv, e2⟩ := pure1 e
    exact fin (isVal (ev_vr ht hv) (am_val e2) rfl)
  | pick c x y =>
    obtain ⟨v, hv, e2⟩ := pure1 e
    have hvr := ev_vr ht hv
    split at e2
    · rename_i b
      cases hb : a.eval c <;> rw [hb] at hvr <;> cases hvr
      split at e2
      · rename_i hbt
        obtain ⟨v2, hv2, e3⟩ := pure1 e2
        exact fin (isVal (ev_vr ht hv2) (am_val e3) (by simp [execOp, hb, hbt, asBool]))
      · rename_i hbf
        obtain ⟨v2, hv2, e3⟩ := pure1 e2
        exact fin (isVal (ev_vr ht hv2) (am_val e3) (by simp [execOp, hb, hbf, asBool]))
    · exact (am_fail e2).elim
  | alloc el => exact fin (op_alloc R hn1 el e)
  | box el x =>
    obtain ⟨v, hv, e2⟩ := pure1 e
    exact fin (op_box R hn1 el v _ (ev_vr ht hv) e2)
  | build tt ps =>
    simp only [aop] at e
    split at e
    · rename_i ps' hps
      refine fin ?_
      rw [ex_build]
      exact op_build R tt ps' _ (by rw [Array.toList_map]; exact evP_vr ht hps) e
    · exact (am_fail e).elim
  | buildSlice tt len ps =>
    simp only [aop] at e
    split at e
    · rename_i ps' hps
      refine fin ?_
      rw [ex_buildSlice]
      exact op_buildSlice R hn1 tt len ps' _ (by rw [Array.toList_map]; exact evP_vr ht hps) e
    · exact (am_fail e).elim
  | load tt x =>
    obtain ⟨v, hv, e2⟩ := pure1 e
    exact fin (op_load R tt v _ (ev_vr ht hv) e2)
  | store tt x y =>
    obtain ⟨v, hv, e2⟩ := pure1 e
    obtain ⟨v2, hv2, e3⟩ := pure1 e2
    exact fin (op_store R tt v v2 _ _ (ev_vr ht hv) (ev_vr ht hv2) e3)
  | nilCheck x =>
    obtain ⟨v, hv, e2⟩ := pure1 e
    have hvr := ev_vr ht hv
    split at e2
    · exact (am_fail e2).elim
    · exact (am_fail e2).elim
    · rename_i h1 h2
      have hδ := am_val e2
      refine fin (isVal hvr hδ ?_)
      generalize hu : a.eval x = u at hvr
      cases hvr <;> first | exact absurd rfl h1 | exact absurd rfl h2 | (simp only [execOp, hu]; rfl)
  | binOp op tt x y yt =>
    obtain ⟨v, hv, e2⟩ := pure1 e
    obtain ⟨v2, hv2, e3⟩ := pure1 e2
    obtain ⟨r, hr, e4⟩ := am_of e3
    have hδ := am_val e4; subst hδ
    exact fin (op_bin R op tt x y v v2 _ _ (ev_vr ht hv) (ev_vr ht hv2) hr)
  | unOp op tt x =>
    obtain ⟨v, hv, e2⟩ := pure1 e
    obtain ⟨r, hr, e4⟩ := am_of e2
    have hδ := am_val e4; subst hδ
    exact fin (op_un R op v _ (ev_vr ht hv) hr)
  | convert s d x =>
    obtain ⟨v, hv, e2⟩ := pure1 e
    exact fin (op_convert R s d v _ (ev_vr ht hv) e2)
  | sliceToArrayPointer tt x =>
    obtain ⟨v, hv, e2⟩ := pure1 e
    have hvr := ev_vr ht hv
    split at e2
    · rename_i len el sz bts z cmp hst
      obtain ⟨d, inf, h1, h2, he⟩ := ti_spec hst
      simp only [TI.mk.injEq] at he
      obtain rfl := tk_array he.1.symm
      split at e2
      · rename_i ei sz' rows _
        split at e2
        · rename_i hc
          obtain ⟨hs1, rfl, hl, h0⟩ := hc
          have hδ := am_val e2
          generalize hu : a.eval x = u at hvr
          cases hvr with
          | inl0 => simp at hl; omega
          | inl _ _ B o c uu hf hlc hcc hvv =>
            refine fin (isVal (u := .pointer (some ⟨B, o + 0 * 1 + 0, none⟩)) (.ip 1 rows 0 0 B o uu hf (by omega) hcc hvv) hδ ?_)
            simp [execOp, hu, Instr.arrayAt, run_underlying h1, show ¬ rows.length < len by omega]
        · exact (am_fail e2).elim
      · exact (am_fail e2).elim
    · exact (am_fail e2).elim
  | makeInterface _ _ => exact (am_fail e).elim
  | makeFunc fn first c =>
    cases fn with
    | func f =>
      simp only [aop] at e
      split at e
      · rename_i vs hf hvs
        have hδ := am_val e
        have hvr := evL_vr ht hvs
        have hfirst : first = #[] := by rw [← Array.toArray_toList (xs := first), hf]
        subst hfirst
        refine fin (isVal (u := .func (.func f) #[] (c.map a.eval)) (.fn f vs _ ?_ ?_) hδ ?_)
        rotate_left 2
        · simp only [execOp, Instr.makeFunc, Array.map_empty]
          rfl
        · have := hvr.1; simpa using this
        · intro i v u hi hu
          exact hvr.2 i v u hi (by simpa using hu)
      · exact (am_fail e).elim
    | _ => exact (am_fail e).elim
  | makeMap tt r =>
    cases r with
    | none =>
      have hδ := am_ret e
      have hd := op_makeMap (P := P) R (hn1 (by rw [hδ]; simp)) tt
      rw [← hδ] at hd
      exact fin hd
    | some r => exact (am_fail e).elim
  | makeChan _ _ => exact (am_fail e).elim
  | makeSlice tt l c =>
    obtain ⟨v, hv, e2⟩ := pure1 e
    obtain ⟨v2, hv2, e3⟩ := pure1 e2
    exact fin (op_makeSlice R hn1 tt v v2 _ _ (ev_vr ht hv) (ev_vr ht hv2) e3)
  | slice tt x lo hi mx =>
    obtain ⟨v, hv, e2⟩ := pure1 e
    split at e2
    · rename_i lo' hi' mx' h1 h2 h3
      exact fin (op_slice R tt v lo' hi' mx' _ _ _ _ (ev_vr ht hv) (evO_vr ht h1) (evO_vr ht h2) (evO_vr ht h3) e2)
    · exact (am_fail e2).elim
  | fieldAddr tt x f =>
    obtain ⟨v, hv, e2⟩ := pure1 e
    exact fin (op_fieldAddr R tt v f _ (ev_vr ht hv) e2)
  | field tt x f =>
    obtain ⟨v, hv, e2⟩ := pure1 e
    exact fin (op_field R tt v f _ (ev_vr ht hv) e2)
  | indexAddr tt x i =>
    obtain ⟨v, hv, e2⟩ := pure1 e
    obtain ⟨v2, hv2, e3⟩ := pure1 e2
    exact fin (op_indexAddr R tt v v2 _ _ (ev_vr ht hv) (ev_vr ht hv2) e3)
  | index tt x i =>
    obtain ⟨v, hv, e2⟩ := pure1 e
    obtain ⟨v2, hv2, e3⟩ := pure1 e2
    exact fin (op_index R tt v v2 _ _ (ev_vr ht hv) (ev_vr ht hv2) e3)
  | lookup tt x i ok =>
    obtain ⟨v, hv, e2⟩ := pure1 e
    obtain ⟨v2, hv2, e3⟩ := pure1 e2
    exact fin (op_lookup R tt v v2 ok _ _ (ev_vr ht hv) (ev_vr ht hv2) e3)
  | mapUpdate tt m k x =>
    obtain ⟨v, hv, e2⟩ := pure1 e
    obtain ⟨v2, hv2, e3⟩ := pure1 e2
    obtain ⟨v3, hv3, e4⟩ := pure1 e3
    exact fin (op_mapUpdate R tt v v2 v3 _ _ _ (ev_vr ht hv) (ev_vr ht hv2) (ev_vr ht hv3) e4)
  | insert _ _ _ _ => exact (am_fail e).elim
  | mapEntry tt m k =>
    obtain ⟨v, hv, e2⟩ := pure1 e
    obtain ⟨v2, hv2, e3⟩ := pure1 e2
    exact fin (op_mapEntry R tt v v2 _ _ (ev_vr ht hv) (ev_vr ht hv2) e3)
  | entryStore tt m s x =>
    obtain ⟨v, hv, e2⟩ := pure1 e
    obtain ⟨v2, hv2, e3⟩ := pure1 e2
    obtain ⟨v3, hv3, e4⟩ := pure1 e3
    exact fin (op_entryStore R tt v v2 v3 _ _ _ (ev_vr ht hv) (ev_vr ht hv2) (ev_vr ht hv3) e4)
  | extract x i =>
    obtain ⟨v, hv, e2⟩ := pure1 e
    have hvr := ev_vr ht hv
    split at e2
    · rename_i l
      split at e2
      · rename_i v2 hv2
        have hδ := am_val e2
        generalize hu : a.eval x = u at hvr
        cases hvr with
        | tup _ d hl hvv =>
          obtain ⟨u2, hu2, hvr2⟩ := VRs.at_ (⟨hl, hvv⟩ : VRs σ π w l d) hv2
          exact fin (isVal hvr2 hδ (by simp only [execOp, hu, Instr.extract, hu2]; rfl))
      · exact (am_fail e2).elim
    · exact (am_fail e2).elim
  | call c =>
    simp only [aop] at e
    split at e
    · rename_i b hcb
      split at e
      · rename_i args hargs
        have hvr := evL_vr ht hargs
        have hd := op_builtin (cs := c.args.map fun | .const _ => true | _ => false) (ty := ty) R hn1 b c.argTypes args _ hvr e
        refine fin ?_
        have hex : execOp a.eval ⟨dst, .call c, ty, pos, after, guard⟩ = builtin b c.argTypes ty (c.args.map fun | .const _ => true | _ => false) (c.args.toList.map a.eval).toArray := by
          rw [show (c.args.toList.map a.eval).toArray = c.args.map a.eval from by rw [← Array.toList_map]]
          simp only [execOp, resolve, hcb]
          rfl
        rw [hex]
        exact hd
      · exact (am_fail e).elim
    · rename_i f hcf
      obtain ⟨v, hv, e2⟩ := pure1 e
      have hvr := ev_vr ht hv
      split at e2
      · rename_i f' cs args hargs
        have hva := evL_vr ht hargs
        generalize hu : a.eval f = u at hvr
        cases hvr with
        | fn _ _ d hl hvv =>
          have hvall : VRs σ π w (args ++ cs) ((c.args.map a.eval) ++ d) := by
            have h1 := hva.1
            simp only [List.size_toArray, List.length_map, Array.length_toList] at h1
            refine ⟨by simp [hl, h1], fun i v u hi hu => ?_⟩
            rcases Nat.lt_or_ge i args.length with hlt | hge
            · rw [List.getElem?_append_left hlt] at hi
              rw [Array.getElem?_append_left (by simp; omega)] at hu
              exact hva.2 i v u hi (by simpa using hu)
            · rw [List.getElem?_append_right hge] at hi
              rw [Array.getElem?_append_right (by simp; omega)] at hu
              simp only [Array.size_map, h1] at hu
              exact hvv _ v u hi hu
          obtain ⟨k1, k2⟩ := op_call hcall R _ _ f' _ _ hvall hn e2
          unfold Oper.wp
          have hex : (execOp a.eval ⟨dst, .call c, ty, pos, after, guard⟩).run P w = .ok (.enter f' ((c.args.map a.eval) ++ d)) w := by
            simp only [execOp, resolve, hcf, hu, Deferred.ofValue, pure_bind, invoke]
            have : (#[] ++ c.args.map a.eval ++ d) = (c.args.map a.eval) ++ d := by simp
            simp only [Array.empty_append]
            exact k1 _ w
          rw [hex, Oper.upon_enter]
          refine k2.mono fun en w' hen => ?_
          obtain ⟨u, σ', π', rfl, hvu, hD⟩ := hen
          exact hK u σ' π' w' hvu hD
      · exact (am_fail e2).elim
    · exact (am_fail e).elim
  | _ => exact (am_fail e).elim

end
end Go.Ws
