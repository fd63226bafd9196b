/-
  Struct literals, cuts, lengths, elements and fields of values: what the abstract machine makes of them is the model's.
  Conditions: none.
-/
import Derived.Test.YtpfhlkhdmikdaaaZOps10
namespace Go.Ws
set_option linter.unusedVariables false
set_option linter.unusedSimpArgs false

section
variable {P : Program} {σ : Sig} {π : Prot} {w : World} {h : Nat → Option Blk} {n : Nat} {δ : Delta} {L : List Nat}

theorem places_of : ∀ (fs : List Field) (places : List (Nat × Nat)), (fs.map fun f => (f.offset, f.type)).mapM (fun (f : Nat × Nat) => (tiOf P f.2).map fun fi => (f.1, fi.sz)) = some places →
    fs.mapM (fun f => (P.info? f.type).map fun i => (f.offset, i.size)) = some places
  | [], places, h => by simpa using h
  | f :: fs, places, h => by
    simp only [List.map_cons, List.mapM_cons, Option.bind_eq_bind, Option.bind_eq_some_iff, Option.pure_def, Option.some.injEq, Option.map_eq_some_iff] at h ⊢
    obtain ⟨a, ⟨fi, hfi, rfl⟩, rest, hrest, rfl⟩ := h
    obtain ⟨d, inf, h1, h2, rfl⟩ := ti_spec hfi
    exact ⟨_, ⟨inf, h2, rfl⟩, rest, places_of fs rest hrest, rfl⟩

theorem op_build (R : Rel σ π w h) (t : Nat) (ps : List (Nat × AV)) (pu : Array (Nat × Value)) (hp : PartsR σ π w ps pu.toList) (e : (aBuild (tiOf P) t ps).run h = some (δ, L)) :
    OpDone P (do pure (.value (← Instr.build t pu))) σ π w h n δ := by
  unfold aBuild at e
  split at e
  · rename_i fs sz bts z cmp hst
    obtain ⟨d, inf, h1, h2, he⟩ := ti_spec hst
    simp only [TI.mk.injEq] at he
    obtain ⟨hk, _, _, hz, _⟩ := he
    obtain ⟨f', rfl, rfl⟩ := tk_struct hk.symm
    obtain ⟨zv, hzv, hzvr⟩ := zero_facts (e := t) hz.symm
    split at e
    · rename_i places hpl
      obtain ⟨v, hv, e⟩ := am_of e
      have hδ := am_val e; subst hδ
      obtain ⟨c', hc', rfl⟩ := Option.map_eq_some_iff.1 hv
      obtain ⟨d', hd', hvr⟩ := fill_vr hp (hzvr σ π w).cells hc'
      refine opdone_pure R (u := .agg d') (run_build w t pu d' ?_) (.agg _ _ hvr.1 hvr.2)
      unfold Program.built
      simp only [h2, h1, hzv, places_of _ _ hpl]
      simpa using hd'
    · exact (am_fail e).elim
  · rename_i len el sz bts z cmp hst
    obtain ⟨d, inf, h1, h2, he⟩ := ti_spec hst
    simp only [TI.mk.injEq] at he
    obtain ⟨hk, _, _, hz, _⟩ := he
    obtain rfl := tk_array hk.symm
    obtain ⟨zv, hzv, hzvr⟩ := zero_facts (e := t) hz.symm
    split at e
    · rename_i ei hei
      obtain ⟨de, infe, e1, e2, rfl⟩ := ti_spec hei
      obtain ⟨v, hv, e⟩ := am_of e
      have hδ := am_val e; subst hδ
      obtain ⟨c', hc', rfl⟩ := Option.map_eq_some_iff.1 hv
      obtain ⟨d', hd', hvr⟩ := fill_vr hp (hzvr σ π w).cells hc'
      refine opdone_pure R (u := .agg d') (run_build w t pu d' ?_) (.agg _ _ hvr.1 hvr.2)
      unfold Program.built
      simp only [h2, h1, hzv, e2]
      exact hd'
    · exact (am_fail e).elim
  · exact (am_fail e).elim

/-! cuts -/
def OptR (σ : Sig) (π : Prot) (w : World) (x : Option AV) (u : Option Value) : Prop := match x, u with
  | none, none => True
  | some v, some u => VR σ π w v u
  | _, _ => False

theorem bound_run {x : Option AV} {u : Option Value} (hx : OptR σ π w x u) {d top k : Nat} (e : aBound x d top = some k) (code : BoundsCode) :
    (u = none ∧ x = none ∧ k = d) ∨ (∃ v, u = some v ∧ (Instr.sliceBound v top code).run P w = .ok k w ∧ k ≤ top ∧ x.isSome = true) := by
  cases x with
  | none =>
    cases u with
    | none => simp [aBound] at e; exact .inl ⟨rfl, rfl, e.symm⟩
    | some u => exact hx.elim
  | some v =>
    cases u with
    | none => exact hx.elim
    | some u =>
      cases v with
      | int kk q =>
        cases hx
        simp only [aBound] at e
        split at e
        · rename_i hq
          cases e
          refine .inr ⟨_, rfl, ?_, by omega, rfl⟩
          simp [Instr.sliceBound, asIntOf, hq]
        · cases e
      | _ => simp [aBound] at e

/-- The three bounds of a cut. -/
theorem bounds_run {lo hi mx : Option AV} {lu hu mu : Option Value} (hl : OptR σ π w lo lu) (hh : OptR σ π w hi hu) (hm : OptR σ π w mx mu) {len cap l hv m : Nat} (isSlice : Bool)
    (e1 : (aBound mx cap cap = some m)) (e2 : (hi = none ∧ mx = none ∧ hv = len) ∨ (hi.isSome = true ∧ aBound hi 0 m = some hv)) (e3 : aBound lo 0 hv = some l) :
    (Instr.sliceBounds isSlice len cap lu hu mu).run P w = .ok (l, hv, m) w := by
  unfold Instr.sliceBounds
  rcases bound_run (P := P) hm e1 (if isSlice then BoundsCode.slice3Acap else .slice3Alen) with ⟨rfl, rfl, rfl⟩ | ⟨mv, rfl, hmr, _, hms⟩
  · rcases e2 with ⟨rfl, _, rfl⟩ | ⟨his, e2⟩
    · cases hu with
      | some u => exact hh.elim
      | none =>
        rcases bound_run (P := P) hl e3 .sliceB with ⟨rfl, rfl, rfl⟩ | ⟨lv, rfl, hlr, _, _⟩
        · simp
        · simp [hlr]
    · rcases bound_run (P := P) hh e2 (if isSlice then BoundsCode.sliceAcap else .sliceAlen) with ⟨rfl, rfl, _⟩ | ⟨hv', rfl, hhr, _, _⟩
      · simp at his
      · rcases bound_run (P := P) hl e3 .sliceB with ⟨rfl, rfl, rfl⟩ | ⟨lv, rfl, hlr, _, _⟩
        · simp [hhr]
        · simp [hhr, hlr]
  · rcases e2 with ⟨rfl, rfl, rfl⟩ | ⟨his, e2⟩
    · simp at hms
    · rcases bound_run (P := P) hh e2 .slice3B with ⟨rfl, rfl, _⟩ | ⟨hv', rfl, hhr, _, _⟩
      · simp at his
      · rcases bound_run (P := P) hl e3 .slice3C with ⟨rfl, rfl, rfl⟩ | ⟨lv, rfl, hlr, _, _⟩
        · simp [hmr, hhr]
        · simp [hmr, hhr, hlr]

theorem bound_up {x : Option AV} {d top top' k : Nat} (e : aBound x d top = some k) (h : top ≤ top') (hs : x.isSome = true) : aBound x d top' = some k := by
  cases x with
  | none => simp at hs
  | some v =>
    cases v with
    | int kk q =>
      simp only [aBound] at e ⊢
      split at e
      · rename_i hq
        cases e
        rw [if_pos ⟨hq.1, by omega⟩]
      · cases e
    | _ => simp [aBound] at e

theorem bound_d (v : AV) (d d' top : Nat) : aBound (some v) d top = aBound (some v) d' top := by cases v <;> rfl
theorem bound_le {x : Option AV} {d top k : Nat} (e : aBound x d top = some k) (h : d ≤ top) : k ≤ top := by
  cases x with
  | none => simp [aBound] at e; omega
  | some v =>
    cases v with
    | int kk q =>
      simp only [aBound] at e
      split at e
      · cases e; omega
      · cases e
    | _ => simp [aBound] at e

theorem inl_sub {sz : Nat} {rows : List (List AV)} {a : Addr} {s c : Nat} (hx : VR σ π w (.inl sz rows) (.slice (some a) s c)) {l hv c' : Nat} (hlh : l ≤ hv) (hh : hv ≤ rows.length) (a' : Addr) (hc' : hv - l ≤ c') (ha' : l < hv → a' = a.add (l * sz)) :
    VR σ π w (.inl sz ((rows.drop l).take (hv - l))) (.slice (some a') (hv - l) c') := by
  have hlen : ((rows.drop l).take (hv - l)).length = hv - l := by simp; omega
  rcases Nat.lt_or_ge l hv with hlt | hge
  · obtain rfl := ha' hlt
    cases hx with
    | inl0 => simp at hh; omega
    | inl _ _ B o _ u hf hl hc hvv =>
      rw [add_none]
      have hrow : ∀ (r : Nat) row, ((rows.drop l).take (hv - l))[r]? = some row → rows[l + r]? = some row := by
        intro r row hr
        simp only [List.getElem?_take, List.getElem?_drop] at hr
        split at hr
        · exact hr
        · cases hr
      have := VR.inl (σ := σ) (π := π) (w := w) sz ((rows.drop l).take (hv - l)) B (o + l * sz) c' (fun r q => u (l + r) q) (flat_take hf l (hv - l)) (by rw [hlen]; exact hc')
        (fun r q row v hr hq => by
          have := hc (l + r) q row v (hrow r row hr) hq
          rw [Nat.add_mul, ← Nat.add_assoc] at this
          exact this)
        (fun r q row v hr hq => hvv (l + r) q row v (hrow r row hr) hq)
      rwa [hlen] at this
  · have h0 : hv - l = 0 := by omega
    rw [h0]
    simp only [List.take_zero]
    exact .inl0 _ _ _

theorem run_sliceAt_slice {t el : Nat} {inf : TypeInfo} (h1 : P.underlying t = some (.slice el)) (h2 : P.info? el = some inf) (a : Option Addr) (len cap l hv m : Nat) (lu hu mu : Option Value)
    (hb : (Instr.sliceBounds true len cap lu hu mu).run P w = .ok (l, hv, m) w) :
    (Instr.sliceAt t (.slice a len cap) lu hu mu).run P w = .ok (.slice (if m = l then a else a.map (·.add (l * inf.size))) (hv - l) (m - l)) w := by
  simp [Instr.sliceAt, Instr.slice, run_underlying h1, hb, ti_size h2]

set_option maxHeartbeats 1000000 in
theorem op_slice (R : Rel σ π w h) (t : Nat) (x : AV) (lo hi mx : Option AV) (xu : Value) (lu hu mu : Option Value) (hx : VR σ π w x xu) (hl : OptR σ π w lo lu) (hh : OptR σ π w hi hu) (hm : OptR σ π w mx mu)
    (e : (aSlice (tiOf P) t x lo hi mx).run h = some (δ, L)) :
    OpDone P (do pure (.value (← Instr.sliceAt t xu lu hu mu))) σ π w h n δ := by
  unfold aSlice at e
  split at e
  · rename_i sz bts z cmp hst
    obtain ⟨d, inf, h1, h2, he⟩ := ti_spec hst
    simp only [TI.mk.injEq] at he
    obtain rfl := tk_str he.1.symm
    split at e
    · rename_i s
      obtain ⟨v, hv, e4⟩ := am_of e
      have hδ := am_val e4; subst hδ
      cases hx
      simp only [Option.bind_eq_some_iff, Option.some.injEq] at hv
      obtain ⟨hv', e2, l, e3, rfl⟩ := hv
      cases mu with
      | some m => exact hm.elim
      | none =>
        have hb := bounds_run (P := P) hl hh (mx := none) (mu := none) (by trivial) (len := s.size) (cap := s.size) (m := s.size) false rfl (by
          cases hi with
          | none => simp [aBound] at e2; exact .inl ⟨rfl, rfl, e2.symm⟩
          | some v => exact .inr ⟨rfl, by rw [bound_d v 0 s.size]; exact e2⟩) e3
        exact opdone_pure R (u := .string (s.extract l hv')) (by simp [Instr.sliceAt, Instr.slice, run_underlying h1, hb]) (.str _)
    · exact (am_fail e).elim
  · rename_i el sz bts z cmp hst
    obtain ⟨d, inf0, h1, h2, he⟩ := ti_spec hst
    simp only [TI.mk.injEq] at he
    obtain rfl := tk_slice he.1.symm
    split at e
    · exact (am_fail e).elim
    · rename_i ei hei
      obtain ⟨de, inf, e1, e2, rfl⟩ := ti_spec hei
      have hzero : ∀ {v : AV}, (((aBound mx 0 0).bind fun m => (aBound hi 0 m).bind fun hv => (aBound lo 0 hv).bind fun _ => if mx.isSome && hi.isNone then none else some v) : Option AV) ≠ none →
          (Instr.sliceBounds true 0 0 lu hu mu).run P w = .ok (0, 0, 0) w := by
        intro v hne
        obtain ⟨v', hv'⟩ := Option.ne_none_iff_exists'.1 hne
        simp only [Option.bind_eq_some_iff] at hv'
        obtain ⟨m, a1, hv, a2, l, a3, a4⟩ := hv'
        have hm0 := bound_le a1 (Nat.le_refl _)
        have hh0 := bound_le a2 (Nat.zero_le _)
        have hl0 := bound_le a3 (Nat.zero_le _)
        obtain rfl : m = 0 := by omega
        obtain rfl : hv = 0 := by omega
        obtain rfl : l = 0 := by omega
        refine bounds_run (P := P) hl hh hm true a1 ?_ a3
        cases hi with
        | none =>
          refine .inl ⟨rfl, ?_, rfl⟩
          cases mx with
          | none => rfl
          | some v => simp at a4
        | some v => exact .inr ⟨rfl, a2⟩
      split at e
      · obtain ⟨v, hv, e4⟩ := am_of e
        have hδ := am_val e4; subst hδ
        have hb := hzero (v := .nils) (by rw [hv]; simp)
        cases hx
        simp only [Option.bind_eq_some_iff] at hv
        obtain ⟨_, _, _, _, _, _, a4⟩ := hv
        split at a4
        · cases a4
        · cases a4
          exact opdone_pure R (run_sliceAt_slice h1 e2 none 0 0 0 0 0 lu hu mu hb) (by simpa using VR.nils)
      · obtain ⟨v, hv, e4⟩ := am_of e
        have hδ := am_val e4; subst hδ
        have hb := hzero (v := .emps) (by rw [hv]; simp)
        cases hx with
        | emps a =>
          simp only [Option.bind_eq_some_iff] at hv
          obtain ⟨_, _, _, _, _, _, a4⟩ := hv
          split at a4
          · cases a4
          · cases a4
            exact opdone_pure R (run_sliceAt_slice h1 e2 (some a) 0 0 0 0 0 lu hu mu hb) (by simpa using VR.emps a)
      · rename_i sz' rows
        split at e
        · rename_i hsz
          subst hsz
          obtain ⟨v, hv, e4⟩ := am_of e
          have hδ := am_val e4; subst hδ
          obtain ⟨ao, s', c, hsu, hle, hlen⟩ := slice_of hx ⟨⟨_, rfl⟩, fun s hh => by cases hh⟩
          simp only [lenOf, Option.some.injEq] at hlen
          subst hlen
          subst hsu
          have hsa : ∃ a', ao = some a' := by cases hx <;> exact ⟨_, rfl⟩
          obtain ⟨a, rfl⟩ := hsa
          simp only [Option.bind_eq_some_iff] at hv
          obtain ⟨m, a1, hv', a2, l, a3, a4⟩ := hv
          have hmb := bound_le a1 (Nat.le_refl _)
          cases mx with
          | none =>
            cases mu with
            | some u => exact hm.elim
            | none =>
              simp only [aBound, Option.some.injEq] at a1
              subst a1
              simp only [Option.isSome_none, Bool.false_and, Bool.false_eq_true, if_false, Option.some.injEq] at a4
              subst a4
              have hhb : hv' ≤ rows.length := bound_le a2 (Nat.le_refl _)
              have hlb : l ≤ hv' := bound_le a3 (Nat.zero_le _)
              have hb := bounds_run (P := P) hl hh (mx := none) (mu := none) (by trivial) (len := rows.length) (cap := c) (m := c) true rfl (by
                cases hi with
                | none => simp [aBound] at a2; exact .inl ⟨rfl, rfl, a2.symm⟩
                | some v => exact .inr ⟨rfl, by rw [bound_d v 0 rows.length]; exact bound_up a2 hle rfl⟩) a3
              refine opdone_pure R (run_sliceAt_slice h1 e2 (some a) rows.length c l hv' c lu hu none hb) ?_
              by_cases hcl : c = l
              · rw [if_pos hcl]
                exact inl_sub hx hlb hhb a (by omega) (fun hlt => by omega)
              · rw [if_neg hcl]
                exact inl_sub hx hlb hhb _ (by omega) (fun _ => rfl)
          | some mv =>
            have hhi : hi.isSome = true := by
              cases hi with
              | none => simp at a4
              | some v => rfl
            simp only [Option.isSome_some, Bool.true_and, hhi, Option.isNone_eq_false_iff.2 hhi, Bool.false_eq_true, if_false, Option.some.injEq] at a4
            cases hi with
            | none => simp at hhi
            | some hiv =>
              cases mu with
              | none => exact hm.elim
              | some mu =>
                have hhb : hv' ≤ m := bound_le (by rw [bound_d hiv 0 rows.length]; exact a2) (Nat.zero_le _)
                have hlb : l ≤ hv' := bound_le a3 (Nat.zero_le _)
                have hb := bounds_run (P := P) hl hh hm (len := rows.length) (cap := c) (m := m) true (by rw [bound_d mv c rows.length]; exact bound_up a1 hle rfl) (.inr ⟨rfl, by rw [bound_d hiv 0 rows.length]; exact a2⟩) a3
                have hrun := run_sliceAt_slice h1 e2 (some a) rows.length c l hv' m lu hu (some mu) hb
                split at a4
                · rename_i hml
                  cases a4
                  have hml' : m = l := by simpa using hml
                  subst hml'
                  refine opdone_pure R hrun ?_
                  have h0 : hv' - m = 0 := by omega
                  rw [h0, Nat.sub_self, if_pos rfl]
                  exact .emps a
                · rename_i hml
                  cases a4
                  have hml' : m ≠ l := by simpa using hml
                  refine opdone_pure R hrun ?_
                  rw [if_neg hml']
                  exact inl_sub hx hlb (by omega) _ (by omega) (fun _ => rfl)
        · exact (am_fail e).elim
      · rename_i sz' b g i k full
        split at e
        · rename_i hsz
          subst hsz
          obtain ⟨ao, s', c, hsu, hle, hlen⟩ := slice_of hx ⟨⟨_, rfl⟩, fun s hh => by cases hh⟩
          simp only [lenOf, Option.some.injEq] at hlen
          subst hlen
          subst hsu
          have hsa : ∃ a', ao = some a' := by cases hx <;> exact ⟨_, rfl⟩
          obtain ⟨a, rfl⟩ := hsa
          have hsub : ∀ (l hv' m : Nat) (full' : Bool) (a' : Addr), l ≤ hv' → m ≤ c → hv' ≤ m → i + hv' ≤ (match σ b g with | some lc => lc.m | none => 0) → (full' = true → full = true ∧ m = c) → (l < m → a' = a.add (l * inf.size)) →
              VR σ π w (.ref inf.size b g (i + l) (hv' - l) full') (.slice (some a') (hv' - l) (m - l)) := by
            intro l hv' m full' a' hlb hmc hhm hhi' hf' ha'
            cases hx with
            | ref _ _ _ _ _ _ _ _ lc hl' hin hn ha hff C ty hC hs' =>
              simp only [hl'] at hhi'
              refine .ref _ _ _ _ _ _ a' (m - l) lc hl' (by omega) (by omega) (fun h0 => ?_) (fun h1 => ?_) C ty hC ?_
              · rw [ha' (by omega), ha (by omega), add_none, Nat.add_mul]
              · obtain ⟨f1, rfl⟩ := hf' h1
                have := hff f1
                omega
              · refine Nat.le_trans (Nat.mul_le_mul_right _ ?_) hs'
                omega
          have hσ : ∃ lc, σ b g = some lc ∧ i + k ≤ lc.m := by
            cases hx with
            | ref _ _ _ _ _ _ _ _ lc hl' hin hn ha hff C ty hC hs' => exact ⟨lc, hl', hin⟩
          obtain ⟨lc, hlc, hlcm⟩ := hσ
          have hnomax : ∀ (top : Nat), (top = k ∨ (top ≤ c ∧ i + top ≤ lc.m)) → mx = none → ∀ v, (((aBound hi k top).bind fun hv => (aBound lo 0 hv).bind fun l => some (AV.ref inf.size b g (i + l) (hv - l) full)) : Option AV) = some v →
              k ≤ top → OpDone P (do pure (.value (← Instr.sliceAt t (.slice (some a) k c) lu hu mu))) σ π w h n ⟨v, [], []⟩ := by
            intro top htop hmx v hv hst2
            subst hmx
            cases mu with
            | some u => exact hm.elim
            | none =>
              simp only [Option.bind_eq_some_iff, Option.some.injEq] at hv
              obtain ⟨hv', a2, l, a3, rfl⟩ := hv
              have hht : hv' ≤ top := bound_le a2 hst2
              have hlb : l ≤ hv' := bound_le a3 (Nat.zero_le _)
              have htc : top ≤ c := by rcases htop with rfl | ⟨h3, _⟩ <;> omega
              have htm : i + top ≤ lc.m := by rcases htop with rfl | ⟨_, h3⟩ <;> omega
              have hb := bounds_run (P := P) hl hh (mx := none) (mu := none) (by trivial) (len := k) (cap := c) (m := c) true rfl (by
                cases hi with
                | none => simp [aBound] at a2; exact .inl ⟨rfl, rfl, a2.symm⟩
                | some v => exact .inr ⟨rfl, by rw [bound_d v 0 k]; exact bound_up a2 htc rfl⟩) a3
              refine opdone_pure R (run_sliceAt_slice h1 e2 (some a) k c l hv' c lu hu none hb) ?_
              by_cases hcl : c = l
              · rw [if_pos hcl]
                exact hsub l hv' c full a hlb (Nat.le_refl _) (by omega) (by simp only [hlc]; omega) (fun hf => ⟨hf, rfl⟩) (fun hlt => by omega)
              · rw [if_neg hcl]
                exact hsub l hv' c full _ hlb (Nat.le_refl _) (by omega) (by simp only [hlc]; omega) (fun hf => ⟨hf, rfl⟩) (fun _ => rfl)
          split at e
          · rename_i hmx
            obtain ⟨y, L', hy, e5, _⟩ := am_rd e
            clear e
            split at e5
            · rename_i s2 rows gen wgen ro
              split at e5
              · rename_i hcd
                obtain ⟨rfl, hf, hir⟩ := hcd
                obtain ⟨v, hv, e6⟩ := am_of e5
                have hδ := am_val e6; subst hδ
                obtain ⟨q1, q2, q3, q4, ⟨l2, c1, c2, c3, c4⟩, q6⟩ := R.blk b _ hy
                rw [hlc] at c1
                cases c1
                refine hnomax (rows.length - i) (.inr ⟨?_, by omega⟩) rfl v hv (by omega)
                cases hx with
                | ref _ _ _ _ _ _ _ _ l3 hl' hin hn ha hff C ty hC hs' =>
                  rw [hlc] at hl'
                  cases hl'
                  have := hff hf
                  omega
              · obtain ⟨v, hv, e6⟩ := am_of e5
                have hδ := am_val e6; subst hδ
                exact hnomax k (.inl rfl) rfl v hv (Nat.le_refl _)
            · exact (am_fail e5).elim
          · rename_i mv
            obtain ⟨v, hv, e4⟩ := am_of e
            have hδ := am_val e4; subst hδ
            simp only [Option.bind_eq_some_iff] at hv
            obtain ⟨m, a1, hv', a2, l, a3, a4⟩ := hv
            have hmb : m ≤ k := bound_le a1 (Nat.le_refl _)
            cases hi with
            | none => simp at a4
            | some hiv =>
              cases mu with
              | none => exact hm.elim
              | some mu =>
                have hhb : hv' ≤ m := bound_le (by rw [bound_d hiv 0 k]; exact a2) (Nat.zero_le _)
                have hlb : l ≤ hv' := bound_le a3 (Nat.zero_le _)
                have hb := bounds_run (P := P) hl hh hm (len := k) (cap := c) (m := m) true (by rw [bound_d mv c k]; exact bound_up a1 hle rfl) (.inr ⟨rfl, by rw [bound_d hiv 0 k]; exact a2⟩) a3
                have hrun := run_sliceAt_slice h1 e2 (some a) k c l hv' m lu hu (some mu) hb
                simp only [Option.isNone_some, Bool.false_eq_true, if_false, Option.some.injEq] at a4
                refine opdone_pure R hrun ?_
                split at a4
                · rename_i hml
                  subst a4
                  subst hml
                  have h0 : hv' - m = 0 := by omega
                  rw [h0, Nat.sub_self, if_pos rfl]
                  exact .emps a
                · rename_i hml
                  subst a4
                  rw [if_neg hml]
                  exact hsub l hv' m false _ hlb (by omega) hhb (by simp only [hlc]; omega) (fun hf => by cases hf) (fun _ => rfl)
        · exact (am_fail e).elim
      · exact (am_fail e).elim
  · exact (am_fail e).elim

end
end Go.Ws
