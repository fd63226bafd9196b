/-
  The small heap under other numbers, and what the arguments of a call reach.
  Conditions: none.
-/
import Derived.Test.YtpfhlkhdmikdaaaZOps16
namespace Go.Ws
set_option linter.unusedVariables false
set_option linter.unusedSimpArgs false

theorem refsL_mem {v : AV} : ∀ {l : List AV}, v ∈ l → ∀ b ∈ v.refs, b ∈ AV.refsL l
  | x :: l, hv, b, hb => by
    simp only [AV.refsL, List.mem_append]
    rcases List.mem_cons.1 hv with rfl | hv
    · exact .inl hb
    · exact .inr (refsL_mem hv b hb)

theorem refsL_nil_mem {v : AV} {l : List AV} (h : AV.refsL l = []) (hv : v ∈ l) : v.refs = [] := by
  apply List.eq_nil_iff_forall_not_mem.2
  intro b hb
  have := refsL_mem hv b hb
  rw [h] at this
  cases this

theorem renL_get (r : Nat → Nat) : ∀ (l : List AV) (i : Nat), (AV.renL r l)[i]? = (l[i]?).map (AV.ren r)
  | [], i => by simp [AV.renL]
  | v :: l, 0 => by simp [AV.renL]
  | v :: l, i + 1 => by simpa [AV.renL] using renL_get r l i

theorem renL_length (r : Nat → Nat) : ∀ (l : List AV), (AV.renL r l).length = l.length
  | [] => rfl
  | v :: l => by simp [AV.renL, renL_length r l]

mutual
theorem ren_id (r : Nat → Nat) : ∀ (v : AV), v.refs = [] → v.ren r = v
  | .bool _, _ => rfl | .int _ _, _ => rfl | .str _, _ => rfl | .nilp, _ => rfl
  | .hp _ _, h => by simp [AV.refs] at h
  | .ep _ _ _ _ _, h => by simp [AV.refs] at h
  | .ip _ _ _ _, _ => rfl | .nils, _ => rfl | .emps, _ => rfl | .inl _ _, _ => rfl
  | .ref _ _ _ _ _ _, h => by simp [AV.refs] at h
  | .mapn, _ => rfl
  | .mp _, h => by simp [AV.refs] at h
  | .fn f c, h => by simp only [AV.refs] at h; simp only [AV.ren, renL_id r c h]
  | .nilf, _ => rfl
  | .agg l, h => by simp only [AV.refs] at h; simp only [AV.ren, renL_id r l h]
  | .tup l, h => by simp only [AV.refs] at h; simp only [AV.ren, renL_id r l h]
theorem renL_id (r : Nat → Nat) : ∀ (l : List AV), AV.refsL l = [] → AV.renL r l = l
  | [], _ => rfl
  | v :: l, h => by
    simp only [AV.refsL, List.append_eq_nil_iff] at h
    simp only [AV.renL, ren_id r v h.1, renL_id r l h.2]
end

section
variable {P : Program} {σ σ' : Sig} {π π' : Prot} {w w' : World} {h : Nat → Option Blk} {n : Nat} {δ : Delta} {L : List Nat}

theorem VR.ren {ρ : Nat → Nat} {v : AV} {u : Value} (hv : VR σ π w v u) : (∀ b ∈ v.refs, ∀ g l, σ b g = some l → σ' (ρ b) g = some l) → VR σ' π w (v.ren ρ) u := by
  have keyL : ∀ (c : List AV) (d : Array Value), (∀ (i : Nat) v u, c[i]? = some v → d[i]? = some u → (∀ b ∈ v.refs, ∀ g l, σ b g = some l → σ' (ρ b) g = some l) → VR σ' π w (v.ren ρ) u) →
      (∀ b ∈ AV.refsL c, ∀ g l, σ b g = some l → σ' (ρ b) g = some l) → ∀ (i : Nat) v u, (AV.renL ρ c)[i]? = some v → d[i]? = some u → VR σ' π w v u := by
    intro c d ih hρ i v u hi hu
    rw [renL_get] at hi
    obtain ⟨v0, hv0, rfl⟩ := Option.map_eq_some_iff.1 hi
    exact ih i v0 u hv0 hu (fun b hb => hρ b (refsL_mem (List.mem_of_getElem? hv0) b hb))
  induction hv with
  | bool b => intro _; exact .bool b
  | int k n => intro _; exact .int k n
  | str s => intro _; exact .str s
  | nilp => intro _; exact .nilp
  | hp b o l hl => intro hρ; exact .hp _ o l (hρ b (by simp [AV.refs]) 0 l hl)
  | ep sz b g i j l hl hi => intro hρ; exact .ep sz _ g i j l (hρ b (by simp [AV.refs]) g l hl) hi
  | ip sz rows i j B o u hf hi hc hv ih =>
    intro _
    refine .ip sz rows i j B o u hf hi hc (fun r q row v hr hq => ?_)
    have hfl := ((hf row (List.mem_of_getElem? hr)).2 v (List.mem_of_getElem? hq)).2
    have := ih r q row v hr hq (by rw [hfl]; intro b hb; cases hb)
    rwa [ren_id ρ v hfl] at this
  | nils => intro _; exact .nils
  | emps a => intro _; exact .emps a
  | inl0 sz a c => intro _; exact .inl0 sz a c
  | inl sz rows B o c u hf hl hc hv ih =>
    intro _
    refine .inl sz rows B o c u hf hl hc (fun r q row v hr hq => ?_)
    have hfl := ((hf row (List.mem_of_getElem? hr)).2 v (List.mem_of_getElem? hq)).2
    have := ih r q row v hr hq (by rw [hfl]; intro b hb; cases hb)
    rwa [ren_id ρ v hfl] at this
  | ref sz b g i n full a c l hl hi hn ha hf C e hC hs => intro hρ; exact .ref sz _ g i n full a c l (hρ b (by simp [AV.refs]) g l hl) hi hn ha hf C e hC hs
  | mapn => intro _; exact .mapn
  | mp b l hl => intro hρ; exact .mp _ l (hρ b (by simp [AV.refs]) 0 l hl)
  | fn f c d hl hv ih => intro hρ; exact .fn f _ d (by rw [renL_length]; exact hl) (keyL c d ih hρ)
  | nilf => intro _; exact .nilf
  | agg c d hl hv ih => intro hρ; exact .agg _ d (by rw [renL_length]; exact hl) (keyL c d ih hρ)
  | tup c d hl hv ih => intro hρ; exact .tup _ d (by rw [renL_length]; exact hl) (keyL c d ih hρ)

theorem VRs.ren {ρ : Nat → Nat} {c : List AV} {d : Array Value} (hv : VRs σ π w c d) (hρ : ∀ b ∈ AV.refsL c, ∀ g l, σ b g = some l → σ' (ρ b) g = some l) : VRs σ' π w (AV.renL ρ c) d := by
  refine ⟨by rw [renL_length]; exact hv.1, fun i v u hi hu => ?_⟩
  rw [renL_get] at hi
  obtain ⟨v0, hv0, rfl⟩ := Option.map_eq_some_iff.1 hi
  exact (hv.2 i v0 u hv0 hu).ren (fun b hb => hρ b (refsL_mem (List.mem_of_getElem? hv0) b hb))

theorem VR.flat_any {v : AV} {u : Value} (hv : VR σ π w v u) (hf : v.refs = []) (σ' : Sig) : VR σ' π w v u := by
  have := hv.ren (σ' := σ') (ρ := id) (by rw [hf]; intro b hb; cases hb)
  rwa [ren_id id v hf] at this

/-- A block under other numbers: the very same cells. -/
theorem BR.ren {ρ : Nat → Nat} {b b' : Nat} {x : Blk} (k : BR σ π w b x) (hb : ∀ g, σ' b' g = σ b g) (hρ : ∀ c ∈ x.refs, ∀ g l, σ c g = some l → σ' (ρ c) g = some l) : BR σ' π w b' (x.ren ρ) := by
  cases x with
  | row c =>
    obtain ⟨l, C, e, h1, h2, h3, h4, h5⟩ := k
    refine ⟨l, C, e, (hb 0).trans h1, h2, by rw [renL_length]; exact h3, fun i v hi => ?_, h5⟩
    rw [renL_get] at hi
    obtain ⟨v0, hv0, rfl⟩ := Option.map_eq_some_iff.1 hi
    obtain ⟨u, hu, hv⟩ := h4 i v0 hv0
    exact ⟨u, hu, hv.ren (fun b hb => hρ b (refsL_mem (List.mem_of_getElem? hv0) b hb))⟩
  | arr sz rows gen wgen ro =>
    obtain ⟨h1, h2, h3, h4, ⟨l, h5, h6, h7, h8⟩, h9⟩ := k
    refine ⟨h1, h2, h3, fun g hg => (hb g).trans (h4 g hg), ⟨l, (hb _).trans h5, h6, h7, h8⟩, fun g hg hg' => ?_⟩
    obtain ⟨l', C, e, q1, q2, q3, q4, q5⟩ := h9 g hg hg'
    refine ⟨l', C, e, (hb g).trans q1, q2, q3, q4, fun r row hr hrow i v hi => ?_⟩
    obtain ⟨u, hu, hv⟩ := q5 r row hr hrow i v hi
    exact ⟨u, hu, hv.flat_any ((h3 row (List.mem_of_getElem? hrow)).2 v (List.mem_of_getElem? hi)).2 σ'⟩
  | map es clock =>
    obtain ⟨l, C, h1, h2, h3, h4, h5⟩ := k
    refine ⟨l, C, (hb 0).trans h1, h2, h3, h4, fun i kk v born e hi he => ?_⟩
    obtain ⟨q1, q2, q3, q4, q5⟩ := h5 i kk v born e hi he
    exact ⟨q1.flat_any q5 σ', q2.flat_any q4 σ', q3, q4, q5⟩

/-! ### What is reached -/
theorem reach_spec : ∀ {k : Nat} {todo : List Nat} {acc bs : List (Nat × Blk)} {L : List Nat}, (reach k todo acc).run h = some (bs, L) →
    (acc.map (·.1)).Nodup → (∀ p ∈ acc, h p.1 = some p.2) → (∀ p ∈ acc, ∀ c ∈ p.2.refs, c ∈ acc.map (·.1) ∨ c ∈ todo) →
    (bs.map (·.1)).Nodup ∧ (∀ p ∈ bs, h p.1 = some p.2) ∧ (∀ p ∈ bs, ∀ c ∈ p.2.refs, c ∈ bs.map (·.1)) ∧ (∀ c ∈ todo, c ∈ bs.map (·.1)) ∧ (∀ c ∈ acc.map (·.1), c ∈ bs.map (·.1)) ∧ (∀ c ∈ bs.map (·.1), c ∈ acc.map (·.1) ∨ c ∈ L)
  | 0, [], acc, bs, L, e, h1, h2, h3 => by
    have := am_ret e
    subst this
    exact ⟨h1, h2, fun p hp c hc => (h3 p hp c hc).resolve_right (by simp), fun c hc => (by cases hc), fun c hc => hc, fun c hc => .inl hc⟩
  | 0, _ :: _, acc, bs, L, e, _, _, _ => (am_fail e).elim
  | k + 1, [], acc, bs, L, e, h1, h2, h3 => by
    have := am_ret e
    subst this
    exact ⟨h1, h2, fun p hp c hc => (h3 p hp c hc).resolve_right (by simp), fun c hc => (by cases hc), fun c hc => hc, fun c hc => .inl hc⟩
  | k + 1, b :: todo, acc, bs, L, e, h1, h2, h3 => by
    simp only [reach] at e
    split at e
    · rename_i hin
      have hb : b ∈ acc.map (·.1) := by
        simp only [List.any_eq_true] at hin
        obtain ⟨p, hp, hpb⟩ := hin
        exact List.mem_map.2 ⟨p, hp, eq_of_beq hpb⟩
      obtain ⟨a1, a2, a3, a4, a5, a6⟩ := reach_spec e h1 h2 (fun p hp c hc => (h3 p hp c hc).elim .inl (fun hc => (List.mem_cons.1 hc).elim (fun hh => .inl (hh ▸ hb)) .inr))
      exact ⟨a1, a2, a3, fun c hc => (List.mem_cons.1 hc).elim (fun hh => hh ▸ a5 b hb) (a4 c), a5, a6⟩
    · rename_i hin
      obtain ⟨x, L', hx, e', rfl⟩ := am_rd e
      have hnb : b ∉ acc.map (·.1) := by
        intro hb
        obtain ⟨p, hp, hpb⟩ := List.mem_map.1 hb
        exact hin (List.any_eq_true.2 ⟨p, hp, by simp [hpb]⟩)
      obtain ⟨a1, a2, a3, a4, a5, a6⟩ := reach_spec e' (by
          rw [List.map_append, List.nodup_append]
          exact ⟨h1, by simp, fun a ha c hc => by simp at hc; subst hc; exact fun e => hnb (e ▸ ha)⟩)
        (fun p hp => by
          rcases List.mem_append.1 hp with hp | hp
          · exact h2 p hp
          · simp at hp; subst hp; exact hx)
        (fun p hp c hc => by
          simp only [List.map_append, List.mem_append, List.map_cons, List.map_nil, List.mem_singleton]
          rcases List.mem_append.1 hp with hp | hp
          · rcases h3 p hp c hc with hh | hh
            · exact .inl (.inl hh)
            · rcases List.mem_cons.1 hh with rfl | hh
              · exact .inl (.inr rfl)
              · exact .inr (.inl hh)
          · simp at hp; subst hp; exact .inr (.inr hc))
      refine ⟨a1, a2, a3, fun c hc => ?_, fun c hc => a5 c (by simp only [List.map_append, List.mem_append]; exact .inl hc), fun c hc => ?_⟩
      · rcases List.mem_cons.1 hc with rfl | hc
        · exact a5 c (by simp)
        · exact a4 c (List.mem_append.2 (.inl hc))
      · rcases a6 c hc with hh | hh
        · simp only [List.map_append, List.mem_append, List.map_cons, List.map_nil, List.mem_singleton] at hh
          rcases hh with hh | rfl
          · exact .inl hh
          · exact .inr (List.mem_cons_self ..)
        · exact .inr (List.mem_cons_of_mem _ hh)

/-! ### What is lent -/
def Bor (π : Prot) (σ : Sig) (bw : List (Nat × Blk)) : Prot := fun B o => π B o ∨ ∃ b s rows gen wgen g l, (b, Blk.arr s rows gen wgen true) ∈ bw ∧ wgen ≤ g ∧ g ≤ gen ∧ σ b g = some l ∧ l.blk = B ∧ o < l.m * s

/-- Each block that is lent is the array that it is, but for the mark. -/
def Lent (h : Nat → Option Blk) (bw : List (Nat × Blk)) : Prop := ∀ p ∈ bw, ∃ s rows gen wgen ro, h p.1 = some (.arr s rows gen wgen ro) ∧ p.2 = .arr s rows gen wgen true

theorem Bor.mono {bw bw' : List (Nat × Blk)} (hs : ∀ p ∈ bw, p ∈ bw') {B o : Nat} (hp : Bor π σ bw B o) : Bor π σ bw' B o := by
  rcases hp with hp | ⟨b, s, rows, gen, wgen, g, l, h1, h2⟩
  · exact .inl hp
  · exact .inr ⟨b, s, rows, gen, wgen, g, l, hs _ h1, h2⟩

theorem VR.prot (hp : ∀ B o, π B o → π' B o) {v : AV} {u : Value} (hv : VR σ π w v u) : VR σ π' w v u :=
  hv.mono ⟨fun _ _ _ h => h, hp, fun _ _ _ => rfl, fun _ _ _ C _ _ _ h => ⟨C, h, rfl⟩⟩

theorem borrowV_spec (R : Rel σ π w h) {v v' : AV} {u : Value} {bw : List (Nat × Blk)} (hv : VR σ π w v u) (e : (borrowV v).run h = some ((v', bw), L)) : Lent h bw ∧ VR σ (Bor π σ bw) w v' u := by
  unfold borrowV at e
  split at e
  · rename_i sz b g i m full
    obtain ⟨y, L', hy, e5, _⟩ := am_rd e
    split at e5
    · rename_i s rows gen wgen ro
      split at e5
      · rename_i hc
        obtain ⟨rfl, hg1, hg2, hle⟩ := hc
        have := am_ret e5
        simp only [Prod.mk.injEq] at this
        obtain ⟨rfl, rfl⟩ := this
        refine ⟨fun p hp => by simp at hp; subst hp; exact ⟨_, _, _, _, _, hy, rfl⟩, ?_⟩
        cases hv with
        | ref _ _ _ _ _ _ a c l hl hi hn ha hf C e hC hs =>
          obtain ⟨q1, q2, q3, q4, q5, q6⟩ := R.blk b _ hy
          obtain ⟨l', C', te, a1, a2, a3, a4, a5⟩ := q6 g hg1 hg2
          rw [hl] at a1
          cases a1
          have hlen : ((rows.drop i).take m).length = m := by simp; omega
          rcases Nat.eq_zero_or_pos m with h0 | h0
          · subst h0
            simp only [List.take_zero]
            exact .inl0 _ _ _
          · obtain rfl := ha (by omega)
            have hrow : ∀ (r : Nat) row, ((rows.drop i).take m)[r]? = some row → r < m ∧ rows[i + r]? = some row := by
              intro r row hr
              simp only [List.getElem?_take, List.getElem?_drop] at hr
              split at hr
              · exact ⟨by assumption, hr⟩
              · cases hr
            have hcell : ∀ (r q : Nat) row v, ((rows.drop i).take m)[r]? = some row → row[q]? = some v → ∃ u, w.cell? ⟨l.blk, i * s + r * s + q, none⟩ = some u ∧ VR σ π w v u ∧ i * s + r * s + q < l.m * s := by
              intro r q row v hr hq
              obtain ⟨hrm, hr'⟩ := hrow r row hr
              obtain ⟨u, hu, hvu⟩ := a5 (i + r) row (by omega) hr' q v hq
              refine ⟨u, ?_, hvu, ?_⟩
              · rw [Nat.add_mul] at hu
                simp [World.cell?, a3, hu]
              · have hql := (List.getElem?_eq_some_iff.1 hq).1
                rw [(q3 row (List.mem_of_getElem? hr')).1] at hql
                have : (i + r + 1) * s ≤ l.m * s := Nat.mul_le_mul_right _ (by omega)
                rw [Nat.succ_mul, Nat.add_mul] at this
                omega
            have := VR.inl (σ := σ) (π := Bor π σ [(b, .arr s rows gen wgen true)]) (w := w) s ((rows.drop i).take m) l.blk (i * s) c (fun r q => (w.cell? ⟨l.blk, i * s + r * s + q, none⟩).getD undef) (flat_take q3 i m) (by rw [hlen]; exact hn)
              (fun r q row v hr hq => by
                obtain ⟨u, hu, _, hlt⟩ := hcell r q row v hr hq
                exact ⟨by rw [hu]; rfl, .inr ⟨b, s, rows, gen, wgen, g, l, by simp, hg1, hg2, hl, rfl, hlt⟩⟩)
              (fun r q row v hr hq => by
                obtain ⟨u, hu, hvu, _⟩ := hcell r q row v hr hq
                rw [hu]
                exact hvu.prot (fun _ _ h => .inl h))
            rwa [hlen] at this
      · exact (am_fail e5).elim
    · exact (am_fail e5).elim
  · have := am_ret e
    simp only [Prod.mk.injEq] at this
    obtain ⟨rfl, rfl⟩ := this
    exact ⟨fun p hp => (by cases hp), hv.prot (fun _ _ h => .inl h)⟩

theorem VRs.tail {v : AV} {l : List AV} {d : Array Value} (hv : VRs σ π w (v :: l) d) : ∃ u r, d = (u :: r).toArray ∧ VR σ π w v u ∧ VRs σ π w l r.toArray := by
  obtain ⟨dl⟩ := d
  cases dl with
  | nil => have := hv.1; simp at this
  | cons u r =>
    refine ⟨u, r, rfl, hv.2 0 v u rfl rfl, by have := hv.1; simpa using this, fun i x y hx hy => hv.2 (i + 1) x y (by simpa using hx) (by simpa using hy)⟩

theorem VRs.cons {v : AV} {l : List AV} {u : Value} {r : List Value} (h1 : VR σ π w v u) (h2 : VRs σ π w l r.toArray) : VRs σ π w (v :: l) (u :: r).toArray := by
  refine ⟨by have := h2.1; simpa using this, fun i x y hx hy => ?_⟩
  cases i with
  | zero => simp at hx hy; subst hx; subst hy; exact h1
  | succ i => exact h2.2 i x y (by simpa using hx) (by simpa using hy)

theorem VRs.prot (hp : ∀ B o, π B o → π' B o) {v : List AV} {u : Array Value} (hv : VRs σ π w v u) : VRs σ π' w v u := ⟨hv.1, fun i x y h1 h2 => (hv.2 i x y h1 h2).prot hp⟩

theorem Lent.append {a b : List (Nat × Blk)} (h1 : Lent h a) (h2 : Lent h b) : Lent h (a ++ b) := fun p hp => (List.mem_append.1 hp).elim (h1 p) (h2 p)

theorem borrowC_spec (R : Rel σ π w h) : ∀ {l l' : List AV} {d : Array Value} {bw : List (Nat × Blk)} {L : List Nat}, VRs σ π w l d → (borrowC l).run h = some ((l', bw), L) → Lent h bw ∧ VRs σ (Bor π σ bw) w l' d
  | [], l', d, bw, L, hv, e => by
    have := am_ret e
    simp only [Prod.mk.injEq] at this
    obtain ⟨rfl, rfl⟩ := this
    exact ⟨fun p hp => (by cases hp), hv.prot (fun _ _ h => .inl h)⟩
  | v :: l, l', d, bw, L, hv, e => by
    obtain ⟨u, r, rfl, hvu, hvl⟩ := hv.tail
    simp only [borrowC] at e
    obtain ⟨⟨v1, b1⟩, L1, L2, e1, e2, _⟩ := am_bind e
    obtain ⟨⟨l1, b2⟩, L3, L4, e3, e4, _⟩ := am_bind e2
    have := am_ret e4
    simp only [Prod.mk.injEq] at this
    obtain ⟨rfl, rfl⟩ := this
    obtain ⟨h1, h2⟩ := borrowV_spec R hvu e1
    obtain ⟨h3, h4⟩ := borrowC_spec R hvl e3
    exact ⟨h1.append h3, .cons (h2.prot (fun B o h => Bor.mono (fun p hp => List.mem_append.2 (.inl hp)) h)) (h4.prot (fun B o h => Bor.mono (fun p hp => List.mem_append.2 (.inr hp)) h))⟩

theorem borrowL_spec (R : Rel σ π w h) : ∀ {l l' : List AV} {d : Array Value} {bw : List (Nat × Blk)} {L : List Nat}, VRs σ π w l d → (borrowL l).run h = some ((l', bw), L) → Lent h bw ∧ VRs σ (Bor π σ bw) w l' d
  | [], l', d, bw, L, hv, e => by
    have := am_ret e
    simp only [Prod.mk.injEq] at this
    obtain ⟨rfl, rfl⟩ := this
    exact ⟨fun p hp => (by cases hp), hv.prot (fun _ _ h => .inl h)⟩
  | v :: l, l', d, bw, L, hv, e => by
    obtain ⟨u, r, rfl, hvu, hvl⟩ := hv.tail
    have hhead : ∃ v1 b1 l1 b2 L3, l' = v1 :: l1 ∧ bw = b1 ++ b2 ∧ Lent h b1 ∧ VR σ (Bor π σ b1) w v1 u ∧ (borrowL l).run h = some ((l1, b2), L3) := by
      unfold borrowL at e
      split at e
      · rename_i hh; cases hh
      · rename_i c l0 hh
        cases hh
        obtain ⟨⟨c1, b1⟩, L1, L2, e1, e2, _⟩ := am_bind e
        obtain ⟨⟨l1, b2⟩, L3, L4, e3, e4, _⟩ := am_bind e2
        have := am_ret e4
        simp only [Prod.mk.injEq] at this
        obtain ⟨rfl, rfl⟩ := this
        cases hvu with
        | agg _ d hl hv2 =>
          obtain ⟨h1, h2⟩ := borrowC_spec R (⟨hl, hv2⟩ : VRs σ π w c d) e1
          exact ⟨_, b1, l1, b2, L3, rfl, rfl, h1, .agg _ _ h2.1 h2.2, e3⟩
      · rename_i v0 l0 _ hh
        cases hh
        obtain ⟨⟨c1, b1⟩, L1, L2, e1, e2, _⟩ := am_bind e
        obtain ⟨⟨l1, b2⟩, L3, L4, e3, e4, _⟩ := am_bind e2
        have := am_ret e4
        simp only [Prod.mk.injEq] at this
        obtain ⟨rfl, rfl⟩ := this
        obtain ⟨h1, h2⟩ := borrowV_spec R hvu e1
        exact ⟨_, b1, l1, b2, L3, rfl, rfl, h1, h2, e3⟩
    obtain ⟨v1, b1, l1, b2, L3, rfl, rfl, h1, h2, e3⟩ := hhead
    obtain ⟨h3, h4⟩ := borrowL_spec R hvl e3
    exact ⟨h1.append h3, .cons (h2.prot (fun B o h => Bor.mono (fun p hp => List.mem_append.2 (.inl hp)) h)) (h4.prot (fun B o h => Bor.mono (fun p hp => List.mem_append.2 (.inr hp)) h))⟩

end
end Go.Ws
