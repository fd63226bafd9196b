/-
  A call out of the small heap: the callee's heap is what its arguments reach; behind it the caller's heap reads again.
  Conditions: none.
-/
import Derived.Test.YtpfhlkhdmikdaaaZRen
namespace Go.Ws
set_option linter.unusedVariables false
set_option linter.unusedSimpArgs false

theorem updF1_not {b : Nat} : ∀ {l : List (Nat × Blk)} {h : Nat → Option Blk}, b ∉ l.map (·.1) → updF1 h l b = h b
  | [], h, _ => rfl
  | (c, x) :: l, h, hn => by
    simp only [List.map_cons, List.mem_cons, not_or] at hn
    rw [updF1, updF1_not hn.2, if_neg hn.1]

theorem updF1_all {b : Nat} {x : Blk} : ∀ {l : List (Nat × Blk)} {h : Nat → Option Blk}, b ∈ l.map (·.1) → (∀ p ∈ l, p.1 = b → p.2 = x) → updF1 h l b = some x
  | (c, y) :: l, h, hm, ha => by
    rw [updF1]
    by_cases hb : b ∈ l.map (·.1)
    · exact updF1_all hb (fun p hp => ha p (List.mem_cons_of_mem _ hp))
    · rw [updF1_not hb]
      simp only [List.map_cons, List.mem_cons] at hm
      obtain rfl := hm.resolve_right hb
      rw [if_pos rfl]
      exact congrArg some (ha (b, y) (List.mem_cons_self ..) rfl)

theorem zip_mem_nodup {ids : List Nat} {xs : List Blk} (hn : ids.Nodup) (hl : xs.length = ids.length) {b : Nat} (hb : b ∈ ids) : ∃ x, xs[ids.idxOf b]? = some x ∧ ∀ p ∈ ids.zip xs, p.1 = b → p.2 = x := by
  have hlt : ids.idxOf b < xs.length := by rw [hl]; exact List.idxOf_lt_length_iff.2 hb
  refine ⟨xs[ids.idxOf b], List.getElem?_eq_getElem hlt, fun p hp he => ?_⟩
  obtain ⟨i, hi⟩ := List.mem_iff_getElem?.1 hp
  rw [List.getElem?_zip_eq_some] at hi
  have hib : ids[i]? = some b := by rw [hi.1, he]
  have hil : i < ids.length := (List.getElem?_eq_some_iff.1 hib).1
  have : ids.idxOf b = i := by
    have h1 : ids[i] = b := (List.getElem?_eq_some_iff.1 hib).2
    rw [← h1]
    exact List.Nodup.idxOf_getElem hn i hil
  have h2 := hi.2
  rw [← this, List.getElem?_eq_getElem hlt] at h2
  exact (Option.some.inj h2).symm

section
variable {P : Program} {σ : Sig} {π : Prot} {w : World} {h : Nat → Option Blk} {n : Nat} {δ : Delta} {L : List Nat}

/-- What a call comes to. -/
def Ret (σ : Sig) (π : Prot) (w : World) (v : AV) (h' : List Blk) (e : Ending) (w' : World) : Prop :=
  ∃ u σ' π', e = .returned u ∧ VR σ' π' w' v u ∧ Done σ π w σ' π' w' (h'[·]?)

def CallOK (P : Program) (call : CallT) : Prop := ∀ frz f args h v h', call frz f args h = some (v, h') →
  (∀ cargs w, (callFunc f cargs).run P w = .ok (.enter f cargs) w) ∧ h.length ≤ h'.length ∧
  ∀ σ π w cargs, Rel σ π w (h[·]?) → VRs σ π w args cargs → Calls P f cargs w (Ret σ π w v h')

mutual
theorem hasInl_prot {σ : Sig} {π π' : Prot} {w : World} : ∀ (v : AV) (u : Value), v.hasInl = false → VR σ π w v u → VR σ π' w v u
  | .bool _, _, _, hv => by cases hv; constructor
  | .int _ _, _, _, hv => by cases hv; constructor
  | .str _, _, _, hv => by cases hv; constructor
  | .nilp, _, _, hv => by cases hv; constructor
  | .hp _ _, _, _, hv => by cases hv with | hp _ _ l hl => exact .hp _ _ l hl
  | .ep _ _ _ _ _, _, _, hv => by cases hv with | ep _ _ _ _ _ l hl hi => exact .ep _ _ _ _ _ l hl hi
  | .ip _ _ _ _, _, h, _ => by simp [AV.hasInl] at h
  | .nils, _, _, hv => by cases hv; constructor
  | .emps, _, _, hv => by cases hv; constructor
  | .inl _ _, _, h, _ => by simp [AV.hasInl] at h
  | .ref _ _ _ _ _ _, _, _, hv => by cases hv with | ref _ _ _ _ _ _ a c l hl hi hn ha hf C e hC hs => exact .ref _ _ _ _ _ _ a c l hl hi hn ha hf C e hC hs
  | .mapn, _, _, hv => by cases hv; constructor
  | .mp _, _, _, hv => by cases hv with | mp _ l hl => exact .mp _ l hl
  | .fn f c, _, h, hv => by
    cases hv with
    | fn _ _ d hl hv => exact .fn f c d hl (hasInlL_prot c d (by simpa [AV.hasInl] using h) hv)
  | .nilf, _, _, hv => by cases hv; constructor
  | .agg c, _, h, hv => by
    cases hv with
    | agg _ d hl hv => exact .agg c d hl (hasInlL_prot c d (by simpa [AV.hasInl] using h) hv)
  | .tup c, _, h, hv => by
    cases hv with
    | tup _ d hl hv => exact .tup c d hl (hasInlL_prot c d (by simpa [AV.hasInl] using h) hv)
theorem hasInlL_prot {σ : Sig} {π π' : Prot} {w : World} : ∀ (c : List AV) (d : Array Value), AV.hasInlL c = false → (∀ (i : Nat) v u, c[i]? = some v → d[i]? = some u → VR σ π w v u) →
    ∀ (i : Nat) v u, c[i]? = some v → d[i]? = some u → VR σ π' w v u
  | [], _, _, _, i, v, u, hi, _ => by simp at hi
  | x :: c, d, h, hv, 0, v, u, hi, hu => by
    simp only [AV.hasInlL, Bool.or_eq_false_iff] at h
    simp at hi
    subst hi
    exact hasInl_prot x u h.1 (hv 0 x u rfl hu)
  | x :: c, d, h, hv, i + 1, v, u, hi, hu => by
    simp only [AV.hasInlL, Bool.or_eq_false_iff] at h
    obtain ⟨dl⟩ := d
    cases dl with
    | nil => simp at hu
    | cons y dl =>
      exact hasInlL_prot c dl.toArray h.2 (fun j v u h1 h2 => hv (j + 1) v u (by simpa using h1) (by simpa using h2)) i v u (by simpa using hi) (by simpa using hu)
end

/-- The heap of what is reached reads in the same world. -/
theorem rel_mini (R : Rel σ π w h) {bs : List (Nat × Blk)} (hn : (bs.map (·.1)).Nodup) (hb : ∀ p ∈ bs, h p.1 = some p.2) (hc : ∀ p ∈ bs, ∀ c ∈ p.2.refs, c ∈ bs.map (·.1))
    {π1 : Prot} (hp : ∀ B o, π B o → π1 B o) (hp2 : ∀ B o, π1 B o → B < w.heap.size) (hpm : ∀ p ∈ bs, ∀ g l, σ p.1 g = some l → ∀ o, π1 l.blk o → π l.blk o) :
    Rel (fun i g => match (bs.map (·.1))[i]? with | some b => σ b g | none => none) π1 w ((bs.map fun x => x.2.ren (bs.map (·.1)).idxOf)[·]?) := by
  have hat : ∀ i p, bs[i]? = some p → (bs.map (·.1)).idxOf p.1 = i := by
    intro i p hi
    have h1 : (bs.map (·.1))[i]? = some p.1 := by simp [hi]
    have hlt := (List.getElem?_eq_some_iff.1 h1).1
    have h2 := (List.getElem?_eq_some_iff.1 h1).2
    rw [← h2]
    exact List.Nodup.idxOf_getElem hn i hlt
  refine ⟨fun i x hx => ?_, fun i hi g => ?_, fun i g i' g' l l' hl hl' he => ?_, fun i g l hl => ?_, hp2⟩
  · simp only [List.getElem?_map, Option.map_eq_some_iff] at hx
    obtain ⟨p, hpi, rfl⟩ := hx
    have hm := List.mem_of_getElem? hpi
    have hE : Ext σ π w σ π1 w := ⟨fun _ _ _ h => h, hp, fun _ _ _ => rfl, fun _ _ _ C _ _ _ h => ⟨C, h, rfl⟩⟩
    have hB := (R.blk p.1 p.2 (hb p hm)).mono hE (fun _ => rfl) (fun _ _ _ => rfl) (fun g l o hl ho => hpm p hm g l hl o ho)
    refine hB.ren (b' := i) (fun g => by simp [hpi]) (fun c hcc g l hl => ?_)
    have hcm := hc p hm c hcc
    have : (bs.map (·.1))[(bs.map (·.1)).idxOf c]? = some c := by
      rw [List.getElem?_eq_getElem (List.idxOf_lt_length_iff.2 hcm)]
      simp
    simp only [this]
    exact hl
  · simp only [List.getElem?_map, Option.map_eq_none_iff] at hi ⊢
    simp [hi]
  · simp only [List.getElem?_map] at hl hl'
    cases h1 : bs[i]? with
    | none => simp [h1] at hl
    | some p =>
      cases h2 : bs[i']? with
      | none => simp [h2] at hl'
      | some p' =>
        simp only [h1, h2, Option.map_some] at hl hl'
        have := R.inj _ _ _ _ _ _ hl hl' he
        rw [← hat i p h1, ← hat i' p' h2, this]
  · simp only [List.getElem?_map] at hl
    cases h1 : bs[i]? with
    | none => simp [h1] at hl
    | some p =>
      simp only [h1, Option.map_some] at hl
      exact R.lt _ _ _ hl

/-- The caller's places behind a call. -/
def sigBack (σ σ2 : Sig) (ids : List Nat) (n m : Nat) : Sig := fun b g => if b ∈ ids then σ2 (ids.idxOf b) g else if n ≤ b ∧ b < n + m then σ2 (ids.length + (b - n)) g else σ b g

set_option maxHeartbeats 1000000 in
theorem back_rel (R : Rel σ π w h) {ids : List Nat} (hnd : ids.Nodup) (hsome : ∀ b ∈ ids, ∃ x, h b = some x) {π1 : Prot} (hπ1 : ∀ B o, π B o → π1 B o)
    {bw : List (Nat × Blk)} (hlent : Lent h bw) (hbor : ∀ B o, π1 B o → Bor π σ bw B o) (hone : bw = [] ∨ ids = [])
    {h' : List Blk} (hlen : ids.length ≤ h'.length) (hnew : ∀ i, i < h'.length - ids.length → h (n + i) = none)
    {σ2 : Sig} {π2 : Prot} {w' : World} (D : Done (fun i g => match ids[i]? with | some b => σ b g | none => none) π1 w σ2 π2 w' (h'[·]?)) (v : AV) :
    (∀ b g l, σ2 b g = some l → sigBack σ σ2 ids n (h'.length - ids.length) (backId ids n b) g = some l) ∧
    Done σ π w (sigBack σ σ2 ids n (h'.length - ids.length)) π2 w' (updF h n ⟨v, bw ++ ids.zip ((h'.take ids.length).map (Blk.ren (backId ids n))), (h'.drop ids.length).map (Blk.ren (backId ids n))⟩) := by
  have hidx : ∀ (i b : Nat), ids[i]? = some b → ids.idxOf b = i := by
    intro i b hi
    have hlt := (List.getElem?_eq_some_iff.1 hi).1
    rw [← (List.getElem?_eq_some_iff.1 hi).2]
    exact List.Nodup.idxOf_getElem hnd i hlt
  have hget : ∀ b, b ∈ ids → ids[ids.idxOf b]? = some b := by
    intro b hb
    rw [List.getElem?_eq_getElem (List.idxOf_lt_length_iff.2 hb)]
    simp
  have hnotnew : ∀ b, b ∈ ids → ¬ (n ≤ b ∧ b < n + (h'.length - ids.length)) := by
    intro b hb hh
    obtain ⟨x, hx⟩ := hsome b hb
    have := hnew (b - n) (by omega)
    rw [show n + (b - n) = b by omega, hx] at this
    cases this
  have hsm : ∀ b g l, b ∈ ids → σ b g = some l → (match ids[ids.idxOf b]? with | some b => σ b g | none => none) = some l := by
    intro b g l hb hl
    rw [hget b hb]
    exact hl
  have hback : ∀ b g l, σ2 b g = some l → sigBack σ σ2 ids n (h'.length - ids.length) (backId ids n b) g = some l := by
    intro b g l hl
    have hbl : b < h'.length := by
      rcases Nat.lt_or_ge b h'.length with h1 | h1
      · exact h1
      · have := D.rel.non b (by simpa using h1) g
        rw [hl] at this
        cases this
    unfold backId sigBack
    by_cases hb : b < ids.length
    · rw [if_pos hb]
      have e1 : ids.getD b 0 = ids[b] := by simp [List.getD_eq_getElem?_getD, hb]
      rw [e1, if_pos (List.getElem_mem hb), hidx b _ (List.getElem?_eq_getElem hb)]
      exact hl
    · rw [if_neg hb]
      have hni : n + (b - ids.length) ∉ ids := by
        intro hm
        exact hnotnew _ hm ⟨by omega, by omega⟩
      rw [if_neg hni, if_pos ⟨by omega, by omega⟩, show ids.length + (n + (b - ids.length) - n) = b by omega]
      exact hl
  have hmini : ∀ (i g : Nat) (l : Loc), (match ids[i]? with | some b => σ b g | none => none) = some l → ∃ b, b ∈ ids ∧ σ b g = some l := by
    intro i g l hl
    cases hi : ids[i]? with
    | none => simp [hi] at hl
    | some b => simp only [hi] at hl; exact ⟨b, List.mem_of_getElem? hi, hl⟩
  have hfr : ∀ b g l, b ∉ ids → σ b g = some l → w'.heap[l.blk]? = w.heap[l.blk]? := by
    intro b g l hb hl
    refine D.frm.same l.blk (R.lt _ _ _ hl) (fun i g' l' hl' he => ?_)
    obtain ⟨c, hc, hcl⟩ := hmini i g' l' hl'
    exact hb (R.inj _ _ _ _ _ _ hl hcl he.symm ▸ hc)
  have hpr : ∀ b g l o, b ∉ ids → σ b g = some l → π2 l.blk o → Bor π σ bw l.blk o := by
    intro b g l o hb hl ho
    rcases D.frm.pro _ _ ho with h1 | h1 | ⟨i, g', l', hl', he⟩
    · exact hbor _ _ h1
    · have := R.lt _ _ _ hl; omega
    · obtain ⟨c, hc, hcl⟩ := hmini i g' l' hl'
      exact absurd (R.inj _ _ _ _ _ _ hl hcl he.symm ▸ hc) hb
  have E : Ext σ π w (sigBack σ σ2 ids n (h'.length - ids.length)) π2 w' := by
    refine ⟨fun b g l hl => ?_, fun B o hB => D.ext.prot _ _ (hπ1 _ _ hB), fun B o hB => D.ext.cell _ _ (hπ1 _ _ hB), fun b g l C e fr hl hC => ?_⟩
    · unfold sigBack
      by_cases hb : b ∈ ids
      · rw [if_pos hb]
        exact D.ext.sig _ _ _ (hsm b g l hb hl)
      · rw [if_neg hb, if_neg]
        · exact hl
        · intro hh
          have h0 : h b = none := by
            have := hnew (b - n) (by omega)
            rwa [show n + (b - n) = b by omega] at this
          rw [R.non b h0 g] at hl
          cases hl
    · by_cases hb : b ∈ ids
      · exact D.ext.size _ _ _ C e fr (hsm b g l hb hl) hC
      · exact ⟨C, (hfr b g l hb hl).trans hC, rfl⟩
  refine ⟨hback, E, ⟨D.frm.size, D.frm.os, D.frm.tape, D.frm.output, fun B hB hn' => ?_, fun b g l hl => ?_, fun B o hp => ?_⟩, ?_⟩
  · refine D.frm.same B hB (fun i g l hl => ?_)
    obtain ⟨c, hc, hcl⟩ := hmini i g l hl
    exact hn' c g l hcl
  · have key : ∀ i, σ2 i g = some l → w.heap.size ≤ l.blk ∨ ∃ b0 g0 l0, σ b0 g0 = some l0 ∧ l0.blk = l.blk := by
      intro i hi
      rcases D.frm.own i g l hi with h1 | ⟨i0, g0, l0, h1, h2⟩
      · exact .inl h1
      · obtain ⟨c, hc, hcl⟩ := hmini i0 g0 l0 h1
        exact .inr ⟨c, g0, l0, hcl, h2⟩
    unfold sigBack at hl
    split at hl
    · exact key _ hl
    · split at hl
      · exact key _ hl
      · exact .inr ⟨b, g, l, hl, rfl⟩
  · rcases D.frm.pro B o hp with h1 | h1 | ⟨i, g, l, hl, he⟩
    · rcases hbor _ _ h1 with h2 | ⟨b, s, rows, gen, wgen, g, l, _, _, _, hl, he, _⟩
      · exact .inl h2
      · exact .inr (.inr ⟨b, g, l, hl, he⟩)
    · exact .inr (.inl h1)
    · obtain ⟨c, hc, hcl⟩ := hmini i g l hl
      exact .inr (.inr ⟨c, g, l, hcl, he⟩)
  · -- the caller's heap
    have hnwl : ((h'.drop ids.length).map (Blk.ren (backId ids n))).length = h'.length - ids.length := by simp
    have hxl : ((h'.take ids.length).map (Blk.ren (backId ids n))).length = ids.length := by simp; omega
    have hzip : (ids.zip ((h'.take ids.length).map (Blk.ren (backId ids n)))).map (·.1) = ids := by
      rw [List.map_fst_zip]
      omega
    -- each block, where it stands
    have hblk : ∀ b, (n ≤ b ∧ b < n + (h'.length - ids.length) ∧ ∃ x, h'[ids.length + (b - n)]? = some x ∧ updF h n ⟨v, bw ++ ids.zip ((h'.take ids.length).map (Blk.ren (backId ids n))), (h'.drop ids.length).map (Blk.ren (backId ids n))⟩ b = some (x.ren (backId ids n))) ∨
        (b ∈ ids ∧ ∃ x, h'[ids.idxOf b]? = some x ∧ updF h n ⟨v, bw ++ ids.zip ((h'.take ids.length).map (Blk.ren (backId ids n))), (h'.drop ids.length).map (Blk.ren (backId ids n))⟩ b = some (x.ren (backId ids n))) ∨
        (b ∉ ids ∧ ¬ (n ≤ b ∧ b < n + (h'.length - ids.length)) ∧ ∃ s rows gen wgen ro, (b, Blk.arr s rows gen wgen true) ∈ bw ∧ h b = some (.arr s rows gen wgen ro) ∧ updF h n ⟨v, bw ++ ids.zip ((h'.take ids.length).map (Blk.ren (backId ids n))), (h'.drop ids.length).map (Blk.ren (backId ids n))⟩ b = some (.arr s rows gen wgen true)) ∨
        (b ∉ ids ∧ ¬ (n ≤ b ∧ b < n + (h'.length - ids.length)) ∧ b ∉ bw.map (·.1) ∧ updF h n ⟨v, bw ++ ids.zip ((h'.take ids.length).map (Blk.ren (backId ids n))), (h'.drop ids.length).map (Blk.ren (backId ids n))⟩ b = h b) := by
      intro b
      unfold updF
      simp only [hnwl]
      by_cases h1 : n ≤ b ∧ b < n + (h'.length - ids.length)
      · refine .inl ⟨h1.1, h1.2, ?_⟩
        have hlt : ids.length + (b - n) < h'.length := by omega
        refine ⟨h'[ids.length + (b - n)], List.getElem?_eq_getElem hlt, ?_⟩
        rw [if_pos h1]
        simp [List.getElem?_drop, List.getElem?_eq_getElem hlt]
      · rw [if_neg h1]
        by_cases h2 : b ∈ ids
        · refine .inr (.inl ⟨h2, ?_⟩)
          have hbw : bw = [] := hone.resolve_right (by rintro rfl; cases h2)
          subst hbw
          simp only [List.nil_append]
          obtain ⟨x, hx, hall⟩ := zip_mem_nodup hnd hxl h2
          have hilt : ids.idxOf b < ids.length := List.idxOf_lt_length_iff.2 h2
          simp only [List.getElem?_map, List.getElem?_take, if_pos hilt, Option.map_eq_some_iff] at hx
          obtain ⟨y, hy, rfl⟩ := hx
          exact ⟨y, hy, updF1_all (by rw [hzip]; exact h2) hall⟩
        · by_cases h3 : b ∈ bw.map (·.1)
          · refine .inr (.inr (.inl ⟨h2, h1, ?_⟩))
            have hids : ids = [] := hone.resolve_left (by rintro rfl; cases h3)
            obtain ⟨p, hp, rfl⟩ := List.mem_map.1 h3
            obtain ⟨s, rows, gen, wgen, ro, hl1, hl2⟩ := hlent p hp
            refine ⟨s, rows, gen, wgen, ro, by rw [← hl2]; exact hp, hl1, ?_⟩
            refine updF1_all (by simp only [List.map_append, List.mem_append]; exact .inl h3) (fun q hq hqe => ?_)
            rcases List.mem_append.1 hq with hq | hq
            · obtain ⟨s', rows', gen', wgen', ro', hq1, hq2⟩ := hlent q hq
              rw [hqe, hl1] at hq1
              cases hq1
              exact hq2
            · rw [hids] at hq
              simp at hq
          · refine .inr (.inr (.inr ⟨h2, h1, h3, ?_⟩))
            exact updF1_not (by simp only [List.map_append, List.mem_append, hzip]; exact fun hh => hh.elim h3 h2)
    have hs1 : ∀ b g, n ≤ b → b < n + (h'.length - ids.length) → sigBack σ σ2 ids n (h'.length - ids.length) b g = σ2 (ids.length + (b - n)) g := by
      intro b g h1 h2
      unfold sigBack
      rw [if_neg (fun hm => hnotnew b hm ⟨h1, h2⟩), if_pos ⟨h1, h2⟩]
    have hs2 : ∀ b g, b ∈ ids → sigBack σ σ2 ids n (h'.length - ids.length) b g = σ2 (ids.idxOf b) g := fun b g hb => by unfold sigBack; rw [if_pos hb]
    have hs3 : ∀ b g, b ∉ ids → ¬ (n ≤ b ∧ b < n + (h'.length - ids.length)) → sigBack σ σ2 ids n (h'.length - ids.length) b g = σ b g := fun b g h1 h2 => by unfold sigBack; rw [if_neg h1, if_neg h2]
    refine ⟨fun b x hx => ?_, fun b hb g => ?_, fun b g b' g' l l' hl hl' he => ?_, fun b g l hl => ?_, D.rel.prot⟩
    · rcases hblk b with ⟨a1, a2, y, hy, hu⟩ | ⟨a1, y, hy, hu⟩ | ⟨a1, a2, s, rows, gen, wgen, ro, hm, hh, hu⟩ | ⟨a1, a2, a3, hu⟩
      · rw [hu] at hx
        cases hx
        exact (D.rel.blk _ y hy).ren (fun g => hs1 b g a1 a2) (fun c _ g l hl => hback c g l hl)
      · rw [hu] at hx
        cases hx
        exact (D.rel.blk _ y hy).ren (fun g => hs2 b g a1) (fun c _ g l hl => hback c g l hl)
      · rw [hu] at hx
        cases hx
        obtain ⟨q1, q2, q3, q4, ⟨l, c1, c2, c3, c4⟩, q6⟩ := R.blk b _ hh
        refine ⟨q1, q2, q3, fun g hg => (hs3 b g a1 a2).trans (q4 g hg), ⟨l, (hs3 b _ a1 a2).trans c1, c2, fun hf => (by cases hf), fun o ho hp => ?_⟩, fun g hg hg' => ?_⟩
        · rcases hpr b gen l o a1 c1 hp with h2 | ⟨b2, s2, rows2, gen2, wgen2, g2, l2, hm2, hg1, hg2, hl2, he2, hlt⟩
          · exact c4 o ho h2
          · obtain rfl := R.inj _ _ _ _ _ _ hl2 c1 he2
            obtain ⟨s3, rows3, gen3, wgen3, ro3, hq1, hq2⟩ := hlent _ hm2
            rw [hh] at hq1
            cases hq1
            cases hq2
            obtain ⟨l3, C, e, p1, p2, p3, p4, p5⟩ := q6 g2 hg1 hg2
            rw [hl2] at p1
            cases p1
            have : l2.m * s ≤ rows.length * s := Nat.mul_le_mul_right _ p2
            omega
        · obtain ⟨l3, C, e, p1, p2, p3, p4, p5⟩ := q6 g hg hg'
          refine ⟨l3, C, e, (hs3 b g a1 a2).trans p1, p2, (hfr b g l3 a1 p1).trans p3, p4, fun r row hr hrow => (p5 r row hr hrow).mono E⟩
      · rw [hu] at hx
        refine (R.blk b x hx).mono E (fun g => hs3 b g a1 a2) (fun g l hl => hfr b g l a1 hl) (fun g l o hl hp => ?_)
        rcases hpr b g l o a1 hl hp with h2 | ⟨b2, s2, rows2, gen2, wgen2, g2, l2, hm2, _, _, hl2, he2, _⟩
        · exact h2
        · obtain rfl := R.inj _ _ _ _ _ _ hl2 hl he2
          exact absurd (List.mem_map.2 ⟨_, hm2, rfl⟩) a3
    · rcases hblk b with ⟨a1, a2, y, hy, hu⟩ | ⟨a1, y, hy, hu⟩ | ⟨a1, a2, s, rows, gen, wgen, ro, hm, hh, hu⟩ | ⟨a1, a2, a3, hu⟩
      · rw [hu] at hb; cases hb
      · rw [hu] at hb; cases hb
      · rw [hu] at hb; cases hb
      · rw [hs3 b g a1 a2]
        exact R.non b (hu ▸ hb) g
    · -- where each comes from
      have key : ∀ b g l, sigBack σ σ2 ids n (h'.length - ids.length) b g = some l → (∃ i, σ2 i g = some l ∧ backId ids n i = b) ∨ (b ∉ ids ∧ σ b g = some l) := by
        intro b g l hl
        by_cases h1 : b ∈ ids
        · rw [hs2 b g h1] at hl
          refine .inl ⟨_, hl, ?_⟩
          unfold backId
          rw [if_pos (List.idxOf_lt_length_iff.2 h1)]
          simp [List.getD_eq_getElem?_getD, hget b h1]
        · by_cases h2 : n ≤ b ∧ b < n + (h'.length - ids.length)
          · rw [hs1 b g h2.1 h2.2] at hl
            refine .inl ⟨_, hl, ?_⟩
            unfold backId
            rw [if_neg (by omega)]
            omega
          · rw [hs3 b g h1 h2] at hl
            exact .inr ⟨h1, hl⟩
      have cross : ∀ i g l b g' l', σ2 i g = some l → b ∉ ids → σ b g' = some l' → l.blk = l'.blk → False := by
        intro i g l b g' l' hl hb hl' he
        have hlt := R.lt _ _ _ hl'
        rcases D.frm.own i g l hl with h1 | ⟨i0, g0, l0, h1, h2⟩
        · omega
        · obtain ⟨c, hc, hcl⟩ := hmini i0 g0 l0 h1
          exact hb (R.inj _ _ _ _ _ _ hcl hl' (h2.trans he) ▸ hc)
      rcases key b g l hl with ⟨i, hi, rfl⟩ | ⟨a1, a2⟩
      · rcases key b' g' l' hl' with ⟨i', hi', rfl⟩ | ⟨a1', a2'⟩
        · rw [D.rel.inj _ _ _ _ _ _ hi hi' he]
        · exact (cross i g l b' g' l' hi a1' a2' he).elim
      · rcases key b' g' l' hl' with ⟨i', hi', rfl⟩ | ⟨a1', a2'⟩
        · exact (cross i' g' l' b g l hi' a1 a2 he.symm).elim
        · exact R.inj _ _ _ _ _ _ a2 a2' he
    · unfold sigBack at hl
      split at hl
      · exact D.rel.lt _ _ _ hl
      · split at hl
        · exact D.rel.lt _ _ _ hl
        · exact Nat.lt_of_lt_of_le (R.lt _ _ _ hl) D.frm.size

end
end Go.Ws
