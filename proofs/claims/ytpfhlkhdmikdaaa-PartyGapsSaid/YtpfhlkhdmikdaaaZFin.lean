/-
  What a function hands back: frozen, and cut down to what is reached.
  Conditions: none.
-/
import Derived.Test.YtpfhlkhdmikdaaaZCode
namespace Go.Ws
set_option linter.unusedVariables false
set_option linter.unusedSimpArgs false

variable {P : Program} {σ : Sig} {π : Prot} {w : World}

/-- The cells of all arrays from m on. -/
def Froz (π : Prot) (σ : Sig) (h : List Blk) (m : Nat) : Prot := fun B o => π B o ∨ ∃ b s rows gen wgen ro g l, m ≤ b ∧ h[b]? = some (.arr s rows gen wgen ro) ∧ wgen ≤ g ∧ g ≤ gen ∧ σ b g = some l ∧ l.blk = B ∧ o < l.m * s

mutual
theorem frzV_vr {h : List Blk} {m : Nat} (R : Rel σ π w (h[·]?)) : ∀ (v v' : AV) (u : Value), VR σ π w v u → frzV h m v = some v' → VR σ (Froz π σ h m) w v' u
  | .ref sz b g i n full, v', u, hv, e => by
    simp only [frzV] at e
    split at e
    · cases e; exact hv.prot fun _ _ h => .inl h
    · rename_i hb
      split at e
      · rename_i s rows gen wgen ro hx
        split at e
        · rename_i hc
          cases e
          have e2 : (borrowV (.ref sz b g i n full)).run (h[·]?) = some ((.inl sz ((rows.drop i).take n), [(b, .arr s rows gen wgen true)]), [b]) := by
            simp only [borrowV, AM.run, hx]
            rw [if_pos hc]
            rfl
          obtain ⟨_, hv'⟩ := borrowV_spec R hv e2
          refine hv'.prot fun B o hp => ?_
          rcases hp with hp | ⟨b', s', rows', gen', wgen', g', l', hm, h1, h2, h3⟩
          · exact .inl hp
          · simp only [List.mem_singleton, Prod.mk.injEq, Blk.arr.injEq, and_true] at hm
            obtain ⟨rfl, rfl, rfl, rfl, rfl⟩ := hm
            exact .inr ⟨_, _, _, _, _, _, g', l', by omega, hx, h1, h2, h3⟩
        · cases e
      · cases e
  | .agg l, v', u, hv, e => by
    simp only [frzV] at e
    split at e
    · rename_i l' hl'
      cases e
      cases hv with
      | agg _ d hl hv =>
        obtain ⟨h1, h2⟩ := frzL_vr R l l' d ⟨hl, hv⟩ hl'
        exact .agg l' d h1 h2
    · cases e
  | .tup l, v', u, hv, e => by
    simp only [frzV] at e
    split at e
    · rename_i l' hl'
      cases e
      cases hv with
      | tup _ d hl hv =>
        obtain ⟨h1, h2⟩ := frzL_vr R l l' d ⟨hl, hv⟩ hl'
        exact .tup l' d h1 h2
    · cases e
  | .bool _, v', u, hv, e => by simp only [frzV, Option.some.injEq] at e; subst e; exact hv.prot fun _ _ h => .inl h
  | .int _ _, v', u, hv, e => by simp only [frzV, Option.some.injEq] at e; subst e; exact hv.prot fun _ _ h => .inl h
  | .str _, v', u, hv, e => by simp only [frzV, Option.some.injEq] at e; subst e; exact hv.prot fun _ _ h => .inl h
  | .nilp, v', u, hv, e => by simp only [frzV, Option.some.injEq] at e; subst e; exact hv.prot fun _ _ h => .inl h
  | .hp _ _, v', u, hv, e => by simp only [frzV, Option.some.injEq] at e; subst e; exact hv.prot fun _ _ h => .inl h
  | .ep _ _ _ _ _, v', u, hv, e => by simp only [frzV, Option.some.injEq] at e; subst e; exact hv.prot fun _ _ h => .inl h
  | .ip _ _ _ _, v', u, hv, e => by simp only [frzV, Option.some.injEq] at e; subst e; exact hv.prot fun _ _ h => .inl h
  | .nils, v', u, hv, e => by simp only [frzV, Option.some.injEq] at e; subst e; exact hv.prot fun _ _ h => .inl h
  | .emps, v', u, hv, e => by simp only [frzV, Option.some.injEq] at e; subst e; exact hv.prot fun _ _ h => .inl h
  | .inl _ _, v', u, hv, e => by simp only [frzV, Option.some.injEq] at e; subst e; exact hv.prot fun _ _ h => .inl h
  | .mapn, v', u, hv, e => by simp only [frzV, Option.some.injEq] at e; subst e; exact hv.prot fun _ _ h => .inl h
  | .mp _, v', u, hv, e => by simp only [frzV, Option.some.injEq] at e; subst e; exact hv.prot fun _ _ h => .inl h
  | .fn _ _, v', u, hv, e => by simp only [frzV, Option.some.injEq] at e; subst e; exact hv.prot fun _ _ h => .inl h
  | .nilf, v', u, hv, e => by simp only [frzV, Option.some.injEq] at e; subst e; exact hv.prot fun _ _ h => .inl h
theorem frzL_vr {h : List Blk} {m : Nat} (R : Rel σ π w (h[·]?)) : ∀ (l l' : List AV) (d : Array Value), VRs σ π w l d → frzL h m l = some l' → VRs σ (Froz π σ h m) w l' d
  | [], l', d, hv, e => by
    simp only [frzL, Option.some.injEq] at e; subst e
    exact ⟨hv.1, fun i v u h => by simp at h⟩
  | v :: l, l', d, hv, e => by
    simp only [frzL] at e
    split at e
    · rename_i v1 l1 h1 h2
      cases e
      obtain ⟨u, r, rfl, hu, hr⟩ := hv.tail
      exact .cons (frzV_vr R v v1 u hu h1) (frzL_vr R l l1 _ hr h2)
    · cases e
end

/-- One block, its slices frozen. -/
def frzB (h : List Blk) (m : Nat) : Blk → Option Blk
  | .row c => (frzL h m c).map .row
  | b => some b

theorem frzBs_at (h : List Blk) (m : Nat) : ∀ (l l' : List Blk), frzBs h m l = some l' → l'.length = l.length ∧ ∀ (i : Nat) x, l'[i]? = some x → ∃ y, l[i]? = some y ∧ frzB h m y = some x
  | [], l', e => by simp only [frzBs, Option.some.injEq] at e; subst e; exact ⟨rfl, fun i x h => by simp at h⟩
  | .row c :: l, l', e => by
    simp only [frzBs] at e
    split at e
    · rename_i c1 l1 h1 h2
      cases e
      obtain ⟨k1, k2⟩ := frzBs_at h m l l1 h2
      refine ⟨by simp [k1], fun i x hi => ?_⟩
      cases i with
      | zero => simp at hi; subst hi; exact ⟨_, rfl, by simp [frzB, h1]⟩
      | succ i => exact k2 i x (by simpa using hi)
    · cases e
  | .arr s rows gen wgen ro :: l, l', e => by
    simp only [frzBs] at e
    split at e
    · rename_i l1 h2
      cases e
      obtain ⟨k1, k2⟩ := frzBs_at h m l l1 h2
      refine ⟨by simp [k1], fun i x hi => ?_⟩
      cases i with
      | zero => simp at hi; subst hi; exact ⟨_, rfl, rfl⟩
      | succ i => exact k2 i x (by simpa using hi)
    · cases e
  | .map es c :: l, l', e => by
    simp only [frzBs] at e
    split at e
    · rename_i l1 h2
      cases e
      obtain ⟨k1, k2⟩ := frzBs_at h m l l1 h2
      refine ⟨by simp [k1], fun i x hi => ?_⟩
      cases i with
      | zero => simp at hi; subst hi; exact ⟨_, rfl, rfl⟩
      | succ i => exact k2 i x (by simpa using hi)
    · cases e

theorem newIds_spec {h : List Blk} {m : Nat} : ∀ {k : Nat} {todo acc new : List Nat}, newIds h m k todo acc = some new → acc.Nodup → (∀ b ∈ acc, m ≤ b ∧ ∃ x, h[b]? = some x ∧ ∀ c ∈ x.refs, c < m ∨ c ∈ acc ∨ c ∈ todo) →
    new.Nodup ∧ (∀ b ∈ new, m ≤ b ∧ ∃ x, h[b]? = some x ∧ ∀ c ∈ x.refs, c < m ∨ c ∈ new) ∧ (∀ c ∈ todo, c < m ∨ c ∈ new) ∧ (∀ c ∈ acc, c ∈ new)
  | 0, [], acc, new, e, h1, h2 => by
    simp only [newIds, Option.some.injEq] at e; subst e
    exact ⟨h1, fun b hb => ⟨(h2 b hb).1, let ⟨x, hx, hr⟩ := (h2 b hb).2; ⟨x, hx, fun c hc => by simpa using hr c hc⟩⟩, fun c hc => (by cases hc), fun c hc => hc⟩
  | k + 1, [], acc, new, e, h1, h2 => by
    simp only [newIds, Option.some.injEq] at e; subst e
    exact ⟨h1, fun b hb => ⟨(h2 b hb).1, let ⟨x, hx, hr⟩ := (h2 b hb).2; ⟨x, hx, fun c hc => by simpa using hr c hc⟩⟩, fun c hc => (by cases hc), fun c hc => hc⟩
  | 0, _ :: _, _, _, e, _, _ => by cases e
  | k + 1, b :: todo, acc, new, e, h1, h2 => by
    simp only [newIds] at e
    split at e
    · rename_i hin
      have hin' : b < m ∨ b ∈ acc := by simpa using hin
      obtain ⟨a1, a2, a3, a4⟩ := newIds_spec e h1 (fun c hc => ⟨(h2 c hc).1, let ⟨x, hx, hr⟩ := (h2 c hc).2; ⟨x, hx, fun d hd => by
        rcases hr d hd with hh | hh | hh
        · exact .inl hh
        · exact .inr (.inl hh)
        · rcases List.mem_cons.1 hh with rfl | hh
          · exact hin'.elim .inl (fun h => .inr (.inl h))
          · exact .inr (.inr hh)⟩⟩)
      refine ⟨a1, a2, fun c hc => ?_, a4⟩
      rcases List.mem_cons.1 hc with rfl | hc
      · exact hin'.elim .inl (fun h => .inr (a4 _ h))
      · exact a3 c hc
    · rename_i hin
      have hin' : ¬ b < m ∧ b ∉ acc := by simpa using hin
      split at e
      · rename_i x hx
        obtain ⟨a1, a2, a3, a4⟩ := newIds_spec e (by
            rw [List.nodup_append]
            exact ⟨h1, by simp, fun a ha c hc => by simp at hc; subst hc; exact fun e => hin'.2 (e ▸ ha)⟩)
          (fun c hc => by
            rcases List.mem_append.1 hc with hc | hc
            · refine ⟨(h2 c hc).1, let ⟨y, hy, hr⟩ := (h2 c hc).2; ⟨y, hy, fun d hd => ?_⟩⟩
              rcases hr d hd with hh | hh | hh
              · exact .inl hh
              · exact .inr (.inl (List.mem_append.2 (.inl hh)))
              · rcases List.mem_cons.1 hh with rfl | hh
                · exact .inr (.inl (by simp))
                · exact .inr (.inr (List.mem_append.2 (.inl hh)))
            · simp at hc; subst hc
              exact ⟨by omega, x, hx, fun d hd => .inr (.inr (List.mem_append.2 (.inr hd)))⟩)
        refine ⟨a1, a2, fun c hc => ?_, fun c hc => a4 c (List.mem_append.2 (.inl hc))⟩
        rcases List.mem_cons.1 hc with rfl | hc
        · exact .inr (a4 _ (by simp))
        · exact a3 c (List.mem_append.2 (.inl hc))
      · cases e

/-- How the heap that is handed back is read. -/
def sigN (σ : Sig) (m : Nat) (new : List Nat) : Sig := fun b g => if b < m then σ b g else match new[b - m]? with | some c => σ c g | none => none

theorem idxOf_get {new : List Nat} (hn : new.Nodup) {i b : Nat} (h : new[i]? = some b) : new.idxOf b = i := by
  have hlt := (List.getElem?_eq_some_iff.1 h).1
  rw [← (List.getElem?_eq_some_iff.1 h).2]
  exact List.Nodup.idxOf_getElem hn i hlt

theorem sigN_back {new : List Nat} {m : Nat} (hm : ∀ b ∈ new, m ≤ b) {c : Nat} (hc : c < m ∨ c ∈ new) (g : Nat) : sigN σ m new (backN m new c) g = σ c g := by
  unfold sigN backN
  by_cases h : c < m
  · rw [if_pos h, if_pos h]
  · rw [if_neg h, if_neg (by omega), Nat.add_sub_cancel_left]
    have hc' := hc.resolve_left h
    rw [List.getElem?_eq_getElem (List.idxOf_lt_length_iff.2 hc')]
    simp

set_option maxHeartbeats 1000000 in
theorem final_ok {σ0 : Sig} {π0 : Prot} {w0 : World} {h0 h h' : List Blk} {v v' : AV} {u : Value} {frz : Bool} (R0 : Rel σ0 π0 w0 (h0[·]?)) (D : Done σ0 π0 w0 σ π w (h[·]?)) (hv : VR σ π w v u)
    (e : final h0.length frz v h = some (v', h')) : h0.length ≤ h'.length ∧ Ret σ0 π0 w0 v' h' (.returned u) w := by
  unfold final at e
  split at e
  · cases e
  rename_i hlen
  have R := D.rel
  -- frozen or not
  have hfr : ∀ v1 kept, (if frz then frzV h h0.length v else some v) = some v1 → (if frz then frzBs h h0.length (h.take h0.length) else some (h.take h0.length)) = some kept →
      ∃ π1 : Prot, (∀ B o, π B o → π1 B o) ∧ (∀ B o, π1 B o → π B o ∨ (frz = true ∧ ∃ b s rows gen wgen ro g l, h0.length ≤ b ∧ h[b]? = some (.arr s rows gen wgen ro) ∧ σ b g = some l ∧ l.blk = B)) ∧
        VR σ π1 w v1 u ∧ kept.length = h0.length ∧ ∀ i x, kept[i]? = some x → i < h0.length ∧ BR σ π1 w i x := by
    intro v1 kept h1 h2
    have hkl : (h.take h0.length).length = h0.length := by simp; omega
    have old : ∀ i x, (h.take h0.length)[i]? = some x → i < h0.length ∧ h[i]? = some x := by
      intro i x hi
      rw [List.getElem?_take] at hi
      split at hi
      · exact ⟨by assumption, hi⟩
      · cases hi
    cases frz with
    | false =>
      simp only [Bool.false_eq_true, if_false, Option.some.injEq] at h1 h2
      subst h1 h2
      exact ⟨π, fun _ _ h => h, fun _ _ h => .inl h, hv, hkl, fun i x hi => ⟨(old i x hi).1, R.blk i x (old i x hi).2⟩⟩
    | true =>
      simp only [if_true] at h1 h2
      obtain ⟨k1, k2⟩ := frzBs_at _ _ _ _ h2
      refine ⟨Froz π σ h h0.length, fun _ _ h => .inl h, fun B o hp => ?_, frzV_vr R _ _ _ hv h1, by omega, fun i x hi => ?_⟩
      · rcases hp with hp | ⟨b, s, rows, gen, wgen, ro, g, l, a1, a2, a3, a4, a5, a6, a7⟩
        · exact .inl hp
        · exact .inr ⟨rfl, b, s, rows, gen, wgen, ro, g, l, a1, a2, a5, a6⟩
      · obtain ⟨y, hy, hf⟩ := k2 i x hi
        obtain ⟨hlt, hyi⟩ := old i y hy
        refine ⟨hlt, ?_⟩
        have hB := R.blk i y hyi
        have hE : Ext σ π w σ (Froz π σ h h0.length) w := ⟨fun _ _ _ h => h, fun _ _ h => .inl h, fun _ _ _ => rfl, fun _ _ _ C _ _ _ h => ⟨C, h, rfl⟩⟩
        have hno : ∀ g l o, σ i g = some l → Froz π σ h h0.length l.blk o → π l.blk o := by
          intro g l o hl hp
          rcases hp with hp | ⟨b, s, rows, gen, wgen, ro, g', l', a1, a2, a3, a4, a5, a6, a7⟩
          · exact hp
          · have := R.inj _ _ _ _ _ _ a5 hl a6
            omega
        have hB' := hB.mono hE (fun _ => rfl) (fun _ _ _ => rfl) hno
        cases y with
        | row c =>
          simp only [frzB, Option.map_eq_some_iff] at hf
          obtain ⟨c', hc', rfl⟩ := hf
          obtain ⟨l, C, ty, q1, q2, q3, q4, q5⟩ := hB
          have hvs : VRs σ π w c C := ⟨q3, fun j v u hj hu => by
            obtain ⟨u', hu', hvu⟩ := q4 j v hj
            rw [Nat.zero_add] at hu'
            rw [hu'] at hu; cases hu
            exact hvu⟩
          have hvs' := frzL_vr R c c' C hvs hc'
          obtain ⟨_, _, _, p1, p2, _, _, p5⟩ := hB'
          refine ⟨l, C, ty, q1, q2, hvs'.1, fun j v hj => ?_, fun o ho => ?_⟩
          · obtain ⟨u, hu, hvu⟩ := hvs'.at_ hj
            exact ⟨u, by rw [Nat.zero_add]; exact hu, hvu⟩
          · exact q5 o (hno 0 l o q1 ho)
        | arr s rows gen wgen ro => simp only [frzB, Option.some.injEq] at hf; subst hf; exact hB'
        | map es c => simp only [frzB, Option.some.injEq] at hf; subst hf; exact hB'
  split at e
  · rename_i v1 kept hv1 hkept
    obtain ⟨π1, hπ, hπ', hv1', hkl, hkB⟩ := hfr v1 kept hv1 hkept
    split at e
    · rename_i new hnew
      split at e
      · cases e
      · rename_i hcheck
        simp only [Option.some.injEq, Prod.mk.injEq] at e
        obtain ⟨rfl, rfl⟩ := e
        obtain ⟨n1, n2, n3, _⟩ := newIds_spec hnew (by simp) (fun b hb => by cases hb)
        have hmn : ∀ b ∈ new, h0.length ≤ b := fun b hb => (n2 b hb).1
        have hnoArr : frz = true → ∀ b ∈ new, isArr h[b]? = false := by
          intro hf b hb
          cases ha : isArr h[b]? with
          | false => rfl
          | true =>
            refine absurd ?_ hcheck
            rw [hf, Bool.true_and]
            exact List.any_eq_true.2 ⟨b, hb, ha⟩
        have hback : ∀ c, c < h0.length ∨ c ∈ new → ∀ g l, σ c g = some l → sigN σ h0.length new (backN h0.length new c) g = some l := by
          intro c hc g l hl
          rw [sigN_back hmn hc, hl]
        refine ⟨by simp; omega, u, sigN σ h0.length new, π1, rfl, ?_, ?_, ?_, ?_⟩
        · exact hv1'.ren fun b hb => hback b (n3 b (List.mem_append.2 (.inl hb)))
        · -- ext
          refine ⟨fun b g l hl => ?_, fun B o hp => hπ _ _ (D.ext.prot B o hp), D.ext.cell, D.ext.size⟩
          have hb : b < h0.length := by
            refine Classical.byContradiction fun hge => ?_
            have := R0.non b (List.getElem?_eq_none (by omega)) g
            rw [hl] at this; cases this
          unfold sigN
          rw [if_pos hb]
          exact D.ext.sig b g l hl
        · -- frm
          refine ⟨D.frm.size, D.frm.os, D.frm.tape, D.frm.output, D.frm.same, fun b g l hl => ?_, fun B o hp => ?_⟩
          · unfold sigN at hl
            split at hl
            · exact D.frm.own b g l hl
            · split at hl
              · exact D.frm.own _ g l hl
              · cases hl
          · rcases hπ' B o hp with hp | ⟨_, b, s, rows, gen, wgen, ro, g, l, a1, a2, a3, a4⟩
            · exact D.frm.pro B o hp
            · rcases D.frm.own b g l a3 with h1 | ⟨b0, g0, l0, h1, h2⟩
              · exact .inr (.inl (by omega))
              · exact .inr (.inr ⟨b0, g0, l0, h1, h2.trans a4⟩)
        · -- rel
          refine ⟨fun b x hx => ?_, fun b hb g => ?_, fun b g b' g' l l' hl hl' he => ?_, fun b g l hl => ?_, fun B o hp => ?_⟩
          · rcases Nat.lt_or_ge b h0.length with hlt | hge
            · rw [List.getElem?_append_left (by simp; omega)] at hx
              simp only [List.getElem?_map, Option.map_eq_some_iff] at hx
              obtain ⟨y, hy, rfl⟩ := hx
              refine (hkB b y hy).2.ren (fun g => by unfold sigN; rw [if_pos hlt]) fun c hc => hback c (n3 c (List.mem_append.2 (.inr (List.mem_flatMap.2 ⟨y, List.mem_of_getElem? hy, hc⟩))))
            · rw [List.getElem?_append_right (by simp; omega)] at hx
              simp only [List.length_map, hkl, List.getElem?_map, Option.map_eq_some_iff] at hx
              obtain ⟨c, hc, rfl⟩ := hx
              obtain ⟨hmc, y, hy, hyr⟩ := n2 c (List.mem_of_getElem? hc)
              rw [hy]
              simp only [Option.getD_some]
              have hB := R.blk c y hy
              have hE : Ext σ π w σ π1 w := ⟨fun _ _ _ h => h, hπ, fun _ _ _ => rfl, fun _ _ _ C _ _ _ h => ⟨C, h, rfl⟩⟩
              have hB' : BR σ π1 w c y := hB.mono hE (fun _ => rfl) (fun _ _ _ => rfl) (fun g l o hl hp => by
                rcases hπ' _ _ hp with hp | ⟨hf, b2, s, rows, gen, wgen, ro, g2, l2, a1, a2, a3, a4⟩
                · exact hp
                · have := R.inj _ _ _ _ _ _ a3 hl a4
                  subst this
                  have := hnoArr hf b2 (List.mem_of_getElem? hc)
                  rw [a2] at this
                  cases this)
              refine hB'.ren (fun g => ?_) fun d hd => hback d (hyr d hd)
              unfold sigN
              rw [if_neg (by omega), hc]
          · have hge : ¬ b < h0.length := by
              intro hlt
              rw [List.getElem?_append_left (by simp; omega), List.getElem?_eq_none_iff] at hb
              simp at hb
              omega
            rw [List.getElem?_append_right (by simp; omega)] at hb
            simp only [List.length_map, hkl, List.getElem?_map, Option.map_eq_none_iff] at hb
            unfold sigN
            rw [if_neg hge, hb]
          · have orig : ∀ b g l, sigN σ h0.length new b g = some l → ∃ c, σ c g = some l ∧ ((b < h0.length ∧ c = b) ∨ (h0.length ≤ b ∧ new[b - h0.length]? = some c)) := by
              intro b g l hl
              unfold sigN at hl
              split at hl
              · exact ⟨b, hl, .inl ⟨by assumption, rfl⟩⟩
              · rename_i hge
                split at hl
                · rename_i c hc; exact ⟨c, hl, .inr ⟨by omega, hc⟩⟩
                · cases hl
            obtain ⟨c, hc, hcb⟩ := orig b g l hl
            obtain ⟨c', hc', hcb'⟩ := orig b' g' l' hl'
            have := R.inj _ _ _ _ _ _ hc hc' he
            subst this
            rcases hcb with ⟨h1, rfl⟩ | ⟨h1, h2⟩ <;> rcases hcb' with ⟨h3, h4⟩ | ⟨h3, h4⟩
            · exact h4
            · have := hmn _ (List.mem_of_getElem? h4); omega
            · have := hmn _ (List.mem_of_getElem? h2); omega
            · have e1 := idxOf_get n1 h2
              have e2 := idxOf_get n1 h4
              omega
          · unfold sigN at hl
            split at hl
            · exact R.lt b g l hl
            · split at hl
              · exact R.lt _ g l hl
              · cases hl
          · rcases hπ' B o hp with hp | ⟨_, b, s, rows, gen, wgen, ro, g, l, a1, a2, a3, a4⟩
            · exact R.prot B o hp
            · have := R.lt _ _ _ a3
              omega
    · cases e
  · cases e

end Go.Ws
