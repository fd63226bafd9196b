/-
  A call as an operation of the abstract machine.
  Conditions: none.
-/
import Derived.Test.YtpfhlkhdmikdaaaZCall
namespace Go.Ws
set_option linter.unusedVariables false
set_option linter.unusedSimpArgs false

section
variable {P : Program} {σ : Sig} {π : Prot} {w : World} {h : Nat → Option Blk} {n : Nat} {δ : Delta} {L : List Nat}

/-- What an operation leaves behind a call. -/
def CallDone (σ : Sig) (π : Prot) (w : World) (h : Nat → Option Blk) (n : Nat) (δ : Delta) (e : Ending) (w' : World) : Prop :=
  ∃ u σ' π', e = .returned u ∧ VR σ' π' w' δ.v u ∧ Done σ π w σ' π' w' (updF h n δ)

theorem op_call {call : CallT} (hcall : CallOK P call) (R : Rel σ π w h) (brw frz : Bool) (f : Nat) (args : List AV) (cargs : Array Value) (hv : VRs σ π w args cargs)
    (hn : ∀ i, i < δ.nw.length → h (n + i) = none) (e : (callOp call brw frz n f args).run h = some (δ, L)) :
    (∀ cargs w, (callFunc f cargs).run P w = .ok (.enter f cargs) w) ∧ Calls P f cargs w (CallDone σ π w h n δ) := by
  unfold callOp at e
  obtain ⟨⟨args', bw⟩, L1, L2, e1, e2, _⟩ := am_bind e
  clear e
  simp only at e2
  obtain ⟨bs, L3, L4, e3, e4, _⟩ := am_bind e2
  clear e2
  have hbor : Lent h bw ∧ VRs σ (Bor π σ bw) w args' cargs := by
    split at e1
    · exact borrowL_spec R hv e1
    · have := am_ret e1
      simp only [Prod.mk.injEq] at this
      obtain ⟨rfl, rfl⟩ := this
      exact ⟨fun p hp => (by cases hp), hv.prot (fun _ _ h => .inl h)⟩
  obtain ⟨hlent, hva⟩ := hbor
  obtain ⟨r1, r2, r3, r4, _, _⟩ := reach_spec e3 (by simp) (fun p hp => by cases hp) (fun p hp => by cases hp)
  split at e4
  · exact (am_fail e4).elim
  · rename_i hone
    have hone' : bw = [] ∨ bs = [] := by
      by_cases h1 : bw = []
      · exact .inl h1
      · exact .inr (Decidable.byContradiction fun h2 => hone ⟨h2, h1⟩)
    split at e4
    · exact (am_fail e4).elim
    · rename_i v h' hcr
      have hδ := am_ret e4
      obtain ⟨c1, c2, c3⟩ := hcall _ _ _ _ _ _ hcr
      simp only [List.length_map] at c2
      have hbl : (bs.map (·.1)).length = bs.length := by simp
      have hone2 : bw = [] ∨ bs.map (·.1) = [] := hone'.imp id (fun h => by rw [h]; rfl)
      have hRm := rel_mini R r1 r2 r3 (π1 := Bor π σ bw) (fun _ _ h => .inl h) (fun B o hp => by
          rcases hp with hp | ⟨b, s, rows, gen, wgen, g, l, _, _, _, hl, rfl, _⟩
          · exact R.prot _ _ hp
          · exact R.lt _ _ _ hl) (fun p hp g l hl o ho => by
          rcases ho with ho | ⟨b, s, rows, gen, wgen, g, l, hm, _⟩
          · exact ho
          · rcases hone' with rfl | rfl
            · cases hm
            · cases hp)
      have hvm : VRs (fun i g => match (bs.map (·.1))[i]? with | some b => σ b g | none => none) (Bor π σ bw) w (AV.renL (bs.map (·.1)).idxOf args') cargs := by
        refine hva.ren (fun b hb g l hl => ?_)
        have hm := r4 b hb
        have : (bs.map (·.1))[(bs.map (·.1)).idxOf b]? = some b := by
          rw [List.getElem?_eq_getElem (List.idxOf_lt_length_iff.2 hm)]
          simp
        simp only [this]
        exact hl
      refine ⟨c1, (c3 _ _ w cargs hRm hvm).mono fun en w' hen => ?_⟩
      obtain ⟨u, σ2, π2, rfl, hvu, hD⟩ := hen
      have hnew : ∀ i, i < h'.length - (bs.map (·.1)).length → h (n + i) = none := by
        intro i hi
        refine hn i ?_
        rw [hδ]
        simpa using hi
      have hsome : ∀ b ∈ bs.map (·.1), ∃ x, h b = some x := by
        intro b hb
        obtain ⟨p, hp, rfl⟩ := List.mem_map.1 hb
        exact ⟨p.2, r2 p hp⟩
      obtain ⟨k1, k2⟩ := back_rel (n := n) R r1 hsome (fun _ _ h => .inl h) hlent (fun _ _ h => h) hone2 (by rw [hbl]; exact c2) hnew hD δ.v
      have hvback : VR (sigBack σ σ2 (bs.map (·.1)) n (h'.length - (bs.map (·.1)).length)) π2 w' (v.ren (backId (bs.map (·.1)) n)) u := hvu.ren (fun b _ g l hl => k1 b g l hl)
      by_cases hq : bw = [] ∨ (v.hasInl = false ∧ h' = [])
      · rw [if_pos hq] at hδ
        rcases hq with hbw | ⟨hni, rfl⟩
        · subst hbw
          rw [hδ]
          rw [hδ] at k2
          exact ⟨u, _, _, rfl, hvback, k2⟩
        · -- nothing of what was lent is in the answer
          have hids : bs = [] := by
            simp only [List.length_nil, Nat.le_zero] at c2
            exact List.eq_nil_of_length_eq_zero c2
          subst hids
          rw [hδ]
          simp only [List.map_nil, List.zip_nil_left, List.nil_append, List.length_nil, List.drop_nil]
          have hσ2 : ∀ b g l, σ2 b g ≠ some l := by
            intro b g l hl
            have := hD.rel.non b rfl g
            rw [hl] at this
            cases this
          have hold : ∀ B, B < w.heap.size → w'.heap[B]? = w.heap[B]? := fun B hB => hD.frm.same B hB (fun i g l hl => by simp at hl)
          have E : Ext σ π w σ π w' := ⟨fun _ _ _ h => h, fun _ _ h => h, fun B o hp => cell_of_heap (hold B (R.prot _ _ hp)), fun b g l C e fr hl hC => ⟨C, (hold _ (R.lt _ _ _ hl)).trans hC, rfl⟩⟩
          have hfin : Done σ π w σ π w' h := ⟨E, ⟨hD.frm.size, hD.frm.os, hD.frm.tape, hD.frm.output, fun B hB _ => hold B hB, fun b g l hl => .inr ⟨b, g, l, hl, rfl⟩, fun _ _ h => .inl h⟩,
            ⟨fun b x hx => (R.blk b x hx).mono E (fun _ => rfl) (fun g l hl => hold _ (R.lt _ _ _ hl)) (fun _ _ _ _ h => h), R.non, R.inj, fun b g l hl => Nat.lt_of_lt_of_le (R.lt _ _ _ hl) hD.frm.size, fun B o hp => Nat.lt_of_lt_of_le (R.prot _ _ hp) hD.frm.size⟩⟩
          refine ⟨u, σ, π, rfl, ?_, by rw [updF_none]; exact hfin⟩
          have := (hasInl_prot (π' := π) v u hni hvu).ren (σ' := σ) (ρ := backId [] n) (fun b _ g l hl => absurd hl (hσ2 b g l))
          exact this
      · rw [if_neg hq] at hδ
        rw [hδ]
        rw [hδ] at k2
        exact ⟨u, _, _, rfl, hvback, k2⟩

end
end Go.Ws
