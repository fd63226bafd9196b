/-
  Single operations of the abstract machine are the model's: loads and stores.
  Conditions: none.
-/
import Derived.Test.YtpfhlkhdmikdaaaZOps1
namespace Go.Ws
set_option linter.unusedVariables false
set_option linter.unusedSimpArgs false

section
variable {P : Program} {σ : Sig} {π : Prot} {w : World} {h : Nat → Option Blk} {n : Nat} {δ : Delta} {L : List Nat}

/-- k cells from row r, place j on: they read at cell r * sz + j. -/
theorem cellsAt_reads {sz : Nat} {rows : List (List AV)} {r j k : Nat} {l : List AV} (hf : ∀ row ∈ rows, row.length = sz) (e : cellsAt sz rows r j k = some l) :
    l.length = k ∧ ∀ (q : Nat) v, l[q]? = some v → ∃ r' j' row, rows[r']? = some row ∧ row[j']? = some v ∧ r' * sz + j' = r * sz + j + q ∧ (j + k ≤ sz → r' = r) := by
  unfold cellsAt at e
  split at e
  · rename_i hle
    split at e
    · rename_i row hrow
      cases e
      have hl : row.length = sz := hf row (List.mem_of_getElem? hrow)
      refine ⟨by simp; omega, fun q v hq => ⟨r, j + q, row, hrow, ?_, by omega, fun _ => rfl⟩⟩
      simp only [List.getElem?_take, List.getElem?_drop] at hq
      split at hq
      · exact hq
      · cases hq
    · cases e
  · rename_i hnle
    split at e
    · rename_i hc
      obtain ⟨rfl, rfl, hle⟩ := hc
      cases e
      have key : ∀ (rs : List (List AV)), (∀ row ∈ rs, row.length = 1) → rs.flatten.length = rs.length ∧ ∀ (q : Nat) v, rs.flatten[q]? = some v → ∃ row, rs[q]? = some row ∧ row[0]? = some v := by
        intro rs
        induction rs with
        | nil => intro _; exact ⟨rfl, fun q v hq => by simp at hq⟩
        | cons row rs ih =>
          intro hrs
          obtain ⟨h1, h2⟩ := ih (fun x hx => hrs x (List.mem_cons_of_mem _ hx))
          obtain ⟨x, rfl⟩ := List.length_eq_one_iff.1 (hrs row (List.mem_cons_self ..))
          refine ⟨by simpa using h1, fun q v hq => ?_⟩
          cases q with
          | zero => simp at hq; subst hq; exact ⟨[x], rfl, rfl⟩
          | succ q => simp at hq; simpa using h2 q v hq
      have hsub : ∀ row ∈ (rows.drop r).take k, row.length = 1 := fun row hr => hf row (List.mem_of_mem_drop (List.mem_of_mem_take hr))
      obtain ⟨h1, h2⟩ := key _ hsub
      refine ⟨by rw [h1]; simp; omega, fun q v hq => ?_⟩
      obtain ⟨row, hr, hv⟩ := h2 q v hq
      simp only [List.getElem?_take, List.getElem?_drop] at hr
      split at hr
      · exact ⟨r + q, 0, row, hr, hv, by omega, fun hh => absurd hh hnle⟩
      · cases hr
    · cases e

/-- From the abstract cells to the values there. -/
theorem vals_of {l : List AV} {f : Nat → Option Value} (hf : ∀ (q : Nat) v, l[q]? = some v → ∃ u, f q = some u ∧ VR σ π w v u) :
    ∃ cs : List Value, cs.length = l.length ∧ (∀ (q : Nat) u, cs[q]? = some u → f q = some u) ∧ VRs σ π w l cs.toArray := by
  refine ⟨(List.range l.length).map fun q => (f q).getD undef, by simp, fun q u hq => ?_, by simp, fun q v u hv hu => ?_⟩
  · simp only [List.getElem?_map] at hq
    rcases Nat.lt_or_ge q l.length with hlt | hge
    · simp only [List.getElem?_range hlt, Option.map_some, Option.some.injEq] at hq
      obtain ⟨u', hu', _⟩ := hf q _ (List.getElem?_eq_getElem hlt)
      rw [hu'] at hq ⊢
      simpa using hq
    · simp [List.getElem?_eq_none (show (List.range l.length).length ≤ q by simpa using hge)] at hq
  · have hlt := (List.getElem?_eq_some_iff.1 hv).1
    obtain ⟨u', hu', hv'⟩ := hf q v hv
    simp [List.getElem?_range hlt, hu'] at hu
    subst hu
    exact hv'

theorem op_load (R : Rel σ π w h) (t : Nat) (p : AV) (u : Value) (hp : VR σ π w p u) (e : (aLoad (tiOf P) t p).run h = some (δ, L)) :
    OpDone P (do pure (.value (← Instr.loadAt t u))) σ π w h n δ := by
  unfold aLoad at e
  split at e
  · exact (am_fail e).elim
  · rename_i i hi
    obtain ⟨d, inf, h1, h2, rfl⟩ := ti_spec hi
    split at e
    · rename_i b o
      obtain ⟨x, L', hx, e, _⟩ := am_rd e
      split at e
      · rename_i c
        split at e
        · rename_i hle
          obtain ⟨v, hv, e⟩ := am_of e
          have hδ := am_val e
          subst hδ
          cases hp with
          | hp _ _ l hl =>
            obtain ⟨l', C, ty, q1, q2, q3, q4, q5⟩ := R.blk b _ hx
            rw [hl] at q1
            cases q1
            obtain ⟨cs, hcl, hcs, hvr⟩ := vrs_slice q4 hle
            obtain ⟨u, hr, hvu⟩ := run_loadVar (P := P) (w := w) h1 h2 l.blk o cs hcl (fun j v hj => by have := hcs j v hj; simp [World.cell?, q2]; simpa using this) hvr hv
            exact opdone_pure R (by simp [Instr.loadAt, Instr.sureAddr, hr]) hvu
        · exact (am_fail e).elim
      · exact (am_fail e).elim
    · rename_i sz b g r j
      obtain ⟨x, L', hx, e, _⟩ := am_rd e
      split at e
      · rename_i s rows gen wgen ro
        split at e
        · rename_i hc
          obtain ⟨rfl, hg1, hg2, hin⟩ := hc
          obtain ⟨v, hv, e⟩ := am_of e
          obtain ⟨l, hl, hv⟩ := Option.bind_eq_some_iff.1 hv
          have hδ := am_val e
          subst hδ
          cases hp with
          | ep _ _ _ _ _ lc hlc hi =>
            obtain ⟨q1, q2, q3, q4, q5, q6⟩ := R.blk b _ hx
            obtain ⟨l', C, ty, a1, a2, a3, a4, a5⟩ := q6 g hg1 hg2
            rw [hlc] at a1
            cases a1
            obtain ⟨k1, k2⟩ := cellsAt_reads (fun row hr => (q3 row hr).1) hl
            obtain ⟨cs, c1, c2, c3⟩ := vals_of (σ := σ) (π := π) (w := w) (l := l) (f := fun q => w.cell? ⟨lc.blk, r * s + j + q, none⟩) (fun q v hq => by
              obtain ⟨r', j', row, b1, b2, b3, b4⟩ := k2 q v hq
              obtain rfl := b4 hin
              obtain ⟨u, hu, hv⟩ := a5 r' row hi b1 j' v b2
              exact ⟨u, by simp [World.cell?, a3, ← b3, hu], hv⟩)
            obtain ⟨u, hr, hvu⟩ := run_loadVar (P := P) (w := w) h1 h2 lc.blk (r * s + j) cs (by rw [c1, k1]) c2 c3 hv
            exact opdone_pure R (by simp [Instr.loadAt, Instr.sureAddr, hr]) hvu
        · exact (am_fail e).elim
      · exact (am_fail e).elim
    · rename_i sz rows r j
      obtain ⟨v, hv, e⟩ := am_of e
      obtain ⟨l, hl, hv⟩ := Option.bind_eq_some_iff.1 hv
      have hδ := am_val e
      subst hδ
      cases hp with
      | ip _ _ _ _ B o u hf hi hc hvv =>
        obtain ⟨k1, k2⟩ := cellsAt_reads (fun row hr => (hf row hr).1) hl
        obtain ⟨cs, c1, c2, c3⟩ := vals_of (σ := σ) (π := π) (w := w) (l := l) (f := fun q => w.cell? ⟨B, o + r * sz + j + q, none⟩) (fun q v hq => by
          obtain ⟨r', j', row, b1, b2, b3, b4⟩ := k2 q v hq
          refine ⟨u r' j', ?_, hvv r' j' row v b1 b2⟩
          have := (hc r' j' row v b1 b2).1
          rwa [show o + r' * sz + j' = o + r * sz + j + q by omega] at this)
        obtain ⟨u, hr, hvu⟩ := run_loadVar (P := P) (w := w) h1 h2 B (o + r * sz + j) cs (by rw [c1, k1]) c2 c3 hv
        exact opdone_pure R (by simp [Instr.loadAt, Instr.sureAddr, hr]) hvu
    · exact (am_fail e).elim

/-! stores -/
theorem storeVar_run {t : Nat} {inf : TypeInfo} (h2 : P.info? t = some inf) (g o : Nat) (ty : TypeId) (u : Value) (C : Array Value) (hl : u.cells.size = inf.size) (hg : w.heap[g]? = some (.cells C ty (0, 0)))
    (hfit : o + inf.size ≤ C.size) (h1 : ∀ v ∈ u.cells.toList, v.oneCell' = true) :
    (storeVar t ⟨g, o, none⟩ u).run P w = .ok () (w.setRow g (C.toList.take o ++ u.cells.toList ++ C.toList.drop (o + inf.size)).toArray) := by
  have hst := run_storeCells_at P g o ty u.cells.toList 0 C w hg (by simp; omega) h1
  simp only [Nat.add_zero] at hst
  simp only [storeVar, Sem.run_bind, ti_size h2, Result.andThen_ok, hl, ne_eq, not_true_eq_false, if_false, hst]
  rw [Array.length_toList, hl]

theorem ext_setRow (R : Rel σ π w h) (g : Nat) (C D : Array Value) (ty : TypeId) (hg : w.heap[g]? = some (.cells C ty (0, 0))) (hs : D.size = C.size) (hp : ∀ o, π g o → ∀ q, D[o]? = some q ↔ C[o]? = some q) : Ext σ π w σ π (w.setRow g D) := by
  refine ⟨fun _ _ _ h => h, fun _ _ h => h, fun B o hB => ?_, fun b g' l C' e fr h1 h2 => ?_⟩
  · by_cases hne : B = g
    · subst hne
      rw [cell_setRow_same w B o C D ty (0, 0) hg]
      simp only [World.cell?, hg]
      apply Option.ext
      intro q
      simpa using hp o hB q
    · exact cell_setRow_other w g D _ hne
  · by_cases hne : l.blk = g
    · rw [hne] at h2 ⊢
      rw [hg] at h2
      cases h2
      exact ⟨D, setRow_heap w g C D _ _ hg, hs⟩
    · exact ⟨C', (setRow_other w g _ D hne).trans h2, rfl⟩

theorem setAt_get {l : List AV} {o : Nat} {v : List AV} (h : o + v.length ≤ l.length) (i : Nat) : (setAt l o v)[i]? = if o ≤ i ∧ i < o + v.length then v[i - o]? else l[i]? := by
  unfold setAt
  by_cases h1 : i < o
  · rw [List.append_assoc, List.getElem?_append_left (by simp; omega), if_neg (by omega), List.getElem?_take, if_pos h1]
  · by_cases h2 : i < o + v.length
    · rw [if_pos ⟨by omega, h2⟩, List.append_assoc, List.getElem?_append_right (by simp; omega), List.getElem?_append_left (by simp; omega)]
      congr 1
      simp
      omega
    · rw [if_neg (by omega), List.getElem?_append_right (by simp; omega)]
      simp only [List.length_append, List.length_take, List.getElem?_drop]
      congr 1
      omega

theorem setArr_get {C : Array Value} {o : Nat} {v : List Value} (h : o + v.length ≤ C.size) (i : Nat) : (C.toList.take o ++ v ++ C.toList.drop (o + v.length)).toArray[i]? = if o ≤ i ∧ i < o + v.length then v[i - o]? else C[i]? := by
  have hl : C.toList.length = C.size := Array.length_toList
  simp only [List.getElem?_toArray]
  by_cases h1 : i < o
  · rw [List.append_assoc, List.getElem?_append_left (by simp; omega), if_neg (by omega), List.getElem?_take, if_pos h1]
    simp
  · by_cases h2 : i < o + v.length
    · rw [if_pos ⟨by omega, h2⟩, List.append_assoc, List.getElem?_append_right (by simp; omega), List.getElem?_append_left (by simp; omega)]
      congr 1
      simp
      omega
    · rw [if_neg (by omega), List.getElem?_append_right (by simp; omega)]
      simp only [List.length_append, List.length_take, List.getElem?_drop, Array.getElem?_toList]
      congr 1
      omega

theorem one_cells {v : AV} {u : Value} (hv : VR σ π w v u) (h1 : v.cells.all AV.one = true) : ∀ x ∈ u.cells.toList, x.oneCell' = true := by
  intro x hx
  obtain ⟨i, hi⟩ := List.mem_iff_getElem?.1 hx
  have hc := hv.cells
  have hlt : i < v.cells.length := by
    have := (List.getElem?_eq_some_iff.1 hi).1
    rw [Array.length_toList, hc.1] at this
    exact this
  exact (hc.2 i _ x (List.getElem?_eq_getElem hlt) (by simpa using hi)).one (List.all_eq_true.1 h1 _ (List.getElem_mem hlt))

end
end Go.Ws
