/-
  Rows that are read whole, and what append, copy, clear, make and a cut do with them.
  Conditions: none.
-/
import Derived.Test.YtpfhlkhdmikdaaaZOps3
namespace Go.Ws
set_option linter.unusedVariables false
set_option linter.unusedSimpArgs false

section
variable {P : Program} {σ : Sig} {π : Prot} {w : World} {h : Nat → Option Blk} {n : Nat} {δ : Delta} {L : List Nat}

/-- Rows, out of the cells that f tells. -/
theorem news_of {sz : Nat} {rows : List (List AV)} (hf : FlatRows sz rows) {f : Nat → Option Value}
    (hc : ∀ (r j : Nat) row v, rows[r]? = some row → row[j]? = some v → ∃ u, f (r * sz + j) = some u ∧ VR σ π w v u) :
    ∃ news : List Value, news.length = rows.length * sz ∧ (∀ (q : Nat) u, news[q]? = some u → f q = some u) ∧ (∀ r row, rows[r]? = some row → RowAt σ π w row news.toArray (r * sz)) ∧ (∀ x ∈ news, x.oneCell' = true) := by
  have hat : ∀ q, q < rows.length * sz → ∃ row v u, rows[q / sz]? = some row ∧ row[q % sz]? = some v ∧ f q = some u ∧ VR σ π w v u := by
    intro q hq
    have hsz : 0 < sz := by
      rcases Nat.eq_zero_or_pos sz with h0 | h0
      · subst h0; simp at hq
      · exact h0
    have hr : q / sz < rows.length := (Nat.div_lt_iff_lt_mul hsz).2 hq
    have hrow : rows[q / sz]? = some rows[q / sz] := List.getElem?_eq_getElem hr
    have hlen := (hf _ (List.mem_of_getElem? hrow)).1
    have hj : q % sz < (rows[q / sz]).length := by rw [hlen]; exact Nat.mod_lt _ hsz
    obtain ⟨u, hu, hv⟩ := hc (q / sz) (q % sz) _ _ hrow (List.getElem?_eq_getElem hj)
    rw [show q / sz * sz + q % sz = q by rw [Nat.mul_comm]; exact Nat.div_add_mod q sz] at hu
    exact ⟨_, _, u, hrow, List.getElem?_eq_getElem hj, hu, hv⟩
  have hget : ∀ q, q < rows.length * sz → ((List.range (rows.length * sz)).map fun q => (f q).getD undef)[q]? = f q := by
    intro q hq
    obtain ⟨_, _, u, _, _, hu, _⟩ := hat q hq
    simp [List.getElem?_range hq, hu]
  refine ⟨(List.range (rows.length * sz)).map fun q => (f q).getD undef, by simp, fun q u hq => ?_, fun r row hr j v hj => ?_, fun x hx => ?_⟩
  · rcases Nat.lt_or_ge q (rows.length * sz) with hlt | hge
    · rw [hget q hlt] at hq; exact hq
    · simp [List.getElem?_eq_none (show (List.range (rows.length * sz)).length ≤ q by simpa using hge)] at hq
  · obtain ⟨u, hu, hv⟩ := hc r j row v hr hj
    refine ⟨u, ?_, hv⟩
    have hlen := (hf row (List.mem_of_getElem? hr)).1
    have hj' := (List.getElem?_eq_some_iff.1 hj).1
    have hr' := (List.getElem?_eq_some_iff.1 hr).1
    have hle : (r + 1) * sz ≤ rows.length * sz := Nat.mul_le_mul_right _ hr'
    rw [Nat.succ_mul] at hle
    rw [List.getElem?_toArray, hget _ (by omega)]
    exact hu
  · simp only [List.mem_map, List.mem_range] at hx
    obtain ⟨q, hq, rfl⟩ := hx
    obtain ⟨row, v, u, hr, hj, hu, hv⟩ := hat q hq
    rw [hu]
    exact hv.one ((hf row (List.mem_of_getElem? hr)).2 v (List.mem_of_getElem? hj)).1

/-- A value whose rows are ys: as append and copy read it, in any world that has the cells. -/
def Src (P : Program) (σ : Sig) (π : Prot) (w : World) (sz : Nat) (ys : List (List AV)) (u : Value) : Prop :=
  FlatRows sz ys ∧ ∃ news : List Value, news.length = ys.length * sz ∧ (∀ r row, ys[r]? = some row → RowAt σ π w row news.toArray (r * sz)) ∧ (∀ x ∈ news, x.oneCell' = true) ∧
    ∀ w1 : World, (∀ B o v, w.cell? ⟨B, o, none⟩ = some v → w1.cell? ⟨B, o, none⟩ = some v) →
      (Builtin.lenOf u).run P w1 = .ok ys.length w1 ∧ ∀ m, m ≤ ys.length → (Builtin.firstCells sz m u).run P w1 = .ok (news.take (m * sz)).toArray w1

theorem flat_take {sz : Nat} {rows : List (List AV)} (hf : FlatRows sz rows) (i m : Nat) : FlatRows sz ((rows.drop i).take m) :=
  fun row hr => hf row (List.mem_of_mem_drop (List.mem_of_mem_take hr))

theorem src_cells {sz : Nat} {ys : List (List AV)} (hf : FlatRows sz ys) (B o c : Nat)
    (hc : ∀ (r j : Nat) row v, ys[r]? = some row → row[j]? = some v → ∃ u, w.cell? ⟨B, o + (r * sz + j), none⟩ = some u ∧ VR σ π w v u) (a : Addr) (ha : ys ≠ [] → a = ⟨B, o, none⟩) :
    Src P σ π w sz ys (.slice (some a) ys.length c) := by
  obtain ⟨news, h1, h2, h3, h4⟩ := news_of (σ := σ) (π := π) (w := w) hf (f := fun q => w.cell? ⟨B, o + q, none⟩) hc
  refine ⟨hf, news, h1, h3, h4, fun w1 hw => ⟨rfl, fun m hm => ?_⟩⟩
  by_cases hy : ys = []
  · subst hy
    obtain rfl : m = 0 := by simpa using hm
    obtain rfl : news = [] := List.eq_nil_of_length_eq_zero (by simpa using h1)
    simp [Builtin.firstCells, loadCells, loadCellsFrom]
  · obtain rfl := ha hy
    refine run_firstCells_some (P := P) w1 sz m ⟨B, o, none⟩ _ c (news.take (m * sz)) ?_ (fun j v hj => ?_)
    · simp only [List.length_take, h1]
      exact Nat.min_eq_left (Nat.mul_le_mul_right _ hm)
    · rw [add_none]
      refine hw _ _ _ (h2 j v ?_)
      simp only [List.getElem?_take] at hj
      split at hj
      · exact hj
      · cases hj

theorem src_of (R : Rel σ π w h) {sz : Nat} {x : AV} {u : Value} {ys : List (List AV)} (hx : VR σ π w x u) (e : (rowsOf sz x).run h = some (ys, L)) : Src P σ π w sz ys u := by
  have hnil : ∀ (a : Option Addr) (c : Nat), Src P σ π w sz [] (.slice a 0 c) := by
    intro a c
    refine ⟨fun row hr => (nomatch hr), [], (by simp), fun r row hr => (by simp at hr), fun x hx => (nomatch hx), fun w1 _ => ⟨rfl, fun m hm => ?_⟩⟩
    obtain rfl : m = 0 := by simpa using hm
    cases a <;> simp [Builtin.firstCells, loadCells, loadCellsFrom]
  unfold rowsOf at e
  split at e
  · have := am_ret e; subst this; cases hx; exact hnil _ _
  · have := am_ret e; subst this; cases hx; exact hnil _ _
  · rename_i s rows
    split at e
    · rename_i hs
      subst hs
      have := am_ret e
      subst this
      cases hx with
      | inl0 => exact hnil _ _
      | inl _ _ B o c u hf hl hc hv => exact src_cells hf B o c (fun r j row v hr hj => ⟨u r j, by have := (hc r j row v hr hj).1; rwa [Nat.add_assoc] at this, hv r j row v hr hj⟩) _ (fun _ => rfl)
    · exact (am_fail e).elim
  · rename_i s b g i m full
    split at e
    · rename_i hs
      subst hs
      obtain ⟨y, L', hy, e2, _⟩ := am_rd e
      clear e
      split at e2
      · rename_i s' rows gen wgen ro
        split at e2
        · rename_i hcd
          obtain ⟨rfl, hg1, hg2, hle⟩ := hcd
          have := am_ret e2
          subst this
          cases hx with
          | ref _ _ _ _ _ _ a c l hl hi hn ha hff C ty hC hsz =>
            obtain ⟨q1, q2, q3, q4, q5, q6⟩ := R.blk b _ hy
            obtain ⟨l', C', ty', a1, a2, a3, a4, a5⟩ := q6 g hg1 hg2
            rw [hl] at a1
            cases a1
            have hlen : ((rows.drop i).take m).length = m := by simp; omega
            have hs := src_cells (P := P) (σ := σ) (π := π) (w := w) (flat_take q3 i m) l.blk (i * s') c (fun r j row v hr hj => by
              simp only [List.getElem?_take, List.getElem?_drop] at hr
              split at hr
              · rename_i hrm
                obtain ⟨u, hu, hv⟩ := a5 (i + r) row (by omega) hr j v hj
                refine ⟨u, ?_, hv⟩
                rw [Nat.add_mul] at hu
                simp [World.cell?, a3, ← Nat.add_assoc, hu]
              · cases hr) a (fun hne => ha (by
                rcases Nat.eq_zero_or_pos c with h0 | h0
                · exfalso; apply hne; apply List.eq_nil_of_length_eq_zero; rw [hlen]; omega
                · exact h0))
            rwa [hlen] at hs
        · exact (am_fail e2).elim
      · exact (am_fail e2).elim
    · exact (am_fail e).elim
  · rename_i s
    split at e
    · rename_i hs
      subst hs
      have := am_ret e
      subst this
      cases hx
      have hl : (s.data.toList.map fun b => [AV.int .u8 b.toNat]).length = s.size := by simp
      refine ⟨?_, s.data.toList.map fun b => .int .u8 b.toNat, by simp, ?_, ?_, fun w1 _ => ⟨by simp [Builtin.lenOf], fun m hm => ?_⟩⟩
      · intro row hr
        simp only [List.mem_map] at hr
        obtain ⟨b, _, rfl⟩ := hr
        refine ⟨rfl, fun v hv => ?_⟩
        simp at hv
        subst hv
        exact ⟨rfl, rfl⟩
      · intro r row hr j v hj
        simp only [List.getElem?_map, Option.map_eq_some_iff] at hr
        obtain ⟨b, hb, rfl⟩ := hr
        cases j with
        | zero =>
          simp at hj
          subst hj
          refine ⟨.int .u8 b.toNat, ?_, .int _ _⟩
          simp only [Nat.mul_one, Nat.add_zero, List.getElem?_toArray, List.getElem?_map, hb, Option.map_some]
        | succ j => simp at hj
      · intro x hx
        simp only [List.mem_map] at hx
        obtain ⟨b, _, rfl⟩ := hx
        rfl
      · simp only [Builtin.firstCells, Sem.run_pure, Nat.mul_one]
        congr 1
        apply Array.ext'
        have hle : m ≤ s.size := by rwa [hl] at hm
        have : (s.extract 0 m).data.toList = s.data.toList.take m := by
          simp [ByteArray.data_extract]
        simp [this, List.map_take]
    · exact (am_fail e).elim
  · exact (am_fail e).elim

end
end Go.Ws
