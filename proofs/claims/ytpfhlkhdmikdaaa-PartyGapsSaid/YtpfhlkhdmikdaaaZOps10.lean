/-
  Literals of structs, arrays and slices; cuts; lengths; elements of values: what the abstract machine makes of them is the model's.
  Conditions: none.
-/
import Derived.Test.YtpfhlkhdmikdaaaZOps9
namespace Go.Ws
set_option linter.unusedVariables false
set_option linter.unusedSimpArgs false

theorem foldl_sets (off : Nat) : ∀ (l : List Value) (k : Nat) (cells : Array Value), off + k + l.length ≤ cells.size →
    ((l.zipIdx k).foldl (fun cs (c : Value × Nat) => cs.setIfInBounds (off + c.2) c.1) cells).size = cells.size ∧
    ∀ i, ((l.zipIdx k).foldl (fun cs (c : Value × Nat) => cs.setIfInBounds (off + c.2) c.1) cells)[i]? = if off + k ≤ i ∧ i < off + k + l.length then l[i - (off + k)]? else cells[i]?
  | [], k, cells, _ => by
    refine ⟨rfl, fun i => ?_⟩
    simp only [List.zipIdx_nil, List.foldl_nil, List.length_nil, Nat.add_zero]
    rw [if_neg (by omega)]
  | v :: l, k, cells, h => by
    simp only [List.length_cons] at h
    obtain ⟨h1, h2⟩ := foldl_sets off l (k + 1) (cells.setIfInBounds (off + k) v) (by simp; omega)
    simp only [List.zipIdx_cons, List.foldl_cons]
    refine ⟨by rw [h1]; simp, fun i => ?_⟩
    rw [h2]
    simp only [List.length_cons]
    by_cases e1 : i = off + k
    · subst e1
      have hlt : off + k < cells.size := by omega
      rw [if_neg (by omega), if_pos (by omega)]
      simp [hlt]
    · by_cases e2 : off + (k + 1) ≤ i ∧ i < off + (k + 1) + l.length
      · rw [if_pos e2, if_pos (by omega)]
        rw [show i - (off + k) = (i - (off + (k + 1))) + 1 by omega]
        simp
      · rw [if_neg e2, if_neg (by omega)]
        rw [Array.getElem?_setIfInBounds_ne (by omega)]

/-- One part laid. -/
theorem fill_one (off : Nat) (vs cells : Array Value) (h : off + vs.size ≤ cells.size) :
    (vs.zipIdx.foldl (fun cs (c, j) => cs.setIfInBounds (off + j) c) cells).size = cells.size ∧
    ∀ i, (vs.zipIdx.foldl (fun cs (c, j) => cs.setIfInBounds (off + j) c) cells)[i]? = if off ≤ i ∧ i < off + vs.size then vs[i - off]? else cells[i]? := by
  obtain ⟨h1, h2⟩ := foldl_sets off vs.toList 0 cells (by simpa using h)
  have e : (vs.zipIdx.foldl (fun cs (c, j) => cs.setIfInBounds (off + j) c) cells) = ((vs.toList.zipIdx 0).foldl (fun cs (c : Value × Nat) => cs.setIfInBounds (off + c.2) c.1) cells) := by
    rw [← Array.foldl_toList]
    simp
  rw [e]
  refine ⟨h1, fun i => ?_⟩
  rw [h2]
  simp

section
variable {P : Program} {σ : Sig} {π : Prot} {w : World} {h : Nat → Option Blk} {n : Nat} {δ : Delta} {L : List Nat}

/-- Parts, and their values. -/
inductive PartsR (σ : Sig) (π : Prot) (w : World) : List (Nat × AV) → List (Nat × Value) → Prop
  | nil : PartsR σ π w [] []
  | cons {a : Nat × AV} {b : Nat × Value} {ps : List (Nat × AV)} {pu : List (Nat × Value)} (hab : a.1 = b.1 ∧ VR σ π w a.2 b.2) (h : PartsR σ π w ps pu) : PartsR σ π w (a :: ps) (b :: pu)

theorem fill_vr {pl : Nat → Option (Nat × Nat)} {ps : List (Nat × AV)} {pu : List (Nat × Value)} (hp : PartsR σ π w ps pu) : ∀ {c c' : List AV} {d : Array Value}, VRs σ π w c d → aFill pl c ps = some c' → ∃ d', Instr.fill pl d pu = some d' ∧ VRs σ π w c' d' := by
  induction hp with
  | nil => intro c c' d hv e; cases e; exact ⟨d, rfl, hv⟩
  | @cons a b ps pu hab _ ih =>
    intro c c' d hv e
    obtain ⟨i, v⟩ := a
    obtain ⟨i', u⟩ := b
    obtain ⟨rfl, hvu⟩ := hab
    simp only [aFill] at e
    simp only [Instr.fill]
    split at e
    · cases e
    · rename_i off size hpl
      split at e
      · rename_i hc
        obtain ⟨hc1, hc2⟩ := hc
        have hus : u.cells.size = size := hvu.cells.1.trans hc1
        have hfit : off + u.cells.size ≤ d.size := by rw [hus, hv.1]; exact hc2
        obtain ⟨f1, f2⟩ := fill_one off u.cells d hfit
        have hcond : ¬ ((u.cells.size ≠ size || decide (off + u.cells.size > d.size)) = true) := by simp [hus]; omega
        simp only [hpl, hcond, if_false]
        refine ih ⟨by rw [f1, hv.1]; simp [setAt]; omega, fun j x y hx hy => ?_⟩ e
        rw [setAt_get (by omega)] at hx
        rw [f2] at hy
        rw [hus, ← hc1] at hy
        split at hx
        · rename_i hj
          rw [if_pos hj] at hy
          exact hvu.cells.2 _ x y hx hy
        · rename_i hj
          rw [if_neg hj] at hy
          exact hv.2 j x y hx hy
      · cases e

theorem parts_rows {sz : Nat} {ps : List (Nat × AV)} {pu : List (Nat × Value)} (hp : PartsR σ π w ps pu) : ∀ {rows rows' : List (List AV)} {d : Array Value}, RowsIn σ π w sz rows d.toList → aParts sz ps rows = some rows' → ∃ d', Instr.fill (fun i => some (i * sz, sz)) d pu = some d' ∧ RowsIn σ π w sz rows' d'.toList ∧ rows'.length = rows.length := by
  induction hp with
  | nil => intro rows rows' d hv e; cases e; exact ⟨d, rfl, hv, rfl⟩
  | @cons a b ps pu hab _ ih =>
    intro rows rows' d hv e
    obtain ⟨i, v⟩ := a
    obtain ⟨i', u⟩ := b
    obtain ⟨rfl, hvu⟩ := hab
    simp only [aParts] at e
    simp only [Instr.fill]
    split at e
    · rename_i hc
      obtain ⟨hc1, hc2, hc3⟩ := hc
      have hus : u.cells.size = sz := hvu.cells.1.trans hc1
      have hds : d.size = rows.length * sz := by have := hv.1; rwa [Array.length_toList] at this
      have hle : i * sz + sz ≤ rows.length * sz := by rw [← Nat.succ_mul]; exact Nat.mul_le_mul_right _ hc2
      obtain ⟨f1, f2⟩ := fill_one (i * sz) u.cells d (by omega)
      have hcond : ¬ ((u.cells.size ≠ sz || decide (i * sz + u.cells.size > d.size)) = true) := by simp [hus]; omega
      simp only [hcond, if_false]
      have hone : ∀ x ∈ u.cells.toList, x.oneCell' = true := one_cells hvu (by unfold flatB at hc3; simp only [Bool.and_eq_true] at hc3; exact hc3.1)
      suffices hin : RowsIn σ π w sz (rows.set i v.cells) (u.cells.zipIdx.foldl (fun cs (c, j) => cs.setIfInBounds (i * sz + j) c) d).toList by
        obtain ⟨d', g1, g2, g3⟩ := ih hin e
        exact ⟨d', g1, g2, by rw [g3]; simp⟩
      refine ⟨by rw [Array.length_toList, f1, hds]; simp, fun row hr => ?_, fun r row hr j x hj => ?_, fun x hx => ?_⟩
      · rcases List.mem_or_eq_of_mem_set hr with hm | rfl
        · exact hv.2.1 row hm
        · exact ⟨hc1, flat_of hc3⟩
      · have hjs : j < sz := by
          have hjl := (List.getElem?_eq_some_iff.1 hj).1
          rcases List.mem_or_eq_of_mem_set (List.mem_of_getElem? hr) with hm | rfl
          · rw [(hv.2.1 row hm).1] at hjl; exact hjl
          · omega
        have hmul : ∀ a b, a < b → a * sz + sz ≤ b * sz := fun a b hab => by rw [← Nat.succ_mul]; exact Nat.mul_le_mul_right _ hab
        by_cases hri : r = i
        · subst hri
          rw [List.getElem?_set_self hc2] at hr
          cases hr
          obtain ⟨y, hy, hvy⟩ := hvu.cells.at_ hj
          refine ⟨y, ?_, hvy⟩
          rw [List.getElem?_toArray, Array.getElem?_toList, f2, if_pos (by omega), show r * sz + j - r * sz = j by omega]
          exact hy
        · rw [List.getElem?_set_ne (by omega)] at hr
          obtain ⟨y, hy, hvy⟩ := hv.2.2.1 r row hr j x hj
          refine ⟨y, ?_, hvy⟩
          rw [List.getElem?_toArray, Array.getElem?_toList] at hy ⊢
          rw [f2, if_neg ?_]
          · exact hy
          · rcases Nat.lt_or_gt_of_ne hri with hlt | hgt
            · have := hmul r i hlt; omega
            · have := hmul i r hgt; omega
      · obtain ⟨q, hq⟩ := List.mem_iff_getElem?.1 hx
        rw [Array.getElem?_toList, f2] at hq
        split at hq
        · exact hone x (List.mem_of_getElem? (by rw [Array.getElem?_toList]; exact hq))
        · exact hv.2.2.2 x (List.mem_of_getElem? (by rw [Array.getElem?_toList]; exact hq))
    · cases e

/-- A world with one more block that nobody reads. -/
theorem done_alloc (R : Rel σ π w h) (o : Obj) : Done σ π w σ π (w.alloc o) h := by
  have E : Ext σ π w σ π (w.alloc o) := Ext.of_old (fun _ _ _ h => h) R.prot R.lt (fun B hB => alloc_old w _ hB)
  exact ⟨E, ⟨by rw [alloc_size]; exact Nat.le_succ _, rfl, rfl, rfl, fun B hB _ => alloc_old w _ hB, fun b g l hl => .inr ⟨b, g, l, hl, rfl⟩, fun _ _ h => .inl h⟩,
    ⟨fun b x hx => (R.blk b x hx).mono E (fun _ => rfl) (fun g l hl => alloc_old w _ (R.lt _ _ _ hl)) (fun _ _ _ _ h => h), R.non, R.inj, fun b g l hl => by rw [alloc_size]; exact Nat.lt_succ_of_lt (R.lt _ _ _ hl), fun B o hp => by rw [alloc_size]; exact Nat.lt_succ_of_lt (R.prot _ _ hp)⟩⟩

theorem op_buildSlice (R : Rel σ π w h) (hn : δ.nw ≠ [] → h n = none) (t len : Nat) (ps : List (Nat × AV)) (pu : Array (Nat × Value)) (hp : PartsR σ π w ps pu.toList) (e : (aBuildSlice (tiOf P) n t len ps).run h = some (δ, L)) :
    OpDone P (do pure (.value (← Instr.buildSlice t len pu))) σ π w h n δ := by
  unfold aBuildSlice at e
  split at e
  · rename_i el sz bts z cmp hst
    obtain ⟨dd, infs, h1, h2, he⟩ := ti_spec hst
    simp only [TI.mk.injEq] at he
    obtain rfl := tk_slice he.1.symm
    split at e
    · rename_i ei hei
      obtain ⟨de, inf, e1, e2, rfl⟩ := ti_spec hei
      split at e
      · rename_i zc hzc
        obtain ⟨zv, hzv, hzvr⟩ := zero_facts (e := el) hzc
        split at e
        · rename_i hcd
          obtain ⟨hzl, hsz, hbig, hzf⟩ := hcd
          simp only at hzl hsz hbig
          have hvz := hzvr σ π w
          have hvr : VR σ π w (.agg zc.cells) (.agg zv.cells) := .agg _ _ hvz.cells.1 hvz.cells.2
          have hzs : zv.cells.size = inf.size := hvz.cells.1.trans hzl
          have hyr := rowsIn_zero (σ := σ) (π := π) (w := w) (k := len) hvr hzl hsz hzf
          split at e
          · rename_i rows hrows
            obtain ⟨d', g1, g2, g3⟩ := parts_rows hp hyr hrows
            rw [List.length_replicate] at g3
            have hzc2 : Builtin.zeroCells zv.cells len = (Array.range (len * inf.size)).map (zv.cells[· % zv.cells.size]!) := by
              simp only [Builtin.zeroCells, hzs]
            have hbig2 : ¬ (len * inf.size > 2 ^ 24) := by omega
            have hrun : (Instr.buildSlice t len pu).run P w = .ok (.slice (some ⟨w.heap.size, 0, none⟩) len len) (w.alloc (.cells d' el)) := by
              by_cases h0 : len = 0
              · subst h0
                have hz0 : Builtin.zeroCells zv.cells 0 = #[] := by simp [Builtin.zeroCells, Array.range_zero']
                rw [hz0] at g1
                simp [Instr.buildSlice, run_underlying h1, ti_size e2, g1, newRow, Array.range_zero']
              · have hnz : ¬ (len * inf.size = 0) := by
                  intro hh
                  rcases Nat.mul_eq_zero.1 hh with h3 | h3 <;> omega
                have hnz2 : ¬ (len = 0 ∨ inf.size = 0) := by omega
                have hb3 : ¬ (16777216 < len * inf.size) := by omega
                rw [hzc2] at g1
                simp [Instr.buildSlice, run_underlying h1, ti_size e2, zeroValue, typeInfo, e2, hzv, hnz, hnz2, hb3, g1, newRow]
            split at e
            · rename_i h0
              have hδ := am_val e; subst hδ
              subst h0
              exact ⟨_, _, _, σ, π, run_v hrun, .inl rfl, .emps _, by rw [updF_none]; exact done_alloc R _⟩
            · rename_i h0
              have hδ := am_ret e; subst hδ
              obtain ⟨σ', hv', hd'⟩ := op_newRows R (hn (by simp)) hsz g2 el (by omega)
              rw [g3] at hv' hd'
              exact ⟨_, _, _, σ', π, run_v (by rw [hrun]), .inl rfl, by simpa using hv', by simpa using hd'⟩
          · exact (am_fail e).elim
        · exact (am_fail e).elim
      · exact (am_fail e).elim
    · exact (am_fail e).elim
  · exact (am_fail e).elim

end
end Go.Ws
