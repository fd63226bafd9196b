/-
  clear, make, literals, cuts, lengths: what the abstract machine makes of them is the model's.
  Conditions: none.
-/
import Derived.Test.YtpfhlkhdmikdaaaZOps8
namespace Go.Ws
set_option linter.unusedVariables false
set_option linter.unusedSimpArgs false

section
variable {P : Program} {σ : Sig} {π : Prot} {w : World} {h : Nat → Option Blk} {n : Nat} {δ : Delta} {L : List Nat}

theorem zero_facts {e : Nat} {inf : TypeInfo} {zc : AV} (hz : inf.zero.bind ofVal = some zc) : ∃ zv, inf.zero = some zv ∧ ∀ (σ : Sig) (π : Prot) (w : World), VR σ π w zc zv := by
  simp only [Option.bind_eq_some_iff] at hz
  obtain ⟨zv, hzv, hzo⟩ := hz
  exact ⟨zv, hzv, fun σ π w => ofVal_vr hzo σ π w⟩

theorem op_clear (R : Rel σ π w h) (t ty : Nat) (x : AV) (xu : Value) (hx : VR σ π w x xu) (e : (aClear (tiOf P) t x).run h = some (δ, L)) :
    OpDone P (do pure (.value (← Builtin.clear_ #[t] ty #[xu]))) σ π w h n δ := by
  unfold aClear at e
  split at e
  · rename_i el sz bts z cmp hst
    obtain ⟨dd, infs, h1, h2, he⟩ := ti_spec hst
    simp only [TI.mk.injEq] at he
    obtain rfl := tk_slice he.1.symm
    split at e
    · rename_i ei hei
      obtain ⟨de, inf, e1, e2, rfl⟩ := ti_spec hei
      split at e
      · rename_i zc hzc
        obtain ⟨zv, hzv, hzvr⟩ := zero_facts (e := el) hzc
        split at e
        · have hδ := am_val e; subst hδ; cases hx
          exact opdone_pure R (u := undef) (by simp [Builtin.clear_, run_underlying h1, undef]) (undef_vr _ _ _)
        · have hδ := am_val e; subst hδ; cases hx
          exact opdone_pure R (u := undef) (by simp [Builtin.clear_, run_underlying h1, undef]) (undef_vr _ _ _)
        · rename_i sz' rows
          split at e
          · rename_i h0
            have hδ := am_val e; subst hδ
            obtain ⟨a, s', c, hsu, hle, hl⟩ := slice_of hx ⟨⟨_, rfl⟩, fun s hh => by cases hh⟩
            simp only [lenOf, Option.some.injEq] at hl
            subst hsu
            rw [h0] at hl
            subst hl
            exact opdone_pure R (u := undef) (by cases a <;> simp [Builtin.clear_, run_underlying h1, undef]) (undef_vr _ _ _)
          · exact (am_fail e).elim
        · rename_i sz' b g i k full
          split at e
          · rename_i h0
            have hδ := am_val e; subst hδ
            obtain ⟨a, s', c, hsu, hle, hl⟩ := slice_of hx ⟨⟨_, rfl⟩, fun s hh => by cases hh⟩
            simp only [lenOf, Option.some.injEq] at hl
            subst hsu
            rw [h0] at hl
            subst hl
            exact opdone_pure R (u := undef) (by cases a <;> simp [Builtin.clear_, run_underlying h1, undef]) (undef_vr _ _ _)
          · rename_i hk0
            obtain ⟨y, L', hy, e5, _⟩ := am_rd e
            clear e
            split at e5
            · rename_i s' rows gen wgen ro
              split at e5
              · rename_i hcd
                obtain ⟨hsz1, hs1, hg1, hro1, hle, hzl, hzf⟩ := hcd
                have hδ := am_ret e5
                subst hδ
                subst hs1 hg1
                have hro2 : ro = false := by simpa using hro1
                subst hro2
                simp only at hsz1
                subst hsz1
                have hq := (R.blk b _ hy).1
                have hvz := hzvr σ π w
                have hvr : VR σ π w (.agg zc.cells) (.agg zv.cells) := .agg _ _ hvz.cells.1 hvz.cells.2
                have hyr := rowsIn_zero (k := k) hvr hzl hq hzf
                obtain ⟨l, C, te, c1, c2, c3, c4⟩ := arr_write (n := n) R hy hyr i (by simpa using hle) undefA
                rw [List.length_replicate] at c4
                cases hx with
                | ref _ _ _ _ _ _ a c l' hl hin hn ha hff C' e' hC hs' =>
                  rw [c1] at hl
                  cases hl
                  obtain rfl := ha (by omega)
                  have hst := run_storeCells_at P l.blk (i * inf.size) te _ 0 C w c2 (by simpa using c3) hyr.2.2.2
                  simp only [Nat.add_zero] at hst
                  refine ⟨_, undef, _, σ, π, run_v (w' := w.setRow l.blk (C.toList.take (i * inf.size) ++ (Builtin.zeroCells zv.cells k).toList ++ C.toList.drop (i * inf.size + (Builtin.zeroCells zv.cells k).toList.length)).toArray) ?_, .inl rfl, undef_vr _ _ _, c4⟩
                  obtain ⟨k', rfl⟩ : ∃ k', k = k' + 1 := ⟨k - 1, by omega⟩
                  simp only [Builtin.clear_, Sem.run_bind, run_underlying h1, Result.andThen_ok, zeroValue, typeInfo, run_program, e2, hzv, hst, Sem.run_pure, undef, show (#[t] : Array TypeId)[0]? = some t from rfl, show (#[Value.slice (some ⟨l.blk, i * inf.size, none⟩) (k' + 1) c] : Array Value)[0]? = some (Value.slice (some ⟨l.blk, i * inf.size, none⟩) (k' + 1) c) from rfl]
              · exact (am_fail e5).elim
            · exact (am_fail e5).elim
        · exact (am_fail e).elim
      · exact (am_fail e).elim
    · exact (am_fail e).elim
  · exact (am_fail e).elim

/-- A new array: the slice of all its rows. -/
theorem op_newRows (R : Rel σ π w h) (hn : h n = none) {sz : Nat} (hsz : 0 < sz) {ys : List (List AV)} {news : List Value} (hy : RowsIn σ π w sz ys news) (e : TypeId) (hy0 : 0 < ys.length) :
    ∃ σ', VR σ' π (w.alloc (.cells news.toArray e)) (.ref sz n 0 0 ys.length true) (.slice (some ⟨w.heap.size, 0, none⟩) ys.length ys.length) ∧ Done σ π w σ' π (w.alloc (.cells news.toArray e)) (updF h n ⟨.ref sz n 0 0 ys.length true, [], [.arr sz ys 0 0 false]⟩) := by
  have := op_newArr R hn hsz hy (w.alloc (.cells news.toArray e)) #[] e ys.length hy0 (fun B hB => alloc_old w _ hB) (alloc_size ..) (by rw [Array.append_empty]; exact alloc_new ..) rfl rfl rfl (Nat.le_refl _) (by simp [hy.1])
  exact this

theorem op_makeSlice (R : Rel σ π w h) (hn : δ.nw ≠ [] → h n = none) (t : Nat) (l c : AV) (lu cu : Value) (hl : VR σ π w l lu) (hc : VR σ π w c cu) (e : (aMakeSlice (tiOf P) n t l c).run h = some (δ, L)) :
    OpDone P (do pure (.value (← Instr.makeSlice t lu cu))) σ π w h n δ := by
  unfold aMakeSlice at e
  split at e
  · rename_i el sz bts z cmp k1 q1 k2 q2 hst
    obtain ⟨dd, infs, h1, h2, he⟩ := ti_spec hst
    simp only [TI.mk.injEq] at he
    obtain rfl := tk_slice he.1.symm
    cases hl
    cases hc
    split at e
    · rename_i ei hei
      obtain ⟨de, inf, e1, e2, rfl⟩ := ti_spec hei
      split at e
      · rename_i zc hzc
        obtain ⟨zv, hzv, hzvr⟩ := zero_facts (e := el) hzc
        split at e
        · rename_i hcd
          obtain ⟨rfl, hq0, hq1, hbt, hzl, hsz, hzf⟩ := hcd
          simp only at hq1 hbt hsz hzl
          have hqb : q1 ≤ 140737488355328 := Int.le_trans (by have := Int.mul_le_mul_of_nonneg_left (show (1 : Int) ≤ inf.bytes by omega) hq0; omega) hq1
          have hw := wrap_small hq0 hqb
          have hvz := hzvr σ π w
          have hvr : VR σ π w (.agg zc.cells) (.agg zv.cells) := .agg _ _ hvz.cells.1 hvz.cells.2
          have hzs : zv.cells.size = inf.size := hvz.cells.1.trans hzl
          have hcomm : (inf.bytes : Int) * q1 = q1 * inf.bytes := Int.mul_comm _ _
          have htoo : ¬ ((inf.bytes : Int) * q1 > 2 ^ 48) := by rw [hcomm]; omega
          have hneg : ¬ q1 < 0 := by omega
          split at e
          · rename_i h0
            subst h0
            have hδ := am_val e; subst hδ
            refine ⟨_, .slice (some ⟨w.heap.size, 0, none⟩) 0 0, w.alloc (.cells #[] el), σ, π, run_v ?_, .inl rfl, .emps _, ?_⟩
            · simp [Instr.makeSlice, run_underlying h1, asInt, asIntOf, typeInfo, e2, hw, sizeOf, newRow, Array.range_zero']
            · rw [updF_none]
              refine ⟨Ext.of_old (fun _ _ _ h => h) R.prot R.lt (fun B hB => alloc_old w _ hB), ⟨by rw [alloc_size]; exact Nat.le_succ _, rfl, rfl, rfl, fun B hB _ => alloc_old w _ hB, fun b g l hl => .inr ⟨b, g, l, hl, rfl⟩, fun _ _ h => .inl h⟩, ?_⟩
              have E : Ext σ π w σ π (w.alloc (.cells #[] el)) := Ext.of_old (fun _ _ _ h => h) R.prot R.lt (fun B hB => alloc_old w _ hB)
              exact ⟨fun b x hx => (R.blk b x hx).mono E (fun _ => rfl) (fun g l hl => alloc_old w _ (R.lt _ _ _ hl)) (fun _ _ _ _ h => h), R.non, R.inj, fun b g l hl => by rw [alloc_size]; exact Nat.lt_succ_of_lt (R.lt _ _ _ hl), fun B o hp => by rw [alloc_size]; exact Nat.lt_succ_of_lt (R.prot _ _ hp)⟩
          · rename_i h0
            have hδ := am_ret e; subst hδ
            have hyr := rowsIn_zero (σ := σ) (π := π) (w := w) (k := q1.toNat) hvr hzl hsz hzf
            obtain ⟨σ', hv', hd'⟩ := op_newRows R (hn (by simp)) hsz hyr el (by simp; omega)
            rw [List.length_replicate] at hv' hd'
            refine ⟨_, _, _, σ', π, run_v ?_, .inl rfl, hv', hd'⟩
            have hnz : ¬ (q1.toNat * inf.size = 0) := by
              intro hh
              rcases Nat.mul_eq_zero.1 hh with h3 | h3 <;> omega
            have hnz2 : ¬ (q1 ≤ 0 ∨ inf.size = 0) := by omega
            have hzc2 : Builtin.zeroCells zv.cells q1.toNat = (Array.range (q1.toNat * inf.size)).map (zv.cells[· % zv.cells.size]!) := by
              simp only [Builtin.zeroCells, hzs]
            have hd1 : ¬ ((281474976710656 : Int) < (inf.bytes : Int) * q1) := by omega
            simp [Instr.makeSlice, run_underlying h1, asInt, asIntOf, typeInfo, zeroValue, hzv, e2, hw, sizeOf, newRow, hneg, hnz, hnz2, hd1, ← hzc2]
        · exact (am_fail e).elim
      · exact (am_fail e).elim
    · exact (am_fail e).elim
  · exact (am_fail e).elim

end
end Go.Ws
