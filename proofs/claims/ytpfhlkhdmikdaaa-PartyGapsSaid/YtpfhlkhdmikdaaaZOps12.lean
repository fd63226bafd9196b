/-
  Operators, conversions, elements and fields of values, lengths: what the abstract machine makes of them is the model's.
  Conditions: none.
-/
import Derived.Test.YtpfhlkhdmikdaaaZOps11
import Derived.Laws.StructEq
import Derived.Laws.BytesArg
namespace Go.Ws
set_option linter.unusedVariables false
set_option linter.unusedSimpArgs false

section
variable {P : Program} {σ : Sig} {π : Prot} {w : World} {h : Nat → Option Blk} {n : Nat} {δ : Delta} {L : List Nat}

theorem vrs_extract {c : List AV} {d : Array Value} (hv : VRs σ π w c d) (o k : Nat) : VRs σ π w ((c.drop o).take k) (d.extract o (o + k)) := by
  refine ⟨by simp [hv.1]; omega, fun i v u hi hu => ?_⟩
  simp only [List.getElem?_take, List.getElem?_drop] at hi
  split at hi
  · rw [Array.getElem?_extract] at hu
    split at hu
    · exact hv.2 (o + i) v u hi (by rw [Nat.add_comm]; simpa [Nat.add_comm] using hu)
    · cases hu
  · cases hi

theorem run_part {t : Nat} {i : TI} (hi : tiOf P t = some i) {c : List AV} {d : Array Value} (hv : VRs σ π w c d) (o : Nat) {v : AV}
    (e : (if i.isAgg then some (AV.agg ((c.drop o).take i.sz)) else c[o]?) = some v) : ∃ u, (part t d o).run P w = .ok u w ∧ VR σ π w v u := by
  obtain ⟨dd, inf, h1, h2, rfl⟩ := ti_spec hi
  unfold part
  simp only [Sem.run_bind, ti_agg h1, Result.andThen_ok]
  split at e
  · rename_i ha
    have ha' : aggB dd = true := ha
    cases e
    refine ⟨.agg (d.extract o (o + inf.size)), ?_, ?_⟩
    · simp only [ha', if_true, Sem.run_bind, ti_size h2, Result.andThen_ok, Sem.run_pure]
    · exact .agg _ _ (vrs_extract hv o inf.size).1 (vrs_extract hv o inf.size).2
  · rename_i ha
    have ha' : aggB dd = false := by cases hh : aggB dd with | false => rfl | true => exact absurd hh ha
    obtain ⟨u, hu, hvu⟩ := hv.at_ e
    refine ⟨u, ?_, hvu⟩
    simp only [ha', Bool.false_eq_true, if_false, hu, Sem.run_pure]

theorem op_index (R : Rel σ π w h) (t : Nat) (x ix : AV) (xu iu : Value) (hx : VR σ π w x xu) (hix : VR σ π w ix iu) (e : (aIndex (tiOf P) t x ix).run h = some (δ, L)) :
    OpDone P (do pure (.value (← Instr.index t xu iu))) σ π w h n δ := by
  unfold aIndex at e
  split at e
  · rename_i sz bts z cmp s kk q hst
    obtain ⟨d, inf, h1, h2, he⟩ := ti_spec hst
    simp only [TI.mk.injEq] at he
    obtain rfl := tk_str he.1.symm
    cases hx
    cases hix
    split at e
    · rename_i hq
      split at e
      · rename_i b hb
        have hδ := am_val e; subst hδ
        exact opdone_pure R (u := .int .u8 b.toNat) (by simp [Instr.index, asIntOf, run_underlying h1, hq, hb]) (.int _ _)
      · exact (am_fail e).elim
    · exact (am_fail e).elim
  · rename_i len el sz bts z cmp l kk q hst
    obtain ⟨d, inf, h1, h2, he⟩ := ti_spec hst
    simp only [TI.mk.injEq] at he
    obtain rfl := tk_array he.1.symm
    cases hix
    cases hx with
    | agg _ dd hl hv =>
      split at e
      · rename_i ei hei
        split at e
        · rename_i hq
          obtain ⟨v, hv', e4⟩ := am_of e
          have hδ := am_val e4; subst hδ
          obtain ⟨u, hu, hvu⟩ := run_part (P := P) hei ⟨hl, hv⟩ (q.toNat * ei.sz) hv'
          obtain ⟨de, infe, e1, e2, rfl⟩ := ti_spec hei
          exact opdone_pure R (by simp [Instr.index, asIntOf, run_underlying h1, hq.1, hq.2, ti_size e2, hu]) hvu
        · exact (am_fail e).elim
      · exact (am_fail e).elim
  · exact (am_fail e).elim

theorem op_field (R : Rel σ π w h) (t : Nat) (x : AV) (f : Nat) (xu : Value) (hx : VR σ π w x xu) (e : (aField (tiOf P) t x f).run h = some (δ, L)) :
    OpDone P (do pure (.value (← Instr.field t xu f))) σ π w h n δ := by
  unfold aField at e
  split at e
  · rename_i fs sz bts z cmp l hi
    obtain ⟨d, inf, h1, h2, he⟩ := ti_spec hi
    simp only [TI.mk.injEq] at he
    obtain ⟨hk, _⟩ := he
    obtain ⟨f', rfl, rfl⟩ := tk_struct hk.symm
    cases hx with
    | agg _ dd hl hv =>
      split at e
      · rename_i off ft hf
        simp only [List.getElem?_map, Option.map_eq_some_iff, Prod.mk.injEq, Array.getElem?_toList] at hf
        obtain ⟨fd, hfd, rfl, rfl⟩ := hf
        split at e
        · rename_i fi hfi
          obtain ⟨v, hv', e4⟩ := am_of e
          have hδ := am_val e4; subst hδ
          obtain ⟨u, hu, hvu⟩ := run_part (P := P) hfi ⟨hl, hv⟩ fd.offset hv'
          exact opdone_pure R (by simp [Instr.field, run_underlying h1, hfd, asAgg, hu]) hvu
        · exact (am_fail e).elim
      · exact (am_fail e).elim
  · exact (am_fail e).elim

theorem op_len (R : Rel σ π w h) (t ty : Nat) (x : AV) (xu : Value) (hx : VR σ π w x xu) (e : (aLen (tiOf P) t x).run h = some (δ, L)) :
    OpDone P (do pure (.value (← Builtin.len_ #[t] ty #[xu]))) σ π w h n δ := by
  unfold aLen at e
  split at e
  · rename_i sz bts z cmp hst
    obtain ⟨d, inf, h1, h2, he⟩ := ti_spec hst
    simp only [TI.mk.injEq] at he
    obtain rfl := tk_str he.1.symm
    split at e
    · have hδ := am_val e; subst hδ
      cases hx
      exact opdone_pure R (u := .int .i64 _) (by simp [Builtin.len_, run_underlying h1, goInt]) (.int _ _)
    · exact (am_fail e).elim
  · rename_i el sz bts z cmp hst
    obtain ⟨d, inf, h1, h2, he⟩ := ti_spec hst
    simp only [TI.mk.injEq] at he
    obtain rfl := tk_slice he.1.symm
    have key : ∀ s, lenOf x = some s → (∀ s', x ≠ .str s') → δ = ⟨.int .i64 s, [], []⟩ → OpDone P (do pure (.value (← Builtin.len_ #[t] ty #[xu]))) σ π w h n δ := by
      intro s hs hns hδ
      subst hδ
      obtain ⟨a, s', c, hsu, hle, hlen⟩ := slice_of hx ⟨⟨s, hs⟩, hns⟩
      rw [hs] at hlen
      cases hlen
      subst hsu
      exact opdone_pure R (u := .int .i64 _) (by simp [Builtin.len_, run_underlying h1, goInt]) (.int _ _)
    split at e
    · exact key 0 rfl (fun s' hh => by cases hh) (am_val e)
    · exact key 0 rfl (fun s' hh => by cases hh) (am_val e)
    · exact key _ rfl (fun s' hh => by cases hh) (am_val e)
    · exact key _ rfl (fun s' hh => by cases hh) (am_val e)
    · exact (am_fail e).elim
  · rename_i kt el sz bts z cmp hst
    obtain ⟨d, inf, h1, h2, he⟩ := ti_spec hst
    simp only [TI.mk.injEq] at he
    obtain rfl := tk_map he.1.symm
    split at e
    · have hδ := am_val e; subst hδ
      cases hx
      exact opdone_pure R (u := .int .i64 _) (by simp [Builtin.len_, run_underlying h1, goInt]) (.int _ _)
    · rename_i b
      obtain ⟨y, L', hy, e5, _⟩ := am_rd e
      split at e5
      · rename_i es cl
        have hδ := am_val e5; subst hδ
        cases hx with
        | mp _ l hl =>
          obtain ⟨l', C, q1, q2, q3, q4, q5⟩ := R.blk b _ hy
          rw [hl] at q1
          cases q1
          refine opdone_pure R (u := .int .i64 C.size) (by simp [Builtin.len_, run_underlying h1, goInt, getObj, Sem.run, q2]) (by rw [q3]; exact .int _ _)
      · exact (am_fail e5).elim
    · exact (am_fail e).elim
  · rename_i len el sz bts z cmp hst
    obtain ⟨d, inf, h1, h2, he⟩ := ti_spec hst
    simp only [TI.mk.injEq] at he
    obtain rfl := tk_array he.1.symm
    have hδ := am_val e; subst hδ
    exact opdone_pure R (u := .int .i64 _) (by simp [Builtin.len_, run_underlying h1, goInt]) (.int _ _)
  · exact (am_fail e).elim

end
end Go.Ws
