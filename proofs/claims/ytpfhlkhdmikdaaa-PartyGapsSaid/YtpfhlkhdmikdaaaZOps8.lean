/-
  copy, clear, make, literals, cuts, lengths: what the abstract machine makes of them is the model's.
  Conditions: none.
-/
import Derived.Test.YtpfhlkhdmikdaaaZOps7
namespace Go.Ws
set_option linter.unusedVariables false
set_option linter.unusedSimpArgs false

section
variable {P : Program} {σ : Sig} {π : Prot} {w : World} {h : Nat → Option Blk} {n : Nat} {δ : Delta} {L : List Nat}

theorem arr_write (R : Rel σ π w h) {b gen wgen sz : Nat} {rows : List (List AV)} (hb : h b = some (.arr sz rows gen wgen false)) {zs : List (List AV)} {news : List Value} (hy : RowsIn σ π w sz zs news) (i : Nat) (hle : i + zs.length ≤ rows.length) (v : AV) :
    ∃ l C te, σ b gen = some l ∧ w.heap[l.blk]? = some (.cells C te (0, 0)) ∧ i * sz + news.length ≤ C.size ∧
      Done σ π w σ π (w.setRow l.blk (C.toList.take (i * sz) ++ news ++ C.toList.drop (i * sz + news.length)).toArray) (updF h n ⟨v, [(b, .arr sz (rows.take i ++ zs ++ rows.drop (i + zs.length)) gen gen false)], []⟩) := by
  obtain ⟨q1, q2, q3, q4, ⟨l, c1, c2, c3, c4⟩, q6⟩ := R.blk b _ hb
  obtain ⟨l', C, te, a1, a2, a3, a4, a5⟩ := q6 gen q2 (Nat.le_refl _)
  rw [c1] at a1
  cases a1
  have hnl := hy.1
  have hfit : i * sz + news.length ≤ C.size := by
    rw [hnl, ← Nat.add_mul]
    exact Nat.le_trans (Nat.mul_le_mul_right _ (by omega)) a4
  have hD := setArr_get hfit
  have hDs : (C.toList.take (i * sz) ++ news ++ C.toList.drop (i * sz + news.length)).toArray.size = C.size := by
    have := hfit
    simp only [List.size_toArray, List.length_append, List.length_take, List.length_drop, Array.length_toList] at this ⊢
    omega
  refine ⟨l, C, te, c1, a3, hfit, ?_⟩
  generalize (C.toList.take (i * sz) ++ news ++ C.toList.drop (i * sz + news.length)).toArray = D at hD hDs
  refine change_row R hb v l gen c1 C D te a3 hDs (fun o ho => absurd ho (c3 rfl o)) (fun E hw => ?_)
  have hlen' : (rows.take i ++ zs ++ rows.drop (i + zs.length)).length = rows.length := by simp; omega
  have hflat' : FlatRows sz (rows.take i ++ zs ++ rows.drop (i + zs.length)) := by
    intro row hr
    rcases List.mem_append.1 hr with hr | hr
    · rcases List.mem_append.1 hr with hr | hr
      · exact q3 row (List.mem_of_mem_take hr)
      · exact hy.2.1 row hr
    · exact q3 row (List.mem_of_mem_drop hr)
  refine ⟨q1, Nat.le_refl _, hflat', q4, ⟨l, c1, by rw [hlen']; exact c2, fun _ => c3 rfl, by rw [hlen']; exact c4⟩, fun g hg1 hg2 => ?_⟩
  obtain rfl : g = gen := by omega
  refine ⟨l, D, te, c1, by rw [hlen']; exact a2, hw, by omega, fun r row hr1 hr2 j v hj => ?_⟩
  have hjl : j < sz := by
    have := (List.getElem?_eq_some_iff.1 hj).1
    rw [(hflat' row (List.mem_of_getElem? hr2)).1] at this
    exact this
  have hsz2 : ∀ a b, a < b → a * sz + sz ≤ b * sz := fun a b hab => by rw [← Nat.succ_mul]; exact Nat.mul_le_mul_right _ hab
  by_cases h1 : r < i
  · rw [List.append_assoc, List.getElem?_append_left (by simp; omega), List.getElem?_take, if_pos h1] at hr2
    obtain ⟨u, hu, hvv⟩ := a5 r row hr1 hr2 j v hj
    refine ⟨u, ?_, hvv.mono E⟩
    have := hsz2 r i h1
    rw [hD, if_neg (by omega)]
    exact hu
  · by_cases h2 : r < i + zs.length
    · rw [List.append_assoc, List.getElem?_append_right (by simp; omega), List.getElem?_append_left (by simp; omega)] at hr2
      have hr3 : zs[r - i]? = some row := by
        rw [← hr2]
        congr 1
        simp
        omega
      obtain ⟨u, hu, hvv⟩ := hy.2.2.1 (r - i) row hr3 j v hj
      refine ⟨u, ?_, hvv.mono E⟩
      have := hsz2 (r - i) zs.length (by omega)
      have hsplit : r * sz = i * sz + (r - i) * sz := by rw [← Nat.add_mul]; congr 1; omega
      rw [hD, if_pos (by omega), show r * sz + j - i * sz = (r - i) * sz + j by omega]
      simpa using hu
    · rw [List.getElem?_append_right (by simp; omega)] at hr2
      have hr3 : rows[r]? = some row := by
        rw [← hr2]
        simp only [List.length_append, List.length_take, List.getElem?_drop]
        congr 1
        omega
      obtain ⟨u, hu, hvv⟩ := a5 r row hr1 hr3 j v hj
      refine ⟨u, ?_, hvv.mono E⟩
      have hle2 : (i + zs.length) * sz ≤ r * sz := Nat.mul_le_mul_right _ (by omega)
      rw [Nat.add_mul] at hle2
      rw [hD, if_neg (by omega)]
      exact hu

theorem rowsIn_take {sz m : Nat} {ys : List (List AV)} {news : List Value} (hy : RowsIn σ π w sz ys news) (hm : m ≤ ys.length) : RowsIn σ π w sz (ys.take m) (news.take (m * sz)) := by
  have hle : m * sz ≤ ys.length * sz := Nat.mul_le_mul_right _ hm
  refine ⟨by simp [hy.1, hle, hm], fun row hr => hy.2.1 row (List.mem_of_mem_take hr), fun r row hr j v hj => ?_, fun x hx => hy.2.2.2 x (List.mem_of_mem_take hx)⟩
  simp only [List.getElem?_take] at hr
  split at hr
  · rename_i hrm
    obtain ⟨u, hu, hv⟩ := hy.2.2.1 r row hr j v hj
    refine ⟨u, ?_, hv⟩
    have hjl : j < sz := by
      have := (List.getElem?_eq_some_iff.1 hj).1
      rw [(hy.2.1 row (List.mem_of_getElem? hr)).1] at this
      exact this
    have : r * sz + sz ≤ m * sz := by rw [← Nat.succ_mul]; exact Nat.mul_le_mul_right _ hrm
    rw [List.getElem?_toArray] at hu ⊢
    rw [List.getElem?_take, if_pos (by omega)]
    exact hu
  · cases hr

theorem op_copy (R : Rel σ π w h) (dt ty : Nat) (ts : Array TypeId) (d s : AV) (du su : Value) (hd : VR σ π w d du) (hs : VR σ π w s su) (hts : ts[0]? = some dt) (e : (aCopy (tiOf P) dt d s).run h = some (δ, L)) :
    OpDone P (do pure (.value (← Builtin.copy_ ts ty #[du, su]))) σ π w h n δ := by
  unfold aCopy at e
  split at e
  · rename_i el sz bts z cmp hst
    obtain ⟨dd, infs, h1, h2, he⟩ := ti_spec hst
    simp only [TI.mk.injEq] at he
    obtain rfl := tk_slice he.1.symm
    split at e
    · rename_i ei hei
      obtain ⟨de, inf, e1, e2, rfl⟩ := ti_spec hei
      obtain ⟨ys, L1, L2, hys, e4, _⟩ := am_bind e
      clear e
      obtain ⟨hf, news, n1, n2, n3, n4⟩ := src_of (P := P) R hs hys
      obtain ⟨m1, m2⟩ := n4 w (same_refl w)
      split at e4
      · exact (am_fail e4).elim
      · rename_i dn hdn
        split at e4
        · exact (am_fail e4).elim
        · rename_i hnstr
          obtain ⟨a, dl, c, hdu, hdc, hdl⟩ := slice_of hd ⟨⟨dn, hdn⟩, fun s' hh => by subst hh; simp [isStr] at hnstr⟩
          rw [hdn] at hdl
          cases hdl
          subst hdu
          unfold aCopyN at e4
          split at e4
          · rename_i hm0
            have hδ := am_val e4
            subst hδ
            refine opdone_pure R (u := .int .i64 0) ?_ (.int _ _)
            have hfc := m2 0 (Nat.zero_le _)
            have hmin : Nat.min ys.length dn = 0 := hm0
            cases a <;> simp [Builtin.copy_, hts, run_underlying h1, m1, hmin, ti_size e2, hfc, storeCells, goInt]
          · rename_i hm0
            split at e4
            · rename_i sz' b g i k full
              obtain ⟨y, L', hy, e5, _⟩ := am_rd e4
              clear e4
              split at e5
              · rename_i s' rows gen wgen ro
                split at e5
                · rename_i hcd
                  obtain ⟨hsz1, hs1, hg1, hro1, hle⟩ := hcd
                  have hδ := am_ret e5
                  subst hδ
                  subst hs1 hg1
                  have hro2 : ro = false := by simpa using hro1
                  subst hro2
                  simp only at hsz1
                  subst hsz1
                  simp only [lenOf, Option.some.injEq] at hdn
                  subst hdn
                  have hyr : RowsIn σ π w inf.size (ys.take (min ys.length k)) (news.take (min ys.length k * inf.size)) := rowsIn_take ⟨n1, hf, n2, n3⟩ (Nat.min_le_left _ _)
                  have hyl : (ys.take (min ys.length k)).length = min ys.length k := by simp
                  obtain ⟨l, C, te, c1, c2, c3, c4⟩ := arr_write (n := n) R hy hyr i (by rw [hyl]; exact hle) (.int .i64 (min ys.length k : Nat))
                  rw [hyl] at c4
                  cases hd with
                  | ref _ _ _ _ _ _ a c l' hl hin hn ha hff C' e' hC hs' =>
                    rw [c1] at hl
                    cases hl
                    obtain rfl := ha (by omega)
                    have hst := run_storeCells_at P l.blk (i * inf.size) te (news.take (min ys.length k * inf.size)) 0 C w c2 (by simpa using c3) hyr.2.2.2
                    simp only [Nat.add_zero] at hst
                    have hfc := m2 (min ys.length k) (Nat.min_le_left _ _)
                    have hmin : Nat.min ys.length k = min ys.length k := rfl
                    refine ⟨_, .int .i64 (min ys.length k : Nat), _, σ, π, run_v (w' := w.setRow l.blk (C.toList.take (i * inf.size) ++ news.take (min ys.length k * inf.size) ++ C.toList.drop (i * inf.size + (news.take (min ys.length k * inf.size)).length)).toArray) ?_, .inl rfl, .int _ _, c4⟩
                    simp only [Builtin.copy_, hts, Sem.run_bind, run_underlying h1, Result.andThen_ok, m1, hmin, ti_size e2, hfc, hst, goInt, Sem.run_pure, show (#[Value.slice (some ⟨l.blk, i * inf.size, none⟩) k c, su] : Array Value)[0]? = some (Value.slice (some ⟨l.blk, i * inf.size, none⟩) k c) from rfl, show (#[Value.slice (some ⟨l.blk, i * inf.size, none⟩) k c, su] : Array Value)[1]? = some su from rfl]
                · exact (am_fail e5).elim
              · exact (am_fail e5).elim
            · exact (am_fail e4).elim
    · exact (am_fail e).elim
  · exact (am_fail e).elim

end
end Go.Ws
