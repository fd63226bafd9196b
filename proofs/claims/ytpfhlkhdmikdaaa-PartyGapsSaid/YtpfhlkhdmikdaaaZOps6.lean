/-
  append: what the abstract machine makes of it is the model's.
  Conditions: none.
-/
import Derived.Test.YtpfhlkhdmikdaaaZOps5
namespace Go.Ws
set_option linter.unusedVariables false
set_option linter.unusedSimpArgs false

section
variable {P : Program} {σ : Sig} {π : Prot} {w : World} {h : Nat → Option Blk} {n : Nat} {δ : Delta} {L : List Nat}

/-- The cells of rows that stand one behind the other. -/
def RowsIn (σ : Sig) (π : Prot) (w : World) (sz : Nat) (ys : List (List AV)) (news : List Value) : Prop :=
  news.length = ys.length * sz ∧ FlatRows sz ys ∧ (∀ r row, ys[r]? = some row → RowAt σ π w row news.toArray (r * sz)) ∧ (∀ x ∈ news, x.oneCell' = true)

theorem rowsIn_zero {sz k : Nat} {zc : List AV} {z : Value} (hz : VR σ π w (.agg zc) (.agg z.cells)) (hl : zc.length = sz) (hsz : 0 < sz) (hf : flatB zc = true) :
    RowsIn σ π w sz (List.replicate k zc) (Builtin.zeroCells z.cells k).toList := by
  cases hz with
  | agg _ _ hs hv =>
    have hzs : z.cells.size = sz := hs.trans hl
    have hget : ∀ i, i < k * sz → (Builtin.zeroCells z.cells k).toList[i]? = z.cells[i % sz]? := by
      intro i hi
      have hm : i % sz < z.cells.size := by rw [hzs]; exact Nat.mod_lt _ hsz
      simp only [Builtin.zeroCells, hzs, Array.getElem?_toList, Array.getElem?_map]
      rw [Array.getElem?_eq_getElem (by simpa using hi)]
      simp [getElem!_pos z.cells (i % sz) hm]
    refine ⟨by simp [Builtin.zeroCells, hzs], fun row hr => ?_, fun r row hr j v hj => ?_, fun x hx => ?_⟩
    · obtain rfl := List.eq_of_mem_replicate hr
      exact ⟨hl, flat_of hf⟩
    · simp only [List.getElem?_replicate] at hr
      split at hr
      · rename_i hrk
        cases hr
        have hj' := (List.getElem?_eq_some_iff.1 hj).1
        have hle : (r + 1) * sz ≤ k * sz := Nat.mul_le_mul_right _ hrk
        rw [Nat.succ_mul] at hle
        have hmod : (r * sz + j) % sz = j := by rw [Nat.mul_comm, Nat.mul_add_mod]; exact Nat.mod_eq_of_lt (by omega)
        refine ⟨z.cells[j]'(by omega), ?_, hv j v _ hj (by simp)⟩
        rw [List.getElem?_toArray, hget _ (by omega), hmod]
        simp
      · cases hr
    · obtain ⟨i, hi⟩ := List.mem_iff_getElem?.1 hx
      have hlt : i < k * sz := by
        have := (List.getElem?_eq_some_iff.1 hi).1
        simpa [Builtin.zeroCells, hzs] using this
      rw [hget i hlt] at hi
      have hm : i % sz < zc.length := by rw [hl]; exact Nat.mod_lt _ hsz
      exact (hv (i % sz) _ x (List.getElem?_eq_getElem hm) hi).one (flat_of hf _ (List.getElem_mem hm)).1

theorem ys_of (R : Rel σ π w h) {e xt : Nat} {ei xi : TI} (he : tiOf P e = some ei) (hxi : tiOf P xt = some xi) (hsz : 0 < ei.sz) (hbt : 0 < ei.bts) (hzl : (ei.z.map (·.cells.length)) = some ei.sz)
    {x : AV} {u : Value} (hx : VR σ π w x u) {ys : List (List AV)} (hys : (aYs ei xi x).run h = some (ys, L)) :
    ∃ dx inf zv news, P.underlying xt = some dx ∧ P.info? e = some inf ∧ inf.zero = some zv ∧ zv.cells.size = inf.size ∧ ei.sz = inf.size ∧ ei.bts = inf.bytes ∧ RowsIn σ π w inf.size ys news ∧ AppSrc P w inf zv dx u ys.length news := by
  obtain ⟨de, inf, e1, e2, rfl⟩ := ti_spec he
  obtain ⟨dx, infx, x1, x2, rfl⟩ := ti_spec hxi
  obtain ⟨z, hz, hzl⟩ := Option.map_eq_some_iff.1 hzl
  have hz' := hz
  simp only [Option.bind_eq_some_iff] at hz'
  obtain ⟨zv, hzv, hzo⟩ := hz'
  have hvr : VR σ π w (.agg z.cells) (.agg zv.cells) := let c := (ofVal_vr hzo σ π w).cells; .agg _ _ c.1 c.2
  have hzs : zv.cells.size = inf.size := by
    have := (ofVal_vr hzo σ π w).cells.1
    rw [this]
    exact hzl
  unfold aYs at hys
  split at hys
  · rename_i kk kv q hk
    cases hx
    rw [hz] at hys
    simp only at hys
    split at hys
    · rename_i hc
      obtain ⟨hq0, hq1, _, hfl⟩ := hc
      have := am_ret hys
      subst this
      exact ⟨dx, inf, zv, _, x1, e2, hzv, hzs, rfl, rfl, rowsIn_zero (k := q.toNat) hvr hzl hsz hfl, .inr ⟨kk, kv, q, tk_int hk, rfl, hq0, hq1, by simp, by simp⟩⟩
    · exact (am_fail hys).elim
  · exact (am_fail hys).elim
  · exact (am_fail hys).elim
  · rename_i hk1 hk2
    obtain ⟨hf, news, n1, n2, n3, n4⟩ := src_of (P := P) R hx hys
    have hnt : news.take (ys.length * inf.size) = news := List.take_of_length_le (by rw [n1]; exact Nat.le_refl _)
    refine ⟨dx, inf, zv, news, x1, e2, hzv, hzs, rfl, rfl, ⟨n1, hf, n2, n3⟩, .inl ⟨fun kk hd => ?_, fun w1 hw => ?_⟩⟩
    · subst hd
      exact hk1 kk rfl
    · obtain ⟨a1, a2⟩ := n4 w1 hw
      refine ⟨a1, ?_⟩
      have := a2 ys.length (Nat.le_refl _)
      rwa [hnt] at this

theorem RowsIn.mono {σ' : Sig} {π' : Prot} {w' : World} (E : Ext σ π w σ' π' w') {sz : Nat} {ys : List (List AV)} {news : List Value} (k : RowsIn σ π w sz ys news) : RowsIn σ' π' w' sz ys news :=
  ⟨k.1, k.2.1, fun r row hr => (k.2.2.1 r row hr).mono E, k.2.2.2⟩

/-- A new array. -/
theorem op_newArr (R : Rel σ π w h) (hn : h n = none) {sz : Nat} (hsz : 0 < sz) {ys : List (List AV)} {news : List Value} (hy : RowsIn σ π w sz ys news) (w' : World) (rest : Array Value) (e : TypeId) (c : Nat) (hy0 : 0 < ys.length)
    (hw : ∀ B, B < w.heap.size → w'.heap[B]? = w.heap[B]?) (hws : w'.heap.size = w.heap.size + 1) (hnew : w'.heap[w.heap.size]? = some (.cells (news.toArray ++ rest) e (0, 0))) (hos : w'.os = w.os) (htp : w'.tape = w.tape) (hout : w'.output = w.output)
    (hc : ys.length ≤ c) (hcs : c * sz ≤ (news.toArray ++ rest).size) :
    ∃ σ', VR σ' π w' (.ref sz n 0 0 ys.length true) (.slice (some ⟨w.heap.size, 0, none⟩) ys.length c) ∧ Done σ π w σ' π w' (updF h n ⟨.ref sz n 0 0 ys.length true, [], [.arr sz ys 0 0 false]⟩) := by
  have hnon := R.non n hn
  have E : Ext σ π w (σ.set n 0 ⟨w.heap.size, ys.length⟩) π w' := Ext.of_old (fun b g l hl => Sig.set_old (hnon 0) hl) R.prot R.lt hw
  have hp : ∀ o, ¬ π w.heap.size o := fun o ho => Nat.lt_irrefl _ (R.prot _ _ ho)
  refine ⟨σ.set n 0 ⟨w.heap.size, ys.length⟩, ?_, rel_new R hn _ _ ys.length w' _ hw hws hnew hos htp hout ?_⟩
  · exact .ref sz n 0 0 ys.length true ⟨w.heap.size, 0, none⟩ c ⟨w.heap.size, ys.length⟩ (Sig.set_same ..) (by simp) hc (fun _ => by simp) (fun _ => by simpa using hc) _ e hnew (by simpa using hcs)
  · refine ⟨hsz, Nat.le_refl _, hy.2.1, fun g hg => ?_, ⟨⟨w.heap.size, ys.length⟩, Sig.set_same .., rfl, fun _ => hp, fun o _ => hp o⟩, fun g h1 h2 => ?_⟩
    · rw [Sig.set_ne σ _ (by omega)]
      exact hnon g
    · obtain rfl : g = 0 := by omega
      refine ⟨⟨w.heap.size, ys.length⟩, _, e, Sig.set_same .., Nat.le_refl _, hnew, ?_, fun r row hr hrow j v hj => ?_⟩
      · simp only [Array.size_append, List.size_toArray, hy.1]
        omega
      · obtain ⟨u, hu, hv⟩ := hy.2.2.1 r row hrow j v hj
        refine ⟨u, ?_, hv.mono E⟩
        rw [Array.getElem?_append_left (Array.getElem?_eq_some_iff.1 hu).1]
        exact hu

set_option maxHeartbeats 1000000 in
/-- The rows of an array of its own, whose current header is read. -/
theorem app_ref (R : Rel σ π w h) {b gen wgen : Nat} {ro : Bool} {sz : Nat} {rows : List (List AV)} (hb : h b = some (.arr sz rows gen wgen ro)) {K c : Nat} {a : Addr}
    (hv : VR σ π w (.ref sz b gen 0 K true) (.slice (some a) K c)) (hK : K ≤ rows.length)
    {ys : List (List AV)} {news : List Value} (hy : RowsIn σ π w sz ys news) (hy0 : 0 < ys.length) {wg' : Nat} {ro' : Bool}
    (hA : (K = rows.length ∧ wg' = wgen ∧ ro' = ro) ∨ (ro = false ∧ wg' = gen + 1 ∧ ro' = false))
    {st xt e ty : Nat} {inf : TypeInfo} {zv x : Value} {dx : TypeDesc} (ht : P.underlying st = some (.slice e)) (hxt : P.underlying xt = some dx) (hi : P.info? e = some inf) (hz : inf.zero = some zv) (hbt : 0 < inf.bytes) (hzs : zv.cells.size = inf.size) (hsz : sz = inf.size)
    (hs : AppSrc P w inf zv dx x ys.length news) (hbytes : (K + ys.length) * inf.bytes ≤ 140737488355328) :
    ∃ v' w' σ', (Builtin.append_ #[st, xt] ty #[.slice (some a) K c, x]).run P w = .ok v' w' ∧ VR σ' π w' (.ref sz b (gen + 1) 0 (K + ys.length) true) v' ∧
      Done σ π w σ' π w' (updF h n ⟨.ref sz b (gen + 1) 0 (K + ys.length) true, [(b, .arr sz (rows.take K ++ ys ++ rows.drop (K + ys.length)) (gen + 1) wg' ro')], []⟩) := by
  subst hsz
  obtain ⟨q1, q2, q3, q4, ⟨l, c1, c2, c3, c4⟩, q6⟩ := R.blk b _ hb
  obtain ⟨l', C, te, a1, a2, a3, a4, a5⟩ := q6 gen q2 (Nat.le_refl _)
  rw [c1] at a1
  cases a1
  cases hv with
  | ref _ _ _ _ _ _ _ _ lh hl hin hn ha hf C' e' hC hs' =>
    rw [c1] at hl
    cases hl
    rw [a3] at hC
    cases hC
    simp only [Nat.zero_add] at hs' hf
    have hMc : rows.length ≤ c := by rw [← c2]; exact hf trivial
    have hlen' : (rows.take K ++ ys ++ rows.drop (K + ys.length)).length = K + ys.length + (rows.length - (K + ys.length)) := by simp; omega
    have hnl := hy.1
    have hrow : ∀ r, (rows.take K ++ ys ++ rows.drop (K + ys.length))[r]? = if r < K then rows[r]? else if r < K + ys.length then ys[r - K]? else rows[r]? := by
      intro r
      by_cases h1 : r < K
      · rw [if_pos h1, List.append_assoc, List.getElem?_append_left (by simp; omega), List.getElem?_take, if_pos h1]
      · rw [if_neg h1]
        by_cases h2 : r < K + ys.length
        · rw [if_pos h2, List.append_assoc, List.getElem?_append_right (by simp; omega), List.getElem?_append_left (by simp; omega)]
          congr 1
          simp
          omega
        · rw [if_neg h2, List.getElem?_append_right (by simp; omega)]
          simp only [List.length_append, List.length_take, List.getElem?_drop]
          congr 1
          omega
    have hflat' : FlatRows inf.size (rows.take K ++ ys ++ rows.drop (K + ys.length)) := by
      intro row hr
      rcases List.mem_append.1 hr with hr | hr
      · rcases List.mem_append.1 hr with hr | hr
        · exact q3 row (List.mem_of_mem_take hr)
        · exact hy.2.1 row hr
      · exact q3 row (List.mem_of_mem_drop hr)
    by_cases hroom : K + ys.length ≤ c
    · -- in place
      obtain rfl := ha (by omega)
      have hks : (K + ys.length) * inf.size ≤ C.size := Nat.le_trans (Nat.mul_le_mul_right _ hroom) hs'
      have hfit : K * inf.size + news.length ≤ C.size := by rw [hnl, ← Nat.add_mul]; exact hks
      have hr := app_room (P := P) (ty := ty) ht hxt hi hz hbt hzs q1 hs hnl hy.2.2.2 l.blk K c C te a3 hroom hfit
      have hD := setArr_get hfit
      have hDs : (C.toList.take (K * inf.size) ++ news ++ C.toList.drop (K * inf.size + news.length)).toArray.size = C.size := by
        have := hfit
        simp only [List.size_toArray, List.length_append, List.length_take, List.length_drop, Array.length_toList] at this ⊢
        omega
      generalize (C.toList.take (K * inf.size) ++ news ++ C.toList.drop (K * inf.size + news.length)).toArray = D at hr hD hDs
      have hprot : ∀ o, π l.blk o → ∀ q, D[o]? = some q ↔ C[o]? = some q := by
        intro o ho q
        rcases hA with ⟨rfl, _, _⟩ | ⟨hro, _, _⟩
        · have hlt : o < rows.length * inf.size := by
            rcases Nat.lt_or_ge o (rows.length * inf.size) with h1 | h1
            · exact h1
            · exact absurd ho (c4 o h1)
          rw [hD, if_neg (by omega)]
        · exact absurd ho (c3 hro o)
      have E0 := ext_setRow R l.blk C D te a3 hDs hprot
      have hw := setRow_heap w l.blk C D te (0, 0) a3
      have hnone : σ b (gen + 1) = none := q4 _ (by omega)
      have E : Ext σ π w (σ.set b (gen + 1) ⟨l.blk, K + ys.length + (rows.length - (K + ys.length))⟩) π (w.setRow l.blk D) :=
        ⟨fun b' g' l' hl' => Sig.set_old hnone hl', E0.prot, E0.cell, E0.size⟩
      refine ⟨.slice (some ⟨l.blk, 0, none⟩) (K + ys.length) c, w.setRow l.blk D, σ.set b (gen + 1) ⟨l.blk, K + ys.length + (rows.length - (K + ys.length))⟩, by simpa using hr, ?_, ?_⟩
      · refine .ref _ _ _ _ _ _ _ _ _ (Sig.set_same ..) (by simp) hroom (fun _ => by simp) (fun _ => by simp; omega) D te hw ?_
        rw [hDs]
        simpa using hs'
      · refine rel_change R hb _ E (fun b' g' hne => Sig.set_neb σ _ hne) (fun g' l' hl' => ?_) (fun B _ hB => setRow_other w l.blk B D (fun e => hB gen l c1 e.symm)) (by simp) rfl rfl rfl ?_
        · by_cases hg : g' = gen + 1
          · subst hg
            rw [Sig.set_same] at hl'
            cases hl'
            exact .inl ⟨gen, l, c1, rfl⟩
          · rw [Sig.set_ne σ _ (by omega)] at hl'
            exact .inl ⟨g', l', hl', rfl⟩
        · refine ⟨q1, ?_, hflat', fun g' hg' => ?_, ⟨_, Sig.set_same .., hlen'.symm, fun hr' => ?_, fun o ho => ?_⟩, fun g' hg1 hg2 => ?_⟩
          · rcases hA with ⟨_, h1, _⟩ | ⟨_, h1, _⟩ <;> omega
          · rw [Sig.set_ne σ _ (by omega)]
            exact q4 g' (by omega)
          · rcases hA with ⟨_, _, h1⟩ | ⟨h1, _, _⟩
            · exact c3 (h1 ▸ hr')
            · exact c3 h1
          · rw [hlen'] at ho
            refine c4 o (Nat.le_trans (Nat.mul_le_mul_right _ ?_) ho)
            omega
          · by_cases hg : g' = gen + 1
            · subst hg
              refine ⟨_, D, te, Sig.set_same .., by rw [hlen']; exact Nat.le_refl _, hw, ?_, fun r row hr1 hr2 j v hj => ?_⟩
              · simp only
                rw [hDs]
                refine Nat.le_trans (Nat.mul_le_mul_right _ ?_) hs'
                omega
              · simp only at hr1
                rw [hrow] at hr2
                have hjl : j < inf.size := by
                  have := (List.getElem?_eq_some_iff.1 hj).1
                  have hm : row ∈ (rows.take K ++ ys ++ rows.drop (K + ys.length)) := List.mem_of_getElem? (by rw [hrow]; exact hr2)
                  rw [(hflat' row hm).1] at this
                  exact this
                by_cases h1 : r < K
                · rw [if_pos h1] at hr2
                  obtain ⟨u, hu, hvv⟩ := a5 r row (by omega) hr2 j v hj
                  refine ⟨u, ?_, hvv.mono E⟩
                  have hle : (r + 1) * inf.size ≤ K * inf.size := Nat.mul_le_mul_right _ h1
                  rw [Nat.succ_mul] at hle
                  rw [hD, if_neg (by omega)]
                  exact hu
                · rw [if_neg h1] at hr2
                  by_cases h2 : r < K + ys.length
                  · rw [if_pos h2] at hr2
                    obtain ⟨u, hu, hvv⟩ := hy.2.2.1 (r - K) row hr2 j v hj
                    refine ⟨u, ?_, hvv.mono E⟩
                    have hle : (r - K + 1) * inf.size ≤ ys.length * inf.size := Nat.mul_le_mul_right _ (by omega)
                    rw [Nat.succ_mul] at hle
                    have hsplit : r * inf.size = K * inf.size + (r - K) * inf.size := by rw [← Nat.add_mul]; congr 1; omega
                    rw [hD, if_pos (by omega), show r * inf.size + j - K * inf.size = (r - K) * inf.size + j by omega]
                    simpa using hu
                  · rw [if_neg h2] at hr2
                    have hrl := (List.getElem?_eq_some_iff.1 hr2).1
                    obtain ⟨u, hu, hvv⟩ := a5 r row (by omega) hr2 j v hj
                    refine ⟨u, ?_, hvv.mono E⟩
                    have hle : (K + ys.length) * inf.size ≤ r * inf.size := Nat.mul_le_mul_right _ (by omega)
                    rw [Nat.add_mul] at hle
                    rw [hD, if_neg (by omega)]
                    exact hu
            · rcases hA with ⟨hKM, rfl, _⟩ | ⟨_, h1, _⟩
              · obtain ⟨l2, C2, te2, p1, p2, p3, p4, p5⟩ := q6 g' hg1 (by omega)
                by_cases hbl : l2.blk = l.blk
                · rw [hbl, a3] at p3
                  cases p3
                  refine ⟨l2, D, te, by rw [Sig.set_ne σ _ (by omega)]; exact p1, by rw [hlen']; omega, by rw [hbl]; exact hw, by rw [hDs]; exact p4, fun r row hr1 hr2 j v hj => ?_⟩
                  rw [hrow, if_pos (by omega)] at hr2
                  obtain ⟨u, hu, hvv⟩ := p5 r row hr1 hr2 j v hj
                  have hjl : j < inf.size := by
                    have := (List.getElem?_eq_some_iff.1 hj).1
                    rw [(q3 row (List.mem_of_getElem? hr2)).1] at this
                    exact this
                  have hle : (r + 1) * inf.size ≤ K * inf.size := Nat.mul_le_mul_right _ (by omega)
                  rw [Nat.succ_mul] at hle
                  refine ⟨u, ?_, hvv.mono E⟩
                  rw [hD, if_neg (by omega)]
                  exact hu
                · refine ⟨l2, C2, te2, by rw [Sig.set_ne σ _ (by omega)]; exact p1, by rw [hlen']; omega, by rw [setRow_other w l.blk l2.blk D hbl]; exact p3, p4, fun r row hr1 hr2 => ?_⟩
                  rw [hrow, if_pos (by omega)] at hr2
                  exact (p5 r row hr1 hr2).mono E
              · omega
    · -- a new block
      have hdrop : rows.drop (K + ys.length) = [] := List.drop_eq_nil_of_le (by omega)
      have hz0 : rows.length - (K + ys.length) = 0 := by omega
      have hKs : K * inf.size ≤ C.size := Nat.le_trans (Nat.mul_le_mul_right _ hn) hs'
      have hol : (C.toList.take (K * inf.size)).length = K * inf.size := by rw [List.length_take, Array.length_toList]; omega
      have ho : (Builtin.firstCells inf.size K (.slice (some a) K c)).run P w.drew = .ok (C.toList.take (K * inf.size)).toArray w.drew := by
        rcases Nat.eq_zero_or_pos K with h0 | h0
        · subst h0
          simp [Builtin.firstCells, loadCells, loadCellsFrom]
        · obtain rfl := ha (by omega)
          refine run_firstCells_some (P := P) w.drew inf.size K ⟨l.blk, 0 * inf.size, none⟩ K c _ hol (fun j v hj => ?_)
          simp only [List.getElem?_take] at hj
          split at hj
          · rw [add_none]
            show w.cell? _ = _
            simp only [World.cell?, a3]
            simpa using hj
          · cases hj
      have hr := app_grow (P := P) (ty := ty) ht hxt hi hz hbt hzs q1 hs hnl (some a) K c _ ho (by omega) hbytes
      have hge : K + ys.length ≤ grownCap w (K + ys.length) c e := grownCap_ge w (K + ys.length) c e
      generalize grownCap w (K + ys.length) c e = cap at hr hge
      have hnew := alloc_new w.drew (.cells ((C.toList.take (K * inf.size)).toArray ++ news.toArray ++ Builtin.zeroCells zv.cells (cap - (K + ys.length))) e)
      have hDs : ((C.toList.take (K * inf.size)).toArray ++ news.toArray ++ Builtin.zeroCells zv.cells (cap - (K + ys.length))).size = cap * inf.size := by
        simp only [Array.size_append, List.size_toArray, hol, hnl, size_zeroCells, hzs, ← Nat.add_mul]
        congr 1
        omega
      have hD : ∀ i, i < (K + ys.length) * inf.size → ((C.toList.take (K * inf.size)).toArray ++ news.toArray ++ Builtin.zeroCells zv.cells (cap - (K + ys.length)))[i]? = if i < K * inf.size then C[i]? else news[i - K * inf.size]? := by
        intro i hi
        rw [Nat.add_mul] at hi
        rw [Array.getElem?_append_left (by simp only [Array.size_append, List.size_toArray, hol, hnl]; omega)]
        by_cases h1 : i < K * inf.size
        · rw [if_pos h1, Array.getElem?_append_left (by simp only [List.size_toArray, hol]; exact h1)]
          simp [List.getElem?_take, h1]
        · rw [if_neg h1, Array.getElem?_append_right (by simp only [List.size_toArray, hol]; omega)]
          simp only [List.size_toArray, hol]
          simp
      generalize ((C.toList.take (K * inf.size)).toArray ++ news.toArray ++ Builtin.zeroCells zv.cells (cap - (K + ys.length))) = D at hr hnew hDs hD
      have hold : ∀ B, B < w.heap.size → (w.drew.alloc (.cells D e)).heap[B]? = w.heap[B]? := fun B hB => alloc_old w.drew _ hB
      have hnone : σ b (gen + 1) = none := q4 _ (by omega)
      have E : Ext σ π w (σ.set b (gen + 1) ⟨w.heap.size, K + ys.length⟩) π (w.drew.alloc (.cells D e)) := Ext.of_old (fun b' g' l' hl' => Sig.set_old hnone hl') R.prot R.lt hold
      have hp : ∀ o, ¬ π w.heap.size o := fun o ho => Nat.lt_irrefl _ (R.prot _ _ ho)
      refine ⟨.slice (some ⟨w.heap.size, 0, none⟩) (K + ys.length) cap, w.drew.alloc (.cells D e), σ.set b (gen + 1) ⟨w.heap.size, K + ys.length⟩, hr, ?_, ?_⟩
      · exact .ref _ _ _ _ _ _ ⟨w.heap.size, 0, none⟩ cap ⟨w.heap.size, K + ys.length⟩ (Sig.set_same ..) (by simp) hge (fun _ => by simp) (fun _ => by simpa using hge) D e hnew (by rw [hDs]; simp)
      · refine rel_change R hb _ E (fun b' g' hne => Sig.set_neb σ _ hne) (fun g' l' hl' => ?_) (fun B hB _ => hold B hB) (by rw [alloc_size]; exact Nat.le_succ _) rfl rfl rfl ?_
        · by_cases hg : g' = gen + 1
          · subst hg
            rw [Sig.set_same] at hl'
            cases hl'
            exact .inr ⟨Nat.le_refl _, by rw [alloc_size]; exact Nat.lt_succ_self _⟩
          · rw [Sig.set_ne σ _ (by omega)] at hl'
            exact .inl ⟨g', l', hl', rfl⟩
        · refine ⟨q1, ?_, hflat', fun g' hg' => ?_, ⟨_, Sig.set_same .., by rw [hlen', hz0]; rfl, fun _ => hp, fun o _ => hp o⟩, fun g' hg1 hg2 => ?_⟩
          · rcases hA with ⟨_, h1, _⟩ | ⟨_, h1, _⟩ <;> omega
          · rw [Sig.set_ne σ _ (by omega)]
            exact q4 g' (by omega)
          · by_cases hg : g' = gen + 1
            · subst hg
              refine ⟨_, D, e, Sig.set_same .., by rw [hlen', hz0]; exact Nat.le_refl _, hnew, by rw [hDs]; exact Nat.mul_le_mul_right _ hge, fun r row hr1 hr2 j v hj => ?_⟩
              simp only at hr1
              rw [hrow] at hr2
              have hjl : j < inf.size := by
                have := (List.getElem?_eq_some_iff.1 hj).1
                have hm : row ∈ (rows.take K ++ ys ++ rows.drop (K + ys.length)) := List.mem_of_getElem? (by rw [hrow]; exact hr2)
                rw [(hflat' row hm).1] at this
                exact this
              have hle0 : (r + 1) * inf.size ≤ (K + ys.length) * inf.size := Nat.mul_le_mul_right _ hr1
              rw [Nat.succ_mul] at hle0
              by_cases h1 : r < K
              · rw [if_pos h1] at hr2
                obtain ⟨u, hu, hvv⟩ := a5 r row (by omega) hr2 j v hj
                refine ⟨u, ?_, hvv.mono E⟩
                have hle : (r + 1) * inf.size ≤ K * inf.size := Nat.mul_le_mul_right _ h1
                rw [Nat.succ_mul] at hle
                rw [hD _ (by omega), if_pos (by omega)]
                exact hu
              · rw [if_neg h1, if_pos hr1] at hr2
                obtain ⟨u, hu, hvv⟩ := hy.2.2.1 (r - K) row hr2 j v hj
                refine ⟨u, ?_, hvv.mono E⟩
                have hsplit : r * inf.size = K * inf.size + (r - K) * inf.size := by rw [← Nat.add_mul]; congr 1; omega
                rw [hD _ (by omega), if_neg (by omega), show r * inf.size + j - K * inf.size = (r - K) * inf.size + j by omega]
                simpa using hu
            · rcases hA with ⟨hKM, rfl, _⟩ | ⟨_, h1, _⟩
              · obtain ⟨l2, C2, te2, p1, p2, p3, p4, p5⟩ := q6 g' hg1 (by omega)
                refine ⟨l2, C2, te2, by rw [Sig.set_ne σ _ (by omega)]; exact p1, by rw [hlen']; omega, by rw [hold _ (R.lt _ _ _ p1)]; exact p3, p4, fun r row hr1 hr2 => ?_⟩
                rw [hrow, if_pos (by omega)] at hr2
                exact (p5 r row hr1 hr2).mono E
              · omega

end
end Go.Ws
