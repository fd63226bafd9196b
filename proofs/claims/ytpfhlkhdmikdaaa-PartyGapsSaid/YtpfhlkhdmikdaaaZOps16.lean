/-
  Map entries, deletes, small builtins: what the abstract machine makes of them is the model's.
  Conditions: none.
-/
import Derived.Test.YtpfhlkhdmikdaaaZOps15
namespace Go.Ws
set_option linter.unusedVariables false
set_option linter.unusedSimpArgs false

section
variable {P : Program} {σ : Sig} {π : Prot} {w : World} {h : Nat → Option Blk} {n : Nat} {δ : Delta} {L : List Nat}

theorem vr_pair {a b : AV} {au bu : Value} (ha : VR σ π w a au) (hb : VR σ π w b bu) : VR σ π w (.tup [a, b]) (.tuple #[au, bu]) := by
  refine .tup _ _ rfl (fun i v u h3 h4 => ?_)
  rcases i with _ | _ | i
  · simp at h3 h4; subst h3; subst h4; exact ha
  · simp at h3 h4; subst h3; subst h4; exact hb
  · simp at h3

theorem op_mapEntry (R : Rel σ π w h) (t : Nat) (x k : AV) (xu ku : Value) (hx : VR σ π w x xu) (hk : VR σ π w k ku) (e : (aMapEntry (tiOf P) t x k).run h = some (δ, L)) :
    OpDone P (do pure (.value (← Instr.mapEntry t xu ku))) σ π w h n δ := by
  unfold aMapEntry at e
  split at e
  · rename_i kt et sz bts z cmp hst
    obtain ⟨d, inf, h1, h2, he⟩ := ti_spec hst
    simp only [TI.mk.injEq] at he
    obtain rfl := tk_map he.1.symm
    split at e
    · rename_i hsk
      obtain ⟨dk, hdk, hkd⟩ := scalar_key hsk
      split at e
      · rename_i ei hei
        obtain ⟨de, infe, e1, e2, rfl⟩ := ti_spec hei
        split at e
        · rename_i zc hzc
          obtain ⟨zv, hzv, hzvr⟩ := zero_facts (e := et) hzc
          have hzr : ∀ w1, (zeroValue et).run P w1 = .ok zv w1 := fun w1 => by simp [zeroValue, typeInfo, e2, hzv]
          split at e
          · rename_i hzrf
            split at e
            · rename_i b
              obtain ⟨y, L', hy, e5, _⟩ := am_rd e
              split at e5
              · rename_i es cl
                cases hx with
                | mp _ l hl =>
                  obtain ⟨C, c1, c2, c3⟩ := ents_of R hy hl
                  split at e5
                  · rename_i j v0 born hm
                    have hδ := am_ret e5; subst hδ
                    rcases find_now hk hkd c2 hm with ⟨hh, _⟩ | ⟨j', v', b', k', ee, hh, a1, a2, a3, a4⟩
                    · cases hh
                    · simp only [Option.some.injEq, Prod.mk.injEq, Nat.zero_add] at hh a3
                      obtain ⟨rfl, rfl, rfl⟩ := hh
                      have hfk := Go.MapKept.run_findKey (P := P) (w := w) (kt := kt) (k := ku) hdk a3
                      obtain ⟨_, hv0, hbn, hvr, _⟩ := c2.2 j k' v0 born ee a1 a2
                      have ha2 : C[j]? = some ee := by simpa using a2
                      have hD := map_write (n := n) R hy hl c1 (ents_set (f := fun e => { e with key := ku }) c2 ha2 hbn hk hv0 (key_refs hkd) hvr (by simp [← hbn])) (cl' := cl) (.tup [v0, .int .i64 born])
                      refine ⟨_, .tuple #[ee.val, goInt born], _, σ, π, run_v (w' := World.setMap w l.blk (C.modify j fun e => { e with key := ku }) cl) ?_, .inl rfl, vr_pair (hv0.mono hD.ext) (.int _ _), hD⟩
                      simp [Instr.mapEntry, run_underlying h1, check_key hdk hk hkd, run_getObj_map c1, hfk, ha2, run_keyStays a4, run_setObj_map c1, hbn]
                  · rename_i hm
                    have hδ := am_ret e5; subst hδ
                    rcases find_now hk hkd c2 hm with ⟨_, hf⟩ | ⟨j', v', b', k', ee, hh, _⟩
                    · have hfk := Go.MapKept.run_findKey (P := P) (w := w) (kt := kt) (k := ku) hdk hf
                      have hD := map_write (n := n) R hy hl c1 (ents_push (born := cl) c2 hk (hzvr σ π w) (key_refs hkd) hzrf) (cl' := cl + 1) (.tup [zc, .int .i64 cl])
                      refine ⟨_, .tuple #[zv, goInt cl], _, σ, π, run_v (w' := World.setMap w l.blk (C.push { key := ku, val := zv, born := cl }) (cl + 1)) ?_, .inl rfl, vr_pair (hzvr _ _ _) (.int _ _), hD⟩
                      simp [Instr.mapEntry, run_underlying h1, check_key hdk hk hkd, run_getObj_map c1, hfk, run_setObj_map c1, hzr]
                    · cases hh
                  · exact (am_fail e5).elim
              · exact (am_fail e5).elim
            · exact (am_fail e).elim
          · exact (am_fail e).elim
        · exact (am_fail e).elim
      · exact (am_fail e).elim
    · exact (am_fail e).elim
  · exact (am_fail e).elim

theorem setBorn_spec {born : Int} {v : AV} : ∀ {es es' : List (AV × AV × Nat)} {C : List MapEntry}, EntsR σ π w es C → setBorn born v es = some es' →
    ∃ j k v0 b e, es[j]? = some (k, v0, b) ∧ C[j]? = some e ∧ C.findIdx? (fun e => (e.born : Int) == born) = some j ∧ es' = es.set j (k, v, b)
  | [], es', C, _, e => by simp [setBorn] at e
  | (k, v0, b) :: es, es', C, hC, e => by
    cases C with
    | nil => have := hC.1; simp at this
    | cons c C =>
      obtain ⟨_, _, h3, _⟩ := hC.2 0 k v0 b c rfl rfl
      have hC' : EntsR σ π w es C := ⟨by have := hC.1; simpa using this, fun j kk vv bb ee a1 a2 => hC.2 (j + 1) kk vv bb ee (by simpa using a1) (by simpa using a2)⟩
      simp only [setBorn] at e
      split at e
      · rename_i hb
        cases e
        exact ⟨0, k, v0, b, c, rfl, rfl, by simp [List.findIdx?_cons, h3, hb], rfl⟩
      · rename_i hb
        obtain ⟨es2, h4, rfl⟩ := Option.map_eq_some_iff.1 e
        obtain ⟨j, k', v', b', ee, q1, q2, q3, rfl⟩ := setBorn_spec hC' h4
        exact ⟨j + 1, k', v', b', ee, by simpa using q1, by simpa using q2, by simp [List.findIdx?_cons, h3, hb, q3], rfl⟩

theorem op_entryStore (R : Rel σ π w h) (t : Nat) (x s v : AV) (xu su vu : Value) (hx : VR σ π w x xu) (hs : VR σ π w s su) (hv : VR σ π w v vu) (e : (aEntryStore x s v).run h = some (δ, L)) :
    OpDone P (do Instr.entryStore t xu su vu; pure .skip) σ π w h n δ := by
  unfold aEntryStore at e
  split at e
  · rename_i b kk born
    split at e
    · rename_i hvr
      obtain ⟨y, L', hy, e5, _⟩ := am_rd e
      split at e5
      · rename_i es cl
        split at e5
        · rename_i es' hsb
          have hδ := am_ret e5; subst hδ
          cases hs
          cases hx with
          | mp _ l hl =>
            obtain ⟨C, c1, c2, c3⟩ := ents_of R hy hl
            obtain ⟨j, k, v0, b0, ee, q1, q2, q3, rfl⟩ := setBorn_spec c2 hsb
            obtain ⟨hk0, _, hbn, _, hkr⟩ := c2.2 j k v0 b0 ee q1 q2
            have ha2 : C[j]? = some ee := by simpa using q2
            have hfi : C.findIdx? (fun e => (e.born : Int) == born) = some j := by
              cases C with
              | mk l => simpa using q3
            have hD := map_write (n := n) R hy hl c1 (ents_set (f := fun e => { e with val := vu }) c2 ha2 hbn hk0 hv hkr hvr (by simp [← hbn])) (cl' := cl) undefA
            refine ⟨_, _, _, σ, π, run_u (w' := World.setMap w l.blk (C.modify j fun e => { e with val := vu }) cl) ?_, .inr ⟨rfl, rfl⟩, undef_vr _ _ _, hD⟩
            simp [Instr.entryStore, run_getObj_map c1, asInt, asIntOf, hfi, run_setObj_map c1]
        · exact (am_fail e5).elim
      · exact (am_fail e5).elim
    · exact (am_fail e).elim
  · exact (am_fail e).elim

theorem ents_erase {es : List (AV × AV × Nat)} {C : List MapEntry} (hC : EntsR σ π w es C) (j : Nat) : EntsR σ π w (es.eraseIdx j) (C.eraseIdx j) := by
  refine ⟨by simp [List.length_eraseIdx, hC.1], fun i k v b e h1 h2 => ?_⟩
  rw [List.getElem?_eraseIdx] at h1 h2
  by_cases hij : i < j
  · rw [if_pos hij] at h1 h2
    exact hC.2 i k v b e h1 h2
  · rw [if_neg hij] at h1 h2
    exact hC.2 (i + 1) k v b e h1 h2

theorem op_delete (R : Rel σ π w h) (t ty : Nat) (ts : Array TypeId) (x k : AV) (xu ku : Value) (hts : ts[0]? = some t) (hx : VR σ π w x xu) (hk : VR σ π w k ku) (e : (aDelete (tiOf P) t x k).run h = some (δ, L)) :
    OpDone P (do pure (.value (← Builtin.delete_ ts ty #[xu, ku]))) σ π w h n δ := by
  unfold aDelete at e
  split at e
  · rename_i kt et sz bts z cmp hst
    obtain ⟨d, inf, h1, h2, he⟩ := ti_spec hst
    simp only [TI.mk.injEq] at he
    obtain rfl := tk_map he.1.symm
    split at e
    · rename_i hsk
      obtain ⟨dk, hdk, hkd⟩ := scalar_key hsk
      split at e
      · have hδ := am_val e; subst hδ
        cases hx
        exact opdone_pure R (u := undef) (by simp [Builtin.delete_, hts, run_underlying h1, check_key hdk hk hkd, undef]) (undef_vr _ _ _)
      · rename_i b
        obtain ⟨y, L', hy, e5, _⟩ := am_rd e
        split at e5
        · rename_i es cl
          cases hx with
          | mp _ l hl =>
            obtain ⟨C, c1, c2, c3⟩ := ents_of R hy hl
            split at e5
            · rename_i j v0 born hm
              have hδ := am_ret e5; subst hδ
              rcases find_now hk hkd c2 hm with ⟨hh, _⟩ | ⟨j', v', b', k', ee, hh, a1, a2, a3, a4⟩
              · cases hh
              · simp only [Option.some.injEq, Prod.mk.injEq, Nat.zero_add] at hh a3
                obtain ⟨rfl, rfl, rfl⟩ := hh
                have hfk := Go.MapKept.run_findKey (P := P) (w := w) (kt := kt) (k := ku) hdk a3
                have hD := map_write (n := n) R hy hl c1 (C' := C.eraseIdxIfInBounds j) (cl' := cl) (by
                  have := ents_erase c2 j
                  cases C with
                  | mk l => simpa using this) undefA
                refine ⟨_, undef, _, σ, π, run_v (w' := World.setMap w l.blk (C.eraseIdxIfInBounds j) cl) ?_, .inl rfl, undef_vr _ _ _, hD⟩
                simp [Builtin.delete_, hts, run_underlying h1, check_key hdk hk hkd, run_getObj_map c1, hfk, run_setObj_map c1, undef]
            · rename_i hm
              have hδ := am_ret e5; subst hδ
              rcases find_now hk hkd c2 hm with ⟨_, hf⟩ | ⟨j', v', b', k', ee, hh, _⟩
              · have hfk := Go.MapKept.run_findKey (P := P) (w := w) (kt := kt) (k := ku) hdk hf
                have hD := map_write (n := n) R hy hl c1 (C' := C) (cl' := cl) c2 undefA
                refine ⟨_, undef, _, σ, π, run_v (w' := World.setMap w l.blk C cl) ?_, .inl rfl, undef_vr _ _ _, hD⟩
                simp [Builtin.delete_, hts, run_underlying h1, check_key hdk hk hkd, run_getObj_map c1, hfk, run_setObj_map c1, undef]
              · cases hh
            · exact (am_fail e5).elim
        · exact (am_fail e5).elim
      · exact (am_fail e).elim
    · exact (am_fail e).elim
  · exact (am_fail e).elim

theorem op_makeMap (R : Rel σ π w h) (hn : h n = none) (t : Nat) : OpDone P (do pure (.value (← Instr.makeMap t none))) σ π w h n ⟨.mp n, [], [.map [] 0]⟩ := by
  have hnon := R.non n hn
  have E : Ext σ π w (σ.set n 0 ⟨w.heap.size, 0⟩) π (w.alloc (.map #[] 0)) := Ext.of_old (fun b g l hl => Sig.set_old (hnon 0) hl) R.prot R.lt (fun B hB => alloc_old w _ hB)
  refine ⟨_, .map (some w.heap.size), w.alloc (.map #[] 0), σ.set n 0 ⟨w.heap.size, 0⟩, π, run_v rfl, .inl rfl, .mp n ⟨w.heap.size, 0⟩ (Sig.set_same ..), ?_⟩
  refine rel_new R hn _ _ 0 _ (.map #[] 0) (fun B hB => alloc_old w _ hB) (alloc_size ..) (alloc_new ..) rfl rfl rfl ?_
  exact ⟨⟨w.heap.size, 0⟩, #[], Sig.set_same .., alloc_new w _, rfl, fun o ho => Nat.lt_irrefl _ (R.prot _ _ ho), fun i k v b e h1 => by simp at h1⟩

theorem op_min (R : Rel σ π w h) (op : Bool) (ts : Array TypeId) (ty : Nat) (x y : AV) (xu yu : Value) (hx : VR σ π w x xu) (hy : VR σ π w y yu) {v : AV} (e : aMin op x y = some v) :
    (op = true → OpDone P (do pure (.value (← Builtin.max_ ts ty #[xu, yu]))) σ π w h n ⟨v, [], []⟩) ∧ (op = false → OpDone P (do pure (.value (← Builtin.min_ ts ty #[xu, yu]))) σ π w h n ⟨v, [], []⟩) := by
  unfold aMin at e
  split at e
  · cases hx; cases hy
    split at e
    · rename_i hk
      subst hk
      cases e
      refine ⟨fun ho => ?_, fun ho => ?_⟩
      · subst ho
        exact opdone_pure R (u := .int _ _) (by simp [Builtin.max_, Builtin.max2]) (.int _ _)
      · subst ho
        exact opdone_pure R (u := .int _ _) (by simp [Builtin.min_, Builtin.min2]) (.int _ _)
    · cases e
  · cases e

theorem op_cap (R : Rel σ π w h) (t ty : Nat) (x : AV) (xu : Value) (hx : VR σ π w x xu) (e : (aCap (tiOf P) t x).run h = some (δ, L)) :
    OpDone P (do pure (.value (← Builtin.cap_ #[t] ty #[xu]))) σ π w h n δ := by
  unfold aCap at e
  split at e
  · rename_i el sz bts z cmp hst
    obtain ⟨d, inf, h1, h2, he⟩ := ti_spec hst
    simp only [TI.mk.injEq] at he
    obtain rfl := tk_slice he.1.symm
    split at e
    · have hδ := am_val e; subst hδ
      cases hx
      exact opdone_pure R (u := .int .i64 0) (by simp [Builtin.cap_, run_underlying h1, goInt]) (.int _ _)
    · have hδ := am_val e; subst hδ
      cases hx
      exact opdone_pure R (u := .int .i64 0) (by simp [Builtin.cap_, run_underlying h1, goInt]) (.int _ _)
    · exact (am_fail e).elim
  · exact (am_fail e).elim

end
end Go.Ws
