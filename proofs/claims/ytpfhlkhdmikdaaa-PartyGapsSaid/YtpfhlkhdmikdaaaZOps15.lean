/-
  Maps: what the abstract machine makes of them is the model's.
  Conditions: none.
-/
import Derived.Test.YtpfhlkhdmikdaaaZOps14
namespace Go.Ws
set_option linter.unusedVariables false
set_option linter.unusedSimpArgs false

section
variable {P : Program} {σ : Sig} {π : Prot} {w : World} {h : Nat → Option Blk} {n : Nat} {δ : Delta} {L : List Nat}

theorem bytes_eq {a b : ByteArray} (h : (a == b) = true) : a = b := by
  rw [beq_toListBytes, ByteArray.toList_eq, ByteArray.toList_eq] at h
  have := eq_of_beq h
  exact ByteArray.ext (Array.ext' this)

/-- The entries, place by place. -/
def EntsR (σ : Sig) (π : Prot) (w : World) (es : List (AV × AV × Nat)) (C : List MapEntry) : Prop :=
  C.length = es.length ∧ ∀ (i : Nat) k v born e, es[i]? = some (k, v, born) → C[i]? = some e → VR σ π w k e.key ∧ VR σ π w v e.val ∧ e.born = born ∧ v.refs = [] ∧ k.refs = []

theorem EntsR.mono {σ' : Sig} {π' : Prot} {w' : World} (E : Ext σ π w σ' π' w') {es : List (AV × AV × Nat)} {C : List MapEntry} (k : EntsR σ π w es C) : EntsR σ' π' w' es C :=
  ⟨k.1, fun i kk v born e h1 h2 => let ⟨a, b, c⟩ := k.2 i kk v born e h1 h2; ⟨a.mono E, b.mono E, c⟩⟩

theorem key_now {d : TypeDesc} {k k' : AV} {ku ku' : Value} (hk : VR σ π w k ku) (hk' : VR σ π w k' ku') {b : Bool} (e : keyEq k k' = some b) (hd : (∃ kk n, k = .int kk n ∧ d = .int kk) ∨ (∃ s, k = .str s ∧ d = .string)) :
    Instr.sameNow d ku ku' = some b ∧ (b = true → Instr.sameBits 10000 ku' ku = true) := by
  unfold keyEq at e
  split at e
  · split at e
    · rename_i hkk
      subst hkk
      cases e
      cases hk; cases hk'
      rcases hd with ⟨kk, n, hh, rfl⟩ | ⟨s, hh, _⟩
      · refine ⟨by simp [Instr.sameNow], fun hb => ?_⟩
        have := eq_of_beq hb
        subst this
        simp [Instr.sameBits]
      · cases hh
    · cases e
  · cases e
    cases hk; cases hk'
    rcases hd with ⟨kk, n, hh, _⟩ | ⟨s, hh, rfl⟩
    · cases hh
    · refine ⟨by simp [Instr.sameNow], fun hb => ?_⟩
      have h2 := bytes_eq hb
      subst h2
      simpa [Instr.sameBits] using hb
  · cases hk; cases hk'
    rcases hd with ⟨kk, n, hh, _⟩ | ⟨s, hh, _⟩ <;> cases hh
  · cases e

theorem find_now {d : TypeDesc} {k : AV} {ku : Value} (hk : VR σ π w k ku) (hd : (∃ kk n, k = .int kk n ∧ d = .int kk) ∨ (∃ s, k = .str s ∧ d = .string)) :
    ∀ {es : List (AV × AV × Nat)} {C : List MapEntry} {i : Nat} {r : Option (Nat × AV × Nat)}, EntsR σ π w es C → mFind k es i = some r →
      (r = none ∧ Instr.findNow d ku C i = some none) ∨ (∃ j v b k' e, r = some (i + j, v, b) ∧ es[j]? = some (k', v, b) ∧ C[j]? = some e ∧ Instr.findNow d ku C i = some (some (i + j, e.val)) ∧ Instr.sameBits 10000 e.key ku = true)
  | [], C, i, r, hC, e => by
    obtain rfl : C = [] := List.eq_nil_of_length_eq_zero hC.1
    simp [mFind] at e
    subst e
    exact .inl ⟨rfl, rfl⟩
  | (k', v, b) :: es, C, i, r, hC, e => by
    cases C with
    | nil => have := hC.1; simp at this
    | cons c C =>
      obtain ⟨h1, h2, h3, _⟩ := hC.2 0 k' v b c rfl rfl
      have hC' : EntsR σ π w es C := ⟨by have := hC.1; simpa using this, fun j kk vv bb ee a1 a2 => hC.2 (j + 1) kk vv bb ee (by simpa using a1) (by simpa using a2)⟩
      simp only [mFind] at e
      split at e
      · rename_i hke
        cases e
        obtain ⟨q1, q2⟩ := key_now hk h1 hke hd
        exact .inr ⟨0, v, b, k', c, rfl, rfl, rfl, by simp [Instr.findNow, q1], q2 rfl⟩
      · rename_i hke
        obtain ⟨q1, _⟩ := key_now hk h1 hke hd
        rcases find_now hk hd hC' e with ⟨rfl, hf⟩ | ⟨j, v', b', k'', ee, rfl, a1, a2, a3, a4⟩
        · exact .inl ⟨rfl, by simp [Instr.findNow, q1, hf]⟩
        · refine .inr ⟨j + 1, v', b', k'', ee, by rw [show i + 1 + j = i + (j + 1) by omega], by simpa using a1, by simpa using a2, ?_, a4⟩
          simp only [Instr.findNow, q1, a3]
          rw [show i + 1 + j = i + (j + 1) by omega]
      · cases e

theorem scalar_key {kt : Nat} {k : AV} (e : scalarKey (tiOf P) kt k = true) : ∃ d, P.underlying kt = some d ∧ ((∃ kk n, k = .int kk n ∧ d = .int kk) ∨ (∃ s, k = .str s ∧ d = .string)) := by
  unfold scalarKey at e
  split at e
  · split at e
    · rename_i kk n k' sz bts z cmp hi
      obtain ⟨d, inf, h1, h2, he⟩ := ti_spec hi
      simp only [TI.mk.injEq] at he
      obtain rfl := tk_int he.1.symm
      have := eq_of_beq e
      subst this
      exact ⟨_, h1, .inl ⟨_, _, rfl, rfl⟩⟩
    · cases e
  · split at e
    · rename_i sz bts z cmp hi
      obtain ⟨d, inf, h1, h2, he⟩ := ti_spec hi
      simp only [TI.mk.injEq] at he
      obtain rfl := tk_str he.1.symm
      exact ⟨_, h1, .inr ⟨_, rfl, rfl⟩⟩
    · cases e
  · cases e

theorem check_key {kt : Nat} {d : TypeDesc} (h1 : P.underlying kt = some d) {k : AV} {ku : Value} (hk : VR σ π w k ku) (hd : (∃ kk n, k = .int kk n ∧ d = .int kk) ∨ (∃ s, k = .str s ∧ d = .string)) (em : Bool) : (Instr.checkKey em 10000 kt ku).run P w = .ok () w := by
  have key : ∀ m, (Instr.checkKey em (m + 1) kt ku).run P w = .ok () w := by
    intro m
    rcases hd with ⟨kk, n, rfl, rfl⟩ | ⟨s, rfl, rfl⟩ <;> cases hk <;> simp [Instr.checkKey, run_underlying h1]
  exact key 9999

theorem run_getObj_map {r : Nat} {C : Array MapEntry} {cl : Nat} (hg : w.heap[r]? = some (.map C cl)) : (getObj r).run P w = .ok (.map C cl) w := by
  simp [getObj, Sem.run, hg]

theorem ents_of {b : Nat} {es : List (AV × AV × Nat)} {cl : Nat} (R : Rel σ π w h) (hb : h b = some (.map es cl)) {l : Loc} (hl : σ b 0 = some l) : ∃ C, w.heap[l.blk]? = some (.map C cl) ∧ EntsR σ π w es C.toList ∧ (∀ o, ¬ π l.blk o) := by
  obtain ⟨l', C, q1, q2, q3, q4, q5⟩ := R.blk b _ hb
  rw [hl] at q1
  cases q1
  exact ⟨C, q2, ⟨by rw [Array.length_toList]; exact q3, fun i k v born e h1 h2 => q5 i k v born e h1 (by simpa using h2)⟩, q4⟩

theorem op_lookup (R : Rel σ π w h) (t : Nat) (x k : AV) (ok : Bool) (xu ku : Value) (hx : VR σ π w x xu) (hk : VR σ π w k ku) (e : (aLookup (tiOf P) t x k ok).run h = some (δ, L)) :
    OpDone P (do pure (.value (← Instr.lookup t xu ku ok))) σ π w h n δ := by
  unfold aLookup at e
  split at e
  · rename_i kt et sz bts z cmp hst
    obtain ⟨d, inf, h1, h2, he⟩ := ti_spec hst
    simp only [TI.mk.injEq] at he
    obtain rfl := tk_map he.1.symm
    split at e
    · rename_i hsk
      obtain ⟨dk, hdk, hkd⟩ := scalar_key hsk
      split at e
      · rename_i ei hei
        obtain ⟨de, infe, e1, e2, rfl⟩ := ti_spec hei
        split at e
        · rename_i zc hzc
          obtain ⟨zv, hzv, hzvr⟩ := zero_facts (e := et) hzc
          have hz := hzvr σ π w
          have hzr : (zeroValue et).run P w = .ok zv w := by simp [zeroValue, typeInfo, e2, hzv]
          have hmiss : ∀ (s : Sem Value), (s.run P w = .ok (if ok then .tuple #[zv, .bool false] else zv) w) → OpDone P (do pure (.value (← s))) σ π w h n ⟨if ok then .tup [zc, .bool false] else zc, [], []⟩ := by
            intro s hs
            cases ok with
            | false => exact opdone_pure R hs hz
            | true =>
              refine opdone_pure R hs (.tup _ _ rfl (fun i v u h3 h4 => ?_))
              rcases i with _ | _ | i
              · simp at h3 h4; subst h3; subst h4; exact hz
              · simp at h3 h4; subst h3; subst h4; exact .bool _
              · simp at h3
          split at e
          · have hδ := am_val e; subst hδ
            cases hx
            refine hmiss _ ?_
            have hfk := Go.MapKept.run_findKey (P := P) (w := w) (kt := kt) (k := ku) (l := []) (a := none) hdk rfl
            simp [Instr.lookup, run_underlying h1, check_key hdk hk hkd, hfk, hzr]
          · rename_i b
            obtain ⟨y, L', hy, e5, _⟩ := am_rd e
            split at e5
            · rename_i es cl
              cases hx with
              | mp _ l hl =>
                obtain ⟨C, c1, c2, c3⟩ := ents_of R hy hl
                split at e5
                · rename_i j v born hm
                  have hδ := am_val e5; subst hδ
                  rcases find_now hk hkd c2 hm with ⟨hh, _⟩ | ⟨j', v', b', k', ee, hh, a1, a2, a3, a4⟩
                  · cases hh
                  · simp only [Option.some.injEq, Prod.mk.injEq] at hh
                    obtain ⟨_, rfl, _⟩ := hh
                    have hfk := Go.MapKept.run_findKey (P := P) (w := w) (kt := kt) (k := ku) hdk a3
                    obtain ⟨_, hv, _⟩ := c2.2 j' k' v b' ee a1 a2
                    have hs : (Instr.lookup t (.map (some l.blk)) ku ok).run P w = .ok (if ok then .tuple #[ee.val, .bool true] else ee.val) w := by
                      simp [Instr.lookup, run_underlying h1, check_key hdk hk hkd, run_getObj_map c1, hfk]
                    cases ok with
                    | false => exact opdone_pure R hs hv
                    | true =>
                      refine opdone_pure R hs (.tup _ _ rfl (fun i v u h3 h4 => ?_))
                      rcases i with _ | _ | i
                      · simp at h3 h4; subst h3; subst h4; exact hv
                      · simp at h3 h4; subst h3; subst h4; exact .bool _
                      · simp at h3
                · rename_i hm
                  have hδ := am_val e5; subst hδ
                  rcases find_now hk hkd c2 hm with ⟨_, hf⟩ | ⟨j', v', b', k', ee, hh, _⟩
                  · have hfk := Go.MapKept.run_findKey (P := P) (w := w) (kt := kt) (k := ku) hdk hf
                    refine hmiss _ ?_
                    simp [Instr.lookup, run_underlying h1, check_key hdk hk hkd, run_getObj_map c1, hfk, hzr]
                  · cases hh
                · exact (am_fail e5).elim
            · exact (am_fail e5).elim
          · exact (am_fail e).elim
        · exact (am_fail e).elim
      · exact (am_fail e).elim
    · exact (am_fail e).elim
  · exact (am_fail e).elim

/-- A map is another. -/
def World.setMap (w : World) (r : Nat) (C : Array MapEntry) (cl : Nat) : World := { w with heap := w.heap.setIfInBounds r (.map C cl) }

theorem run_setObj_map {r : Nat} {C C' : Array MapEntry} {cl cl' : Nat} (hg : w.heap[r]? = some (.map C cl)) : (setObj r (.map C' cl')).run P w = .ok () (World.setMap w r C' cl') := by
  simp [setObj, Sem.run, hg, World.setMap]

theorem map_write (R : Rel σ π w h) {b : Nat} {es es' : List (AV × AV × Nat)} {cl cl' : Nat} (hb : h b = some (.map es cl)) {l : Loc} (hl : σ b 0 = some l) {C C' : Array MapEntry} (hg : w.heap[l.blk]? = some (.map C cl)) (hE : EntsR σ π w es' C'.toList) (v : AV) :
    Done σ π w σ π (World.setMap w l.blk C' cl') (updF h n ⟨v, [(b, .map es' cl')], []⟩) := by
  obtain ⟨C0, c1, c2, c3⟩ := ents_of R hb hl
  have hlt := lt_of_heap hg
  have hother : ∀ B, B ≠ l.blk → (World.setMap w l.blk C' cl').heap[B]? = w.heap[B]? := fun B hne => by simp [World.setMap, Array.getElem?_setIfInBounds_ne (Ne.symm hne)]
  have hthis : (World.setMap w l.blk C' cl').heap[l.blk]? = some (.map C' cl') := by simp [World.setMap, hlt]
  have E : Ext σ π w σ π (World.setMap w l.blk C' cl') := by
    refine ⟨fun _ _ _ h => h, fun _ _ h => h, fun B o hB => cell_of_heap (hother B (fun e => c3 o (e ▸ hB))), fun b' g l' C1 e fr q1 q2 => ?_⟩
    by_cases hne : l'.blk = l.blk
    · rw [hne, hg] at q2; cases q2
    · exact ⟨C1, (hother _ hne).trans q2, rfl⟩
  refine rel_change R hb v E (fun _ _ _ => rfl) (fun g l' hl' => .inl ⟨g, l', hl', rfl⟩) (fun B _ hn => hother B (fun e => hn 0 l hl e.symm)) (by simp [World.setMap]) rfl rfl rfl ?_
  have hE' := hE.mono E
  exact ⟨l, C', hl, hthis, by have := hE'.1; rwa [Array.length_toList] at this, c3, fun i k v born e h1 h2 => hE'.2 i k v born e h1 (by simpa using h2)⟩

theorem ents_set {es : List (AV × AV × Nat)} {C : Array MapEntry} (hC : EntsR σ π w es C.toList) {j : Nat} {e : MapEntry} (he : C[j]? = some e) {k v : AV} {ku vu : Value} {born : Nat} (hb : e.born = born) (hk : VR σ π w k ku) (hv : VR σ π w v vu) (hkr : k.refs = []) (hvr : v.refs = []) {f : MapEntry → MapEntry}
    (hf : f e = { key := ku, val := vu, born := born }) : EntsR σ π w (es.set j (k, v, born)) (C.modify j f).toList := by
  have hj : j < C.size := (Array.getElem?_eq_some_iff.1 he).1
  refine ⟨by have := hC.1; simp at this ⊢; exact this, fun i kk vv bb ee h1 h2 => ?_⟩
  rw [Array.getElem?_toList, Array.getElem?_modify] at h2
  by_cases hij : j = i
  · subst hij
    rw [List.getElem?_set_self (by have := hC.1; simp at this; omega)] at h1
    cases h1
    rw [if_pos rfl, he] at h2
    simp only [Option.map_some, Option.some.injEq] at h2
    rw [hf] at h2
    subst h2
    exact ⟨hk, hv, rfl, hvr, hkr⟩
  · rw [List.getElem?_set_ne hij] at h1
    rw [if_neg hij] at h2
    exact hC.2 i kk vv bb ee h1 (by simpa using h2)

theorem ents_push {es : List (AV × AV × Nat)} {C : Array MapEntry} (hC : EntsR σ π w es C.toList) {k v : AV} {ku vu : Value} {born : Nat} (hk : VR σ π w k ku) (hv : VR σ π w v vu) (hkr : k.refs = []) (hvr : v.refs = []) :
    EntsR σ π w (es ++ [(k, v, born)]) (C.push { key := ku, val := vu, born := born }).toList := by
  have hl := hC.1
  simp only [Array.length_toList] at hl
  refine ⟨by simp [hl], fun i kk vv bb ee h1 h2 => ?_⟩
  rw [Array.toList_push] at h2
  rcases Nat.lt_or_ge i es.length with hlt | hge
  · rw [List.getElem?_append_left hlt] at h1
    rw [List.getElem?_append_left (by simp; omega)] at h2
    exact hC.2 i kk vv bb ee h1 h2
  · rw [List.getElem?_append_right hge] at h1
    rw [List.getElem?_append_right (by simp; omega)] at h2
    simp only [Array.length_toList, hl] at h2
    rcases hq : i - es.length with _ | q
    · rw [hq] at h1 h2
      simp at h1 h2
      obtain ⟨rfl, rfl, rfl⟩ := h1
      subst h2
      exact ⟨hk, hv, rfl, hvr, hkr⟩
    · rw [hq] at h1
      simp at h1

theorem key_refs {k : AV} {d : TypeDesc} (hd : (∃ kk n, k = .int kk n ∧ d = .int kk) ∨ (∃ s, k = .str s ∧ d = .string)) : k.refs = [] := by
  rcases hd with ⟨_, _, rfl, _⟩ | ⟨_, rfl, _⟩ <;> simp [AV.refs]

theorem run_keyStays {o k : Value} (h1 : Instr.sameBits 10000 o k = true) : (Instr.keyThatStays o k).run P w = .ok k w := by
  simp [Instr.keyThatStays, h1]

theorem op_mapUpdate (R : Rel σ π w h) (t : Nat) (x k v : AV) (xu ku vu : Value) (hx : VR σ π w x xu) (hk : VR σ π w k ku) (hv : VR σ π w v vu) (e : (aMapUpdate (tiOf P) t x k v).run h = some (δ, L)) :
    OpDone P (do Instr.mapUpdate t xu ku vu; pure .skip) σ π w h n δ := by
  unfold aMapUpdate at e
  split at e
  · rename_i kt et sz bts z cmp hst
    obtain ⟨d, inf, h1, h2, he⟩ := ti_spec hst
    simp only [TI.mk.injEq] at he
    obtain rfl := tk_map he.1.symm
    split at e
    · rename_i hcd
      obtain ⟨hsk, hvr⟩ := hcd
      obtain ⟨dk, hdk, hkd⟩ := scalar_key hsk
      split at e
      · rename_i b
        obtain ⟨y, L', hy, e5, _⟩ := am_rd e
        split at e5
        · rename_i es cl
          cases hx with
          | mp _ l hl =>
            obtain ⟨C, c1, c2, c3⟩ := ents_of R hy hl
            split at e5
            · rename_i j v0 born hm
              have hδ := am_ret e5; subst hδ
              rcases find_now hk hkd c2 hm with ⟨hh, _⟩ | ⟨j', v', b', k', ee, hh, a1, a2, a3, a4⟩
              · cases hh
              · simp only [Option.some.injEq, Prod.mk.injEq, Nat.zero_add] at hh a3
                obtain ⟨rfl, rfl, rfl⟩ := hh
                have hfk := Go.MapKept.run_findKey (P := P) (w := w) (kt := kt) (k := ku) hdk a3
                obtain ⟨_, hv0, hbn, _⟩ := c2.2 j k' v0 born ee a1 a2
                have ha2 : C[j]? = some ee := by simpa using a2
                refine ⟨_, _, _, σ, π, run_u (w' := World.setMap w l.blk (C.modify j fun e => { e with key := ku, val := vu }) cl) ?_, .inr ⟨rfl, rfl⟩, undef_vr _ _ _,
                  map_write R hy hl c1 (ents_set c2 ha2 hbn hk hv (key_refs hkd) hvr (by simp [hbn])) _⟩
                simp [Instr.mapUpdate, run_underlying h1, check_key hdk hk hkd, run_getObj_map c1, hfk, ha2, run_keyStays a4, run_setObj_map c1]
            · rename_i hm
              have hδ := am_ret e5; subst hδ
              rcases find_now hk hkd c2 hm with ⟨_, hf⟩ | ⟨j', v', b', k', ee, hh, _⟩
              · have hfk := Go.MapKept.run_findKey (P := P) (w := w) (kt := kt) (k := ku) hdk hf
                refine ⟨_, _, _, σ, π, run_u (w' := World.setMap w l.blk (C.push { key := ku, val := vu, born := cl }) (cl + 1)) ?_, .inr ⟨rfl, rfl⟩, undef_vr _ _ _,
                  map_write R hy hl c1 (ents_push c2 hk hv (key_refs hkd) hvr) _⟩
                simp [Instr.mapUpdate, run_underlying h1, check_key hdk hk hkd, run_getObj_map c1, hfk, run_setObj_map c1]
              · cases hh
            · exact (am_fail e5).elim
        · exact (am_fail e5).elim
      · exact (am_fail e).elim
    · exact (am_fail e).elim
  · exact (am_fail e).elim

end
end Go.Ws
