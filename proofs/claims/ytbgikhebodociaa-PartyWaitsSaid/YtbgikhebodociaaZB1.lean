/-
  The abstract machine and its soundness, part 1.
  Conditions: none.
-/
import Derived.Test.YtbgikhebodociaaZB0
import Derived.Orders
import Derived.LoopN
import Derived.WalkKit
import Derived.ProofKit
import Derived.OpenShut
import Derived.ReadAgain
import Derived.ChangeBears
import Derived.ChangeArms
set_option linter.unusedVariables false
set_option linter.unusedSimpArgs false
namespace Go.Ws
set_option linter.unusedVariables false
set_option linter.unusedSimpArgs false

section
variable {P : Program} {σ : Sig} {π : Prot} {w : World} {h : Nat → Option Blk} {n : Nat} {δ : Delta} {L : List Nat}

theorem bytes_eq {a b : ByteArray} (h : (a == b) = true) : a = b := by
  rw [beq_toListBytes, ByteArray.toList_eq, ByteArray.toList_eq] at h
  have := eq_of_beq h
  exact ByteArray.ext (Array.ext' this)

/-- The entries, place by place. -/
def EntsR (σ : Sig) (π : Prot) (w : World) (es : List (AV × AV × Nat)) (C : List MapEntry) : Prop :=
  C.length = es.length ∧ ∀ (i : Nat) k v born e, es[i]? = some (k, v, born) → C[i]? = some e → VR σ π w k e.key ∧ VR σ π w v e.val ∧ e.born = born ∧ v.refs = [] ∧ k.refs = []

theorem EntsR.mono {σ' : Sig} {π' : Prot} {w' : World} (E : Ext σ π w σ' π' w') {es : List (AV × AV × Nat)} {C : List MapEntry} (k : EntsR σ π w es C) : EntsR σ' π' w' es C :=
  ⟨k.1, fun i kk v born e h1 h2 => let ⟨a, b, c⟩ := k.2 i kk v born e h1 h2; ⟨a.mono E, b.mono E, c⟩⟩

theorem key_now {d : TypeDesc} {k k' : AV} {ku ku' : Value} (hk : VR σ π w k ku) (hk' : VR σ π w k' ku') {b : Bool} (e : keyEq k k' = some b) (hd : (∃ kk n, k = .int kk n ∧ d = .int kk) ∨ (∃ s, k = .str s ∧ d = .string)) :
    Instr.sameNow d ku ku' = some b ∧ (b = true → Instr.sameBits 10000 ku' ku = true) := by
  unfold keyEq at e
  split at e
  · split at e
    · rename_i hkk
      subst hkk
      cases e
      cases hk; cases hk'
      rcases hd with ⟨kk, n, hh, rfl⟩ | ⟨s, hh, _⟩
      · refine ⟨by simp [Instr.sameNow], fun hb => ?_⟩
        have := eq_of_beq hb
        subst this
        simp [Instr.sameBits]
      · cases hh
    · cases e
  · cases e
    cases hk; cases hk'
    rcases hd with ⟨kk, n, hh, _⟩ | ⟨s, hh, rfl⟩
    · cases hh
    · refine ⟨by simp [Instr.sameNow], fun hb => ?_⟩
      have h2 := bytes_eq hb
      subst h2
      simpa [Instr.sameBits] using hb
  · cases hk; cases hk'
    rcases hd with ⟨kk, n, hh, _⟩ | ⟨s, hh, _⟩ <;> cases hh
  · cases e

theorem find_now {d : TypeDesc} {k : AV} {ku : Value} (hk : VR σ π w k ku) (hd : (∃ kk n, k = .int kk n ∧ d = .int kk) ∨ (∃ s, k = .str s ∧ d = .string)) :
    ∀ {es : List (AV × AV × Nat)} {C : List MapEntry} {i : Nat} {r : Option (Nat × AV × Nat)}, EntsR σ π w es C → mFind k es i = some r →
      (r = none ∧ Instr.findNow d ku C i = some none) ∨ (∃ j v b k' e, r = some (i + j, v, b) ∧ es[j]? = some (k', v, b) ∧ C[j]? = some e ∧ Instr.findNow d ku C i = some (some (i + j, e.val)) ∧ Instr.sameBits 10000 e.key ku = true)
  | [], C, i, r, hC, e => by
    obtain rfl : C = [] := List.eq_nil_of_length_eq_zero hC.1
    simp [mFind] at e
    subst e
    exact .inl ⟨rfl, rfl⟩
  | (k', v, b) :: es, C, i, r, hC, e => by
    cases C with
    | nil => have := hC.1; simp at this
    | cons c C =>
      obtain ⟨h1, h2, h3, _⟩ := hC.2 0 k' v b c rfl rfl
      have hC' : EntsR σ π w es C := ⟨by have := hC.1; simpa using this, fun j kk vv bb ee a1 a2 => hC.2 (j + 1) kk vv bb ee (by simpa using a1) (by simpa using a2)⟩
      simp only [mFind] at e
      split at e
      · rename_i hke
        cases e
        obtain ⟨q1, q2⟩ := key_now hk h1 hke hd
        exact .inr ⟨0, v, b, k', c, rfl, rfl, rfl, by simp [Instr.findNow, q1], q2 rfl⟩
      · rename_i hke
        obtain ⟨q1, _⟩ := key_now hk h1 hke hd
        rcases find_now hk hd hC' e with ⟨rfl, hf⟩ | ⟨j, v', b', k'', ee, rfl, a1, a2, a3, a4⟩
        · exact .inl ⟨rfl, by simp [Instr.findNow, q1, hf]⟩
        · refine .inr ⟨j + 1, v', b', k'', ee, by rw [show i + 1 + j = i + (j + 1) by omega], by simpa using a1, by simpa using a2, ?_, a4⟩
          simp only [Instr.findNow, q1, a3]
          rw [show i + 1 + j = i + (j + 1) by omega]
      · cases e

theorem scalar_key {kt : Nat} {k : AV} (e : scalarKey (tiOf P) kt k = true) : ∃ d, P.underlying kt = some d ∧ ((∃ kk n, k = .int kk n ∧ d = .int kk) ∨ (∃ s, k = .str s ∧ d = .string)) := by
  unfold scalarKey at e
  split at e
  · split at e
    · rename_i kk n k' sz bts z cmp hi
      obtain ⟨d, inf, h1, h2, he⟩ := ti_spec hi
      simp only [TI.mk.injEq] at he
      obtain rfl := tk_int he.1.symm
      have := eq_of_beq e
      subst this
      exact ⟨_, h1, .inl ⟨_, _, rfl, rfl⟩⟩
    · cases e
  · split at e
    · rename_i sz bts z cmp hi
      obtain ⟨d, inf, h1, h2, he⟩ := ti_spec hi
      simp only [TI.mk.injEq] at he
      obtain rfl := tk_str he.1.symm
      exact ⟨_, h1, .inr ⟨_, rfl, rfl⟩⟩
    · cases e
  · cases e

theorem check_key {kt : Nat} {d : TypeDesc} (h1 : P.underlying kt = some d) {k : AV} {ku : Value} (hk : VR σ π w k ku) (hd : (∃ kk n, k = .int kk n ∧ d = .int kk) ∨ (∃ s, k = .str s ∧ d = .string)) (em : Bool) : (Instr.checkKey em 10000 kt ku).run P w = .ok () w := by
  have key : ∀ m, (Instr.checkKey em (m + 1) kt ku).run P w = .ok () w := by
    intro m
    rcases hd with ⟨kk, n, rfl, rfl⟩ | ⟨s, rfl, rfl⟩ <;> cases hk <;> simp [Instr.checkKey, run_underlying h1]
  exact key 9999

theorem run_getObj_map {r : Nat} {C : Array MapEntry} {cl : Nat} (hg : w.heap[r]? = some (.map C cl)) : (getObj r).run P w = .ok (.map C cl) w := by
  simp [getObj, Sem.run, hg]

theorem ents_of {b : Nat} {es : List (AV × AV × Nat)} {cl : Nat} (R : Rel σ π w h) (hb : h b = some (.map es cl)) {l : Loc} (hl : σ b 0 = some l) : ∃ C, w.heap[l.blk]? = some (.map C cl) ∧ EntsR σ π w es C.toList ∧ (∀ o, ¬ π l.blk o) := by
  obtain ⟨l', C, q1, q2, q3, q4, q5⟩ := R.blk b _ hb
  rw [hl] at q1
  cases q1
  exact ⟨C, q2, ⟨by rw [Array.length_toList]; exact q3, fun i k v born e h1 h2 => q5 i k v born e h1 (by simpa using h2)⟩, q4⟩

theorem op_lookup (R : Rel σ π w h) (t : Nat) (x k : AV) (ok : Bool) (xu ku : Value) (hx : VR σ π w x xu) (hk : VR σ π w k ku) (e : (aLookup (tiOf P) t x k ok).run h = some (δ, L)) :
    OpDone P (do pure (.value (← Instr.lookup t xu ku ok))) σ π w h n δ := by
  unfold aLookup at e
  split at e
  · rename_i kt et sz bts z cmp hst
    obtain ⟨d, inf, h1, h2, he⟩ := ti_spec hst
    simp only [TI.mk.injEq] at he
    obtain rfl := tk_map he.1.symm
    split at e
    · rename_i hsk
      obtain ⟨dk, hdk, hkd⟩ := scalar_key hsk
      split at e
      · rename_i ei hei
        obtain ⟨de, infe, e1, e2, rfl⟩ := ti_spec hei
        split at e
        · rename_i zc hzc
          obtain ⟨zv, hzv, hzvr⟩ := zero_facts (e := et) hzc
          have hz := (hzvr σ π w).1
          have hzr : (zeroValue et).run P w = .ok zv w := by simp [zeroValue, typeInfo, e2, hzv]
          have hmiss : ∀ (s : Sem Value), (s.run P w = .ok (if ok then .tuple #[zv, .bool false] else zv) w) → OpDone P (do pure (.value (← s))) σ π w h n ⟨if ok then .tup [zc, .bool false] else zc, [], []⟩ := by
            intro s hs
            cases ok with
            | false => exact opdone_pure R hs hz
            | true =>
              refine opdone_pure R hs (.tup _ _ rfl (fun i v u h3 h4 => ?_))
              rcases i with _ | _ | i
              · simp at h3 h4; subst h3; subst h4; exact hz
              · simp at h3 h4; subst h3; subst h4; exact .bool _
              · simp at h3
          split at e
          · have hδ := am_val e; subst hδ
            cases hx
            refine hmiss _ ?_
            have hfk := Go.MapKept.run_findKey (P := P) (w := w) (kt := kt) (k := ku) (l := []) (a := none) hdk rfl
            simp [Instr.lookup, run_underlying h1, check_key hdk hk hkd, hfk, hzr]
          · rename_i b
            obtain ⟨y, L', hy, e5, _⟩ := am_rd e
            split at e5
            · rename_i es cl
              cases hx with
              | mp _ l hl =>
                obtain ⟨C, c1, c2, c3⟩ := ents_of R hy hl
                split at e5
                · rename_i j v born hm
                  have hδ := am_val e5; subst hδ
                  rcases find_now hk hkd c2 hm with ⟨hh, _⟩ | ⟨j', v', b', k', ee, hh, a1, a2, a3, a4⟩
                  · cases hh
                  · simp only [Option.some.injEq, Prod.mk.injEq] at hh
                    obtain ⟨_, rfl, _⟩ := hh
                    have hfk := Go.MapKept.run_findKey (P := P) (w := w) (kt := kt) (k := ku) hdk a3
                    obtain ⟨_, hv, _⟩ := c2.2 j' k' v b' ee a1 a2
                    have hs : (Instr.lookup t (.map (some l.blk)) ku ok).run P w = .ok (if ok then .tuple #[ee.val, .bool true] else ee.val) w := by
                      simp [Instr.lookup, run_underlying h1, check_key hdk hk hkd, run_getObj_map c1, hfk]
                    cases ok with
                    | false => exact opdone_pure R hs hv
                    | true =>
                      refine opdone_pure R hs (.tup _ _ rfl (fun i v u h3 h4 => ?_))
                      rcases i with _ | _ | i
                      · simp at h3 h4; subst h3; subst h4; exact hv
                      · simp at h3 h4; subst h3; subst h4; exact .bool _
                      · simp at h3
                · rename_i hm
                  have hδ := am_val e5; subst hδ
                  rcases find_now hk hkd c2 hm with ⟨_, hf⟩ | ⟨j', v', b', k', ee, hh, _⟩
                  · have hfk := Go.MapKept.run_findKey (P := P) (w := w) (kt := kt) (k := ku) hdk hf
                    refine hmiss _ ?_
                    simp [Instr.lookup, run_underlying h1, check_key hdk hk hkd, run_getObj_map c1, hfk, hzr]
                  · cases hh
                · exact (am_fail e5).elim
            · exact (am_fail e5).elim
          · exact (am_fail e).elim
        · exact (am_fail e).elim
      · exact (am_fail e).elim
    · exact (am_fail e).elim
  · exact (am_fail e).elim

/-- A map is another. -/
def World.setMap (w : World) (r : Nat) (C : Array MapEntry) (cl : Nat) : World := { w with heap := w.heap.setIfInBounds r (.map C cl) }

theorem run_setObj_map {r : Nat} {C C' : Array MapEntry} {cl cl' : Nat} (hg : w.heap[r]? = some (.map C cl)) : (setObj r (.map C' cl')).run P w = .ok () (World.setMap w r C' cl') := by
  simp [setObj, Sem.run, hg, World.setMap]

theorem map_write (R : Rel σ π w h) {b : Nat} {es es' : List (AV × AV × Nat)} {cl cl' : Nat} (hb : h b = some (.map es cl)) {l : Loc} (hl : σ b 0 = some l) {C C' : Array MapEntry} (hg : w.heap[l.blk]? = some (.map C cl)) (hE : EntsR σ π w es' C'.toList) (v : AV) :
    Done σ π w σ π (World.setMap w l.blk C' cl') (updF h n ⟨v, [(b, .map es' cl')], []⟩) := by
  obtain ⟨C0, c1, c2, c3⟩ := ents_of R hb hl
  have hlt := lt_of_heap hg
  have hother : ∀ B, B ≠ l.blk → (World.setMap w l.blk C' cl').heap[B]? = w.heap[B]? := fun B hne => by simp [World.setMap, Array.getElem?_setIfInBounds_ne (Ne.symm hne)]
  have hthis : (World.setMap w l.blk C' cl').heap[l.blk]? = some (.map C' cl') := by simp [World.setMap, hlt]
  have E : Ext σ π w σ π (World.setMap w l.blk C' cl') := by
    refine ⟨fun _ _ _ h => h, fun _ _ h => h, fun B o hB => cell_of_heap (hother B (fun e => c3 o (e ▸ hB))), fun b' g l' C1 e fr q1 q2 => ?_⟩
    by_cases hne : l'.blk = l.blk
    · rw [hne, hg] at q2; cases q2
    · exact ⟨C1, (hother _ hne).trans q2, rfl⟩
  refine rel_change R hb v E (fun _ _ _ => rfl) (fun g l' hl' => .inl ⟨g, l', hl', rfl⟩) (fun B _ hn => hother B (fun e => hn 0 l hl e.symm)) (by simp [World.setMap]) rfl rfl rfl ?_
  have hE' := hE.mono E
  exact ⟨l, C', hl, hthis, by have := hE'.1; rwa [Array.length_toList] at this, c3, fun i k v born e h1 h2 => hE'.2 i k v born e h1 (by simpa using h2)⟩

theorem ents_set {es : List (AV × AV × Nat)} {C : Array MapEntry} (hC : EntsR σ π w es C.toList) {j : Nat} {e : MapEntry} (he : C[j]? = some e) {k v : AV} {ku vu : Value} {born : Nat} (hb : e.born = born) (hk : VR σ π w k ku) (hv : VR σ π w v vu) (hkr : k.refs = []) (hvr : v.refs = []) {f : MapEntry → MapEntry}
    (hf : f e = { key := ku, val := vu, born := born }) : EntsR σ π w (es.set j (k, v, born)) (C.modify j f).toList := by
  have hj : j < C.size := (Array.getElem?_eq_some_iff.1 he).1
  refine ⟨by have := hC.1; simp at this ⊢; exact this, fun i kk vv bb ee h1 h2 => ?_⟩
  rw [Array.getElem?_toList, Array.getElem?_modify] at h2
  by_cases hij : j = i
  · subst hij
    rw [List.getElem?_set_self (by have := hC.1; simp at this; omega)] at h1
    cases h1
    rw [if_pos rfl, he] at h2
    simp only [Option.map_some, Option.some.injEq] at h2
    rw [hf] at h2
    subst h2
    exact ⟨hk, hv, rfl, hvr, hkr⟩
  · rw [List.getElem?_set_ne hij] at h1
    rw [if_neg hij] at h2
    exact hC.2 i kk vv bb ee h1 (by simpa using h2)

theorem ents_push {es : List (AV × AV × Nat)} {C : Array MapEntry} (hC : EntsR σ π w es C.toList) {k v : AV} {ku vu : Value} {born : Nat} (hk : VR σ π w k ku) (hv : VR σ π w v vu) (hkr : k.refs = []) (hvr : v.refs = []) :
    EntsR σ π w (es ++ [(k, v, born)]) (C.push { key := ku, val := vu, born := born }).toList := by
  have hl := hC.1
  simp only [Array.length_toList] at hl
  refine ⟨by simp [hl], fun i kk vv bb ee h1 h2 => ?_⟩
  rw [Array.toList_push] at h2
  rcases Nat.lt_or_ge i es.length with hlt | hge
  · rw [List.getElem?_append_left hlt] at h1
    rw [List.getElem?_append_left (by simp; omega)] at h2
    exact hC.2 i kk vv bb ee h1 h2
  · rw [List.getElem?_append_right hge] at h1
    rw [List.getElem?_append_right (by simp; omega)] at h2
    simp only [Array.length_toList, hl] at h2
    rcases hq : i - es.length with _ | q
    · rw [hq] at h1 h2
      simp at h1 h2
      obtain ⟨rfl, rfl, rfl⟩ := h1
      subst h2
      exact ⟨hk, hv, rfl, hvr, hkr⟩
    · rw [hq] at h1
      simp at h1

theorem key_refs {k : AV} {d : TypeDesc} (hd : (∃ kk n, k = .int kk n ∧ d = .int kk) ∨ (∃ s, k = .str s ∧ d = .string)) : k.refs = [] := by
  rcases hd with ⟨_, _, rfl, _⟩ | ⟨_, rfl, _⟩ <;> simp [AV.refs]

theorem run_keyStays {o k : Value} (h1 : Instr.sameBits 10000 o k = true) : (Instr.keyThatStays o k).run P w = .ok k w := by
  simp [Instr.keyThatStays, h1]

theorem op_mapUpdate (R : Rel σ π w h) (t : Nat) (x k v : AV) (xu ku vu : Value) (hx : VR σ π w x xu) (hk : VR σ π w k ku) (hv : VR σ π w v vu) (e : (aMapUpdate (tiOf P) t x k v).run h = some (δ, L)) :
    OpDone P (do Instr.mapUpdate t xu ku vu; pure .skip) σ π w h n δ := by
  unfold aMapUpdate at e
  split at e
  · rename_i kt et sz bts z cmp hst
    obtain ⟨d, inf, h1, h2, he⟩ := ti_spec hst
    simp only [TI.mk.injEq] at he
    obtain rfl := tk_map he.1.symm
    split at e
    · rename_i hcd
      obtain ⟨hsk, hvr⟩ := hcd
      obtain ⟨dk, hdk, hkd⟩ := scalar_key hsk
      split at e
      · rename_i b
        obtain ⟨y, L', hy, e5, _⟩ := am_rd e
        split at e5
        · rename_i es cl
          cases hx with
          | mp _ l hl =>
            obtain ⟨C, c1, c2, c3⟩ := ents_of R hy hl
            split at e5
            · rename_i j v0 born hm
              have hδ := am_ret e5; subst hδ
              rcases find_now hk hkd c2 hm with ⟨hh, _⟩ | ⟨j', v', b', k', ee, hh, a1, a2, a3, a4⟩
              · cases hh
              · simp only [Option.some.injEq, Prod.mk.injEq, Nat.zero_add] at hh a3
                obtain ⟨rfl, rfl, rfl⟩ := hh
                have hfk := Go.MapKept.run_findKey (P := P) (w := w) (kt := kt) (k := ku) hdk a3
                obtain ⟨_, hv0, hbn, _⟩ := c2.2 j k' v0 born ee a1 a2
                have ha2 : C[j]? = some ee := by simpa using a2
                refine ⟨_, _, _, σ, π, run_u (w' := World.setMap w l.blk (C.modify j fun e => { e with key := ku, val := vu }) cl) ?_, .inr ⟨rfl, rfl⟩, undef_vr _ _ _,
                  map_write R hy hl c1 (ents_set c2 ha2 hbn hk hv (key_refs hkd) hvr (by simp [hbn])) _⟩
                simp [Instr.mapUpdate, run_underlying h1, check_key hdk hk hkd, run_getObj_map c1, hfk, ha2, run_keyStays a4, run_setObj_map c1]
            · rename_i hm
              have hδ := am_ret e5; subst hδ
              rcases find_now hk hkd c2 hm with ⟨_, hf⟩ | ⟨j', v', b', k', ee, hh, _⟩
              · have hfk := Go.MapKept.run_findKey (P := P) (w := w) (kt := kt) (k := ku) hdk hf
                refine ⟨_, _, _, σ, π, run_u (w' := World.setMap w l.blk (C.push { key := ku, val := vu, born := cl }) (cl + 1)) ?_, .inr ⟨rfl, rfl⟩, undef_vr _ _ _,
                  map_write R hy hl c1 (ents_push c2 hk hv (key_refs hkd) hvr) _⟩
                simp [Instr.mapUpdate, run_underlying h1, check_key hdk hk hkd, run_getObj_map c1, hfk, run_setObj_map c1]
              · cases hh
            · exact (am_fail e5).elim
        · exact (am_fail e5).elim
      · exact (am_fail e).elim
    · exact (am_fail e).elim
  · exact (am_fail e).elim

end
end Go.Ws

namespace Go.Ws
set_option linter.unusedVariables false
set_option linter.unusedSimpArgs false

section
variable {P : Program} {σ : Sig} {π : Prot} {w : World} {h : Nat → Option Blk} {n : Nat} {δ : Delta} {L : List Nat}

theorem vr_pair {a b : AV} {au bu : Value} (ha : VR σ π w a au) (hb : VR σ π w b bu) : VR σ π w (.tup [a, b]) (.tuple #[au, bu]) := by
  refine .tup _ _ rfl (fun i v u h3 h4 => ?_)
  rcases i with _ | _ | i
  · simp at h3 h4; subst h3; subst h4; exact ha
  · simp at h3 h4; subst h3; subst h4; exact hb
  · simp at h3

theorem op_mapEntry (R : Rel σ π w h) (t : Nat) (x k : AV) (xu ku : Value) (hx : VR σ π w x xu) (hk : VR σ π w k ku) (e : (aMapEntry (tiOf P) t x k).run h = some (δ, L)) :
    OpDone P (do pure (.value (← Instr.mapEntry t xu ku))) σ π w h n δ := by
  unfold aMapEntry at e
  split at e
  · rename_i kt et sz bts z cmp hst
    obtain ⟨d, inf, h1, h2, he⟩ := ti_spec hst
    simp only [TI.mk.injEq] at he
    obtain rfl := tk_map he.1.symm
    split at e
    · rename_i hsk
      obtain ⟨dk, hdk, hkd⟩ := scalar_key hsk
      split at e
      · rename_i ei hei
        obtain ⟨de, infe, e1, e2, rfl⟩ := ti_spec hei
        split at e
        · rename_i zc hzc
          obtain ⟨zv, hzv, hzvr⟩ := zero_facts (e := et) hzc
          have hzr : ∀ w1, (zeroValue et).run P w1 = .ok zv w1 := fun w1 => by simp [zeroValue, typeInfo, e2, hzv]
          split at e
          · rename_i hzrf
            split at e
            · rename_i b
              obtain ⟨y, L', hy, e5, _⟩ := am_rd e
              split at e5
              · rename_i es cl
                cases hx with
                | mp _ l hl =>
                  obtain ⟨C, c1, c2, c3⟩ := ents_of R hy hl
                  split at e5
                  · rename_i j v0 born hm
                    have hδ := am_ret e5; subst hδ
                    rcases find_now hk hkd c2 hm with ⟨hh, _⟩ | ⟨j', v', b', k', ee, hh, a1, a2, a3, a4⟩
                    · cases hh
                    · simp only [Option.some.injEq, Prod.mk.injEq, Nat.zero_add] at hh a3
                      obtain ⟨rfl, rfl, rfl⟩ := hh
                      have hfk := Go.MapKept.run_findKey (P := P) (w := w) (kt := kt) (k := ku) hdk a3
                      obtain ⟨_, hv0, hbn, hvr, _⟩ := c2.2 j k' v0 born ee a1 a2
                      have ha2 : C[j]? = some ee := by simpa using a2
                      have hD := map_write (n := n) R hy hl c1 (ents_set (f := fun e => { e with key := ku }) c2 ha2 hbn hk hv0 (key_refs hkd) hvr (by simp [← hbn])) (cl' := cl) (.tup [v0, .int .i64 born])
                      refine ⟨_, .tuple #[ee.val, goInt born], _, σ, π, run_v (w' := World.setMap w l.blk (C.modify j fun e => { e with key := ku }) cl) ?_, .inl rfl, vr_pair (hv0.mono hD.ext) (.int _ _), hD⟩
                      simp [Instr.mapEntry, run_underlying h1, check_key hdk hk hkd, run_getObj_map c1, hfk, ha2, run_keyStays a4, run_setObj_map c1, hbn]
                  · rename_i hm
                    have hδ := am_ret e5; subst hδ
                    rcases find_now hk hkd c2 hm with ⟨_, hf⟩ | ⟨j', v', b', k', ee, hh, _⟩
                    · have hfk := Go.MapKept.run_findKey (P := P) (w := w) (kt := kt) (k := ku) hdk hf
                      have hD := map_write (n := n) R hy hl c1 (ents_push (born := cl) c2 hk (hzvr σ π w).1 (key_refs hkd) hzrf) (cl' := cl + 1) (.tup [zc, .int .i64 cl])
                      refine ⟨_, .tuple #[zv, goInt cl], _, σ, π, run_v (w' := World.setMap w l.blk (C.push { key := ku, val := zv, born := cl }) (cl + 1)) ?_, .inl rfl, vr_pair (hzvr _ _ _).1 (.int _ _), hD⟩
                      simp [Instr.mapEntry, run_underlying h1, check_key hdk hk hkd, run_getObj_map c1, hfk, run_setObj_map c1, hzr]
                    · cases hh
                  · exact (am_fail e5).elim
              · exact (am_fail e5).elim
            · exact (am_fail e).elim
          · exact (am_fail e).elim
        · exact (am_fail e).elim
      · exact (am_fail e).elim
    · exact (am_fail e).elim
  · exact (am_fail e).elim

theorem setBorn_spec {born : Int} {v : AV} : ∀ {es es' : List (AV × AV × Nat)} {C : List MapEntry}, EntsR σ π w es C → setBorn born v es = some es' →
    ∃ j k v0 b e, es[j]? = some (k, v0, b) ∧ C[j]? = some e ∧ C.findIdx? (fun e => (e.born : Int) == born) = some j ∧ es' = es.set j (k, v, b)
  | [], es', C, _, e => by simp [setBorn] at e
  | (k, v0, b) :: es, es', C, hC, e => by
    cases C with
    | nil => have := hC.1; simp at this
    | cons c C =>
      obtain ⟨_, _, h3, _⟩ := hC.2 0 k v0 b c rfl rfl
      have hC' : EntsR σ π w es C := ⟨by have := hC.1; simpa using this, fun j kk vv bb ee a1 a2 => hC.2 (j + 1) kk vv bb ee (by simpa using a1) (by simpa using a2)⟩
      simp only [setBorn] at e
      split at e
      · rename_i hb
        cases e
        exact ⟨0, k, v0, b, c, rfl, rfl, by simp [List.findIdx?_cons, h3, hb], rfl⟩
      · rename_i hb
        obtain ⟨es2, h4, rfl⟩ := Option.map_eq_some_iff.1 e
        obtain ⟨j, k', v', b', ee, q1, q2, q3, rfl⟩ := setBorn_spec hC' h4
        exact ⟨j + 1, k', v', b', ee, by simpa using q1, by simpa using q2, by simp [List.findIdx?_cons, h3, hb, q3], rfl⟩

theorem op_entryStore (R : Rel σ π w h) (t : Nat) (x s v : AV) (xu su vu : Value) (hx : VR σ π w x xu) (hs : VR σ π w s su) (hv : VR σ π w v vu) (e : (aEntryStore x s v).run h = some (δ, L)) :
    OpDone P (do Instr.entryStore t xu su vu; pure .skip) σ π w h n δ := by
  unfold aEntryStore at e
  split at e
  · rename_i b kk born
    split at e
    · rename_i hvr
      obtain ⟨y, L', hy, e5, _⟩ := am_rd e
      split at e5
      · rename_i es cl
        split at e5
        · rename_i es' hsb
          have hδ := am_ret e5; subst hδ
          cases hs
          cases hx with
          | mp _ l hl =>
            obtain ⟨C, c1, c2, c3⟩ := ents_of R hy hl
            obtain ⟨j, k, v0, b0, ee, q1, q2, q3, rfl⟩ := setBorn_spec c2 hsb
            obtain ⟨hk0, _, hbn, _, hkr⟩ := c2.2 j k v0 b0 ee q1 q2
            have ha2 : C[j]? = some ee := by simpa using q2
            have hfi : C.findIdx? (fun e => (e.born : Int) == born) = some j := by
              cases C with
              | mk l => simpa using q3
            have hD := map_write (n := n) R hy hl c1 (ents_set (f := fun e => { e with val := vu }) c2 ha2 hbn hk0 hv hkr hvr (by simp [← hbn])) (cl' := cl) undefA
            refine ⟨_, _, _, σ, π, run_u (w' := World.setMap w l.blk (C.modify j fun e => { e with val := vu }) cl) ?_, .inr ⟨rfl, rfl⟩, undef_vr _ _ _, hD⟩
            simp [Instr.entryStore, run_getObj_map c1, asInt, asIntOf, hfi, run_setObj_map c1]
        · exact (am_fail e5).elim
      · exact (am_fail e5).elim
    · exact (am_fail e).elim
  · exact (am_fail e).elim

theorem ents_erase {es : List (AV × AV × Nat)} {C : List MapEntry} (hC : EntsR σ π w es C) (j : Nat) : EntsR σ π w (es.eraseIdx j) (C.eraseIdx j) := by
  refine ⟨by simp [List.length_eraseIdx, hC.1], fun i k v b e h1 h2 => ?_⟩
  rw [List.getElem?_eraseIdx] at h1 h2
  by_cases hij : i < j
  · rw [if_pos hij] at h1 h2
    exact hC.2 i k v b e h1 h2
  · rw [if_neg hij] at h1 h2
    exact hC.2 (i + 1) k v b e h1 h2

theorem op_delete (R : Rel σ π w h) (t ty : Nat) (ts : Array TypeId) (x k : AV) (xu ku : Value) (hts : ts[0]? = some t) (hx : VR σ π w x xu) (hk : VR σ π w k ku) (e : (aDelete (tiOf P) t x k).run h = some (δ, L)) :
    OpDone P (do pure (.value (← Builtin.delete_ ts ty #[xu, ku]))) σ π w h n δ := by
  unfold aDelete at e
  split at e
  · rename_i kt et sz bts z cmp hst
    obtain ⟨d, inf, h1, h2, he⟩ := ti_spec hst
    simp only [TI.mk.injEq] at he
    obtain rfl := tk_map he.1.symm
    split at e
    · rename_i hsk
      obtain ⟨dk, hdk, hkd⟩ := scalar_key hsk
      split at e
      · have hδ := am_val e; subst hδ
        cases hx
        exact opdone_pure R (u := undef) (by simp [Builtin.delete_, hts, run_underlying h1, check_key hdk hk hkd, undef]) (undef_vr _ _ _)
      · rename_i b
        obtain ⟨y, L', hy, e5, _⟩ := am_rd e
        split at e5
        · rename_i es cl
          cases hx with
          | mp _ l hl =>
            obtain ⟨C, c1, c2, c3⟩ := ents_of R hy hl
            split at e5
            · rename_i j v0 born hm
              have hδ := am_ret e5; subst hδ
              rcases find_now hk hkd c2 hm with ⟨hh, _⟩ | ⟨j', v', b', k', ee, hh, a1, a2, a3, a4⟩
              · cases hh
              · simp only [Option.some.injEq, Prod.mk.injEq, Nat.zero_add] at hh a3
                obtain ⟨rfl, rfl, rfl⟩ := hh
                have hfk := Go.MapKept.run_findKey (P := P) (w := w) (kt := kt) (k := ku) hdk a3
                have hD := map_write (n := n) R hy hl c1 (C' := C.eraseIdxIfInBounds j) (cl' := cl) (by
                  have := ents_erase c2 j
                  cases C with
                  | mk l => simpa using this) undefA
                refine ⟨_, undef, _, σ, π, run_v (w' := World.setMap w l.blk (C.eraseIdxIfInBounds j) cl) ?_, .inl rfl, undef_vr _ _ _, hD⟩
                simp [Builtin.delete_, hts, run_underlying h1, check_key hdk hk hkd, run_getObj_map c1, hfk, run_setObj_map c1, undef]
            · rename_i hm
              have hδ := am_ret e5; subst hδ
              rcases find_now hk hkd c2 hm with ⟨_, hf⟩ | ⟨j', v', b', k', ee, hh, _⟩
              · have hfk := Go.MapKept.run_findKey (P := P) (w := w) (kt := kt) (k := ku) hdk hf
                have hD := map_write (n := n) R hy hl c1 (C' := C) (cl' := cl) c2 undefA
                refine ⟨_, undef, _, σ, π, run_v (w' := World.setMap w l.blk C cl) ?_, .inl rfl, undef_vr _ _ _, hD⟩
                simp [Builtin.delete_, hts, run_underlying h1, check_key hdk hk hkd, run_getObj_map c1, hfk, run_setObj_map c1, undef]
              · cases hh
            · exact (am_fail e5).elim
        · exact (am_fail e5).elim
      · exact (am_fail e).elim
    · exact (am_fail e).elim
  · exact (am_fail e).elim

theorem op_makeMap (R : Rel σ π w h) (hn : h n = none) (t : Nat) : OpDone P (do pure (.value (← Instr.makeMap t none))) σ π w h n ⟨.mp n, [], [.map [] 0]⟩ := by
  have hnon := R.non n hn
  have E : Ext σ π w (σ.set n 0 ⟨w.heap.size, 0⟩) π (w.alloc (.map #[] 0)) := Ext.of_old (fun b g l hl => Sig.set_old (hnon 0) hl) R.prot R.lt (fun B hB => alloc_old w _ hB)
  refine ⟨_, .map (some w.heap.size), w.alloc (.map #[] 0), σ.set n 0 ⟨w.heap.size, 0⟩, π, run_v rfl, .inl rfl, .mp n ⟨w.heap.size, 0⟩ (Sig.set_same ..), ?_⟩
  refine rel_new R hn _ _ 0 _ (.map #[] 0) (fun B hB => alloc_old w _ hB) (alloc_size ..) (alloc_new ..) rfl rfl rfl ?_
  exact ⟨⟨w.heap.size, 0⟩, #[], Sig.set_same .., alloc_new w _, rfl, fun o ho => Nat.lt_irrefl _ (R.prot _ _ ho), fun i k v b e h1 => by simp at h1⟩

theorem op_min (R : Rel σ π w h) (op : Bool) (ts : Array TypeId) (ty : Nat) (x y : AV) (xu yu : Value) (hx : VR σ π w x xu) (hy : VR σ π w y yu) {v : AV} (e : aMin op x y = some v) :
    (op = true → OpDone P (do pure (.value (← Builtin.max_ ts ty #[xu, yu]))) σ π w h n ⟨v, [], []⟩) ∧ (op = false → OpDone P (do pure (.value (← Builtin.min_ ts ty #[xu, yu]))) σ π w h n ⟨v, [], []⟩) := by
  unfold aMin at e
  split at e
  · cases hx; cases hy
    split at e
    · rename_i hk
      subst hk
      cases e
      refine ⟨fun ho => ?_, fun ho => ?_⟩
      · subst ho
        exact opdone_pure R (u := .int _ _) (by simp [Builtin.max_, Builtin.max2]) (.int _ _)
      · subst ho
        exact opdone_pure R (u := .int _ _) (by simp [Builtin.min_, Builtin.min2]) (.int _ _)
    · cases e
  · cases e

theorem op_cap (R : Rel σ π w h) (t ty : Nat) (x : AV) (xu : Value) (hx : VR σ π w x xu) (e : (aCap (tiOf P) t x).run h = some (δ, L)) :
    OpDone P (do pure (.value (← Builtin.cap_ #[t] ty #[xu]))) σ π w h n δ := by
  unfold aCap at e
  split at e
  · rename_i el sz bts z cmp hst
    obtain ⟨d, inf, h1, h2, he⟩ := ti_spec hst
    simp only [TI.mk.injEq] at he
    obtain rfl := tk_slice he.1.symm
    split at e
    · have hδ := am_val e; subst hδ
      cases hx
      exact opdone_pure R (u := .int .i64 0) (by simp [Builtin.cap_, run_underlying h1, goInt]) (.int _ _)
    · have hδ := am_val e; subst hδ
      cases hx
      exact opdone_pure R (u := .int .i64 0) (by simp [Builtin.cap_, run_underlying h1, goInt]) (.int _ _)
    · exact (am_fail e).elim
  · exact (am_fail e).elim

end
end Go.Ws

namespace Go.Ws
set_option linter.unusedVariables false
set_option linter.unusedSimpArgs false

theorem refsL_mem {v : AV} : ∀ {l : List AV}, v ∈ l → ∀ b ∈ v.refs, b ∈ AV.refsL l
  | x :: l, hv, b, hb => by
    simp only [AV.refsL, List.mem_append]
    rcases List.mem_cons.1 hv with rfl | hv
    · exact .inl hb
    · exact .inr (refsL_mem hv b hb)

theorem refsL_nil_mem {v : AV} {l : List AV} (h : AV.refsL l = []) (hv : v ∈ l) : v.refs = [] := by
  apply List.eq_nil_iff_forall_not_mem.2
  intro b hb
  have := refsL_mem hv b hb
  rw [h] at this
  cases this

theorem renL_get (r : Nat → Nat) : ∀ (l : List AV) (i : Nat), (AV.renL r l)[i]? = (l[i]?).map (AV.ren r)
  | [], i => by simp [AV.renL]
  | v :: l, 0 => by simp [AV.renL]
  | v :: l, i + 1 => by simpa [AV.renL] using renL_get r l i

theorem renL_length (r : Nat → Nat) : ∀ (l : List AV), (AV.renL r l).length = l.length
  | [] => rfl
  | v :: l => by simp [AV.renL, renL_length r l]

mutual
theorem ren_id (r : Nat → Nat) : ∀ (v : AV), v.refs = [] → v.ren r = v
  | .bool _, _ => rfl | .int _ _, _ => rfl | .str _, _ => rfl | .nilp, _ => rfl
  | .hp _ _, h => by simp [AV.refs] at h
  | .ep _ _ _ _ _, h => by simp [AV.refs] at h
  | .ip _ _ _ _, _ => rfl | .nils, _ => rfl | .emps, _ => rfl | .zs, _ => rfl | .any, _ => rfl | .inl _ _, _ => rfl
  | .ref _ _ _ _ _ _, h => by simp [AV.refs] at h
  | .mapn, _ => rfl
  | .mp _, h => by simp [AV.refs] at h
  | .fn f c, h => by simp only [AV.refs] at h; simp only [AV.ren, renL_id r c h]
  | .nilf, _ => rfl
  | .agg l, h => by simp only [AV.refs] at h; simp only [AV.ren, renL_id r l h]
  | .tup l, h => by simp only [AV.refs] at h; simp only [AV.ren, renL_id r l h]
theorem renL_id (r : Nat → Nat) : ∀ (l : List AV), AV.refsL l = [] → AV.renL r l = l
  | [], _ => rfl
  | v :: l, h => by
    simp only [AV.refsL, List.append_eq_nil_iff] at h
    simp only [AV.renL, ren_id r v h.1, renL_id r l h.2]
end

section
variable {P : Program} {σ σ' : Sig} {π π' : Prot} {w w' : World} {h : Nat → Option Blk} {n : Nat} {δ : Delta} {L : List Nat}

theorem VR.ren {ρ : Nat → Nat} {v : AV} {u : Value} (hv : VR σ π w v u) : (∀ b ∈ v.refs, ∀ g l, σ b g = some l → σ' (ρ b) g = some l) → VR σ' π w (v.ren ρ) u := by
  have keyL : ∀ (c : List AV) (d : Array Value), (∀ (i : Nat) v u, c[i]? = some v → d[i]? = some u → (∀ b ∈ v.refs, ∀ g l, σ b g = some l → σ' (ρ b) g = some l) → VR σ' π w (v.ren ρ) u) →
      (∀ b ∈ AV.refsL c, ∀ g l, σ b g = some l → σ' (ρ b) g = some l) → ∀ (i : Nat) v u, (AV.renL ρ c)[i]? = some v → d[i]? = some u → VR σ' π w v u := by
    intro c d ih hρ i v u hi hu
    rw [renL_get] at hi
    obtain ⟨v0, hv0, rfl⟩ := Option.map_eq_some_iff.1 hi
    exact ih i v0 u hv0 hu (fun b hb => hρ b (refsL_mem (List.mem_of_getElem? hv0) b hb))
  induction hv with
  | bool b => intro _; exact .bool b
  | int k n => intro _; exact .int k n
  | str s => intro _; exact .str s
  | nilp => intro _; exact .nilp
  | hp b o l hl => intro hρ; exact .hp _ o l (hρ b (by simp [AV.refs]) 0 l hl)
  | ep sz b g i j l hl hi => intro hρ; exact .ep sz _ g i j l (hρ b (by simp [AV.refs]) g l hl) hi
  | ip sz rows i j B o u hf hi hc hv ih =>
    intro _
    refine .ip sz rows i j B o u hf hi hc (fun r q row v hr hq => ?_)
    have hfl := ((hf row (List.mem_of_getElem? hr)).2 v (List.mem_of_getElem? hq)).2
    have := ih r q row v hr hq (by rw [hfl]; intro b hb; cases hb)
    rwa [ren_id ρ v hfl] at this
  | nils => intro _; exact .nils
  | emps a => intro _; exact .emps a
  | zs a c h0 => intro _; exact .zs a c h0
  | any u => intro _; exact .any u
  | inl0 sz a c => intro _; exact .inl0 sz a c
  | inl sz rows B o c u hf hl hc hv ih =>
    intro _
    refine .inl sz rows B o c u hf hl hc (fun r q row v hr hq => ?_)
    have hfl := ((hf row (List.mem_of_getElem? hr)).2 v (List.mem_of_getElem? hq)).2
    have := ih r q row v hr hq (by rw [hfl]; intro b hb; cases hb)
    rwa [ren_id ρ v hfl] at this
  | ref sz b g i n full a c l hl hi hn ha hf C e hC hs => intro hρ; exact .ref sz _ g i n full a c l (hρ b (by simp [AV.refs]) g l hl) hi hn ha hf C e hC hs
  | mapn => intro _; exact .mapn
  | mp b l hl => intro hρ; exact .mp _ l (hρ b (by simp [AV.refs]) 0 l hl)
  | fn f c d hl hv ih => intro hρ; exact .fn f _ d (by rw [renL_length]; exact hl) (keyL c d ih hρ)
  | nilf => intro _; exact .nilf
  | agg c d hl hv ih => intro hρ; exact .agg _ d (by rw [renL_length]; exact hl) (keyL c d ih hρ)
  | tup c d hl hv ih => intro hρ; exact .tup _ d (by rw [renL_length]; exact hl) (keyL c d ih hρ)

theorem VRs.ren {ρ : Nat → Nat} {c : List AV} {d : Array Value} (hv : VRs σ π w c d) (hρ : ∀ b ∈ AV.refsL c, ∀ g l, σ b g = some l → σ' (ρ b) g = some l) : VRs σ' π w (AV.renL ρ c) d := by
  refine ⟨by rw [renL_length]; exact hv.1, fun i v u hi hu => ?_⟩
  rw [renL_get] at hi
  obtain ⟨v0, hv0, rfl⟩ := Option.map_eq_some_iff.1 hi
  exact (hv.2 i v0 u hv0 hu).ren (fun b hb => hρ b (refsL_mem (List.mem_of_getElem? hv0) b hb))

theorem VR.flat_any {v : AV} {u : Value} (hv : VR σ π w v u) (hf : v.refs = []) (σ' : Sig) : VR σ' π w v u := by
  have := hv.ren (σ' := σ') (ρ := id) (by rw [hf]; intro b hb; cases hb)
  rwa [ren_id id v hf] at this

/-- A block under other numbers: the very same cells. -/
theorem BR.ren {ρ : Nat → Nat} {b b' : Nat} {x : Blk} (k : BR σ π w b x) (hb : ∀ g, σ' b' g = σ b g) (hρ : ∀ c ∈ x.refs, ∀ g l, σ c g = some l → σ' (ρ c) g = some l) : BR σ' π w b' (x.ren ρ) := by
  cases x with
  | row c =>
    obtain ⟨l, C, e, h1, h2, h3, h4, h5⟩ := k
    refine ⟨l, C, e, (hb 0).trans h1, h2, by rw [renL_length]; exact h3, fun i v hi => ?_, h5⟩
    rw [renL_get] at hi
    obtain ⟨v0, hv0, rfl⟩ := Option.map_eq_some_iff.1 hi
    obtain ⟨u, hu, hv⟩ := h4 i v0 hv0
    exact ⟨u, hu, hv.ren (fun b hb => hρ b (refsL_mem (List.mem_of_getElem? hv0) b hb))⟩
  | arr sz rows gen wgen ro =>
    obtain ⟨h1, h2, h3, h4, ⟨l, h5, h6, h7, h8⟩, h9⟩ := k
    refine ⟨h1, h2, h3, fun g hg => (hb g).trans (h4 g hg), ⟨l, (hb _).trans h5, h6, h7, h8⟩, fun g hg hg' => ?_⟩
    obtain ⟨l', C, e, q1, q2, q3, q4, q5⟩ := h9 g hg hg'
    refine ⟨l', C, e, (hb g).trans q1, q2, q3, q4, fun r row hr hrow i v hi => ?_⟩
    obtain ⟨u, hu, hv⟩ := q5 r row hr hrow i v hi
    exact ⟨u, hu, hv.flat_any ((h3 row (List.mem_of_getElem? hrow)).2 v (List.mem_of_getElem? hi)).2 σ'⟩
  | map es clock =>
    obtain ⟨l, C, h1, h2, h3, h4, h5⟩ := k
    refine ⟨l, C, (hb 0).trans h1, h2, h3, h4, fun i kk v born e hi he => ?_⟩
    obtain ⟨q1, q2, q3, q4, q5⟩ := h5 i kk v born e hi he
    exact ⟨q1.flat_any q5 σ', q2.flat_any q4 σ', q3, q4, q5⟩
  | none => exact fun g => (hb g).trans (k g)

/-! ### What is reached -/
theorem reach_spec : ∀ {k : Nat} {todo : List Nat} {acc bs : List (Nat × Blk)} {L : List Nat}, (reach k todo acc).run h = some (bs, L) →
    (acc.map (·.1)).Nodup → (∀ p ∈ acc, h p.1 = some p.2) → (∀ p ∈ acc, ∀ c ∈ p.2.refs, c ∈ acc.map (·.1) ∨ c ∈ todo) →
    (bs.map (·.1)).Nodup ∧ (∀ p ∈ bs, h p.1 = some p.2) ∧ (∀ p ∈ bs, ∀ c ∈ p.2.refs, c ∈ bs.map (·.1)) ∧ (∀ c ∈ todo, c ∈ bs.map (·.1)) ∧ (∀ c ∈ acc.map (·.1), c ∈ bs.map (·.1)) ∧ (∀ c ∈ bs.map (·.1), c ∈ acc.map (·.1) ∨ c ∈ L)
  | 0, [], acc, bs, L, e, h1, h2, h3 => by
    have := am_ret e
    subst this
    exact ⟨h1, h2, fun p hp c hc => (h3 p hp c hc).resolve_right (by simp), fun c hc => (by cases hc), fun c hc => hc, fun c hc => .inl hc⟩
  | 0, _ :: _, acc, bs, L, e, _, _, _ => (am_fail e).elim
  | k + 1, [], acc, bs, L, e, h1, h2, h3 => by
    have := am_ret e
    subst this
    exact ⟨h1, h2, fun p hp c hc => (h3 p hp c hc).resolve_right (by simp), fun c hc => (by cases hc), fun c hc => hc, fun c hc => .inl hc⟩
  | k + 1, b :: todo, acc, bs, L, e, h1, h2, h3 => by
    simp only [reach] at e
    split at e
    · rename_i hin
      have hb : b ∈ acc.map (·.1) := by
        simp only [List.any_eq_true] at hin
        obtain ⟨p, hp, hpb⟩ := hin
        exact List.mem_map.2 ⟨p, hp, eq_of_beq hpb⟩
      obtain ⟨a1, a2, a3, a4, a5, a6⟩ := reach_spec e h1 h2 (fun p hp c hc => (h3 p hp c hc).elim .inl (fun hc => (List.mem_cons.1 hc).elim (fun hh => .inl (hh ▸ hb)) .inr))
      exact ⟨a1, a2, a3, fun c hc => (List.mem_cons.1 hc).elim (fun hh => hh ▸ a5 b hb) (a4 c), a5, a6⟩
    · rename_i hin
      obtain ⟨x, L', hx, e', rfl⟩ := am_rd e
      have hnb : b ∉ acc.map (·.1) := by
        intro hb
        obtain ⟨p, hp, hpb⟩ := List.mem_map.1 hb
        exact hin (List.any_eq_true.2 ⟨p, hp, by simp [hpb]⟩)
      obtain ⟨a1, a2, a3, a4, a5, a6⟩ := reach_spec e' (by
          rw [List.map_append, List.nodup_append]
          exact ⟨h1, by simp, fun a ha c hc => by simp at hc; subst hc; exact fun e => hnb (e ▸ ha)⟩)
        (fun p hp => by
          rcases List.mem_append.1 hp with hp | hp
          · exact h2 p hp
          · simp at hp; subst hp; exact hx)
        (fun p hp c hc => by
          simp only [List.map_append, List.mem_append, List.map_cons, List.map_nil, List.mem_singleton]
          rcases List.mem_append.1 hp with hp | hp
          · rcases h3 p hp c hc with hh | hh
            · exact .inl (.inl hh)
            · rcases List.mem_cons.1 hh with rfl | hh
              · exact .inl (.inr rfl)
              · exact .inr (.inl hh)
          · simp at hp; subst hp; exact .inr (.inr hc))
      refine ⟨a1, a2, a3, fun c hc => ?_, fun c hc => a5 c (by simp only [List.map_append, List.mem_append]; exact .inl hc), fun c hc => ?_⟩
      · rcases List.mem_cons.1 hc with rfl | hc
        · exact a5 c (by simp)
        · exact a4 c (List.mem_append.2 (.inl hc))
      · rcases a6 c hc with hh | hh
        · simp only [List.map_append, List.mem_append, List.map_cons, List.map_nil, List.mem_singleton] at hh
          rcases hh with hh | rfl
          · exact .inl hh
          · exact .inr (List.mem_cons_self ..)
        · exact .inr (List.mem_cons_of_mem _ hh)

/-! ### What is lent -/
def Bor (π : Prot) (σ : Sig) (bw : List (Nat × Blk)) : Prot := fun B o => π B o ∨ ∃ b s rows gen wgen g l, (b, Blk.arr s rows gen wgen true) ∈ bw ∧ wgen ≤ g ∧ g ≤ gen ∧ σ b g = some l ∧ l.blk = B ∧ o < l.m * s

/-- Each block that is lent is the array that it is, but for the mark. -/
def Lent (h : Nat → Option Blk) (bw : List (Nat × Blk)) : Prop := ∀ p ∈ bw, ∃ s rows gen wgen ro, h p.1 = some (.arr s rows gen wgen ro) ∧ p.2 = .arr s rows gen wgen true

theorem Bor.mono {bw bw' : List (Nat × Blk)} (hs : ∀ p ∈ bw, p ∈ bw') {B o : Nat} (hp : Bor π σ bw B o) : Bor π σ bw' B o := by
  rcases hp with hp | ⟨b, s, rows, gen, wgen, g, l, h1, h2⟩
  · exact .inl hp
  · exact .inr ⟨b, s, rows, gen, wgen, g, l, hs _ h1, h2⟩

theorem VR.prot (hp : ∀ B o, π B o → π' B o) {v : AV} {u : Value} (hv : VR σ π w v u) : VR σ π' w v u :=
  hv.mono ⟨fun _ _ _ h => h, hp, fun _ _ _ => rfl, fun _ _ _ C _ _ _ h => ⟨C, h, rfl⟩⟩

theorem borrowV_spec (R : Rel σ π w h) {v v' : AV} {u : Value} {bw : List (Nat × Blk)} (hv : VR σ π w v u) (e : (borrowV v).run h = some ((v', bw), L)) : Lent h bw ∧ VR σ (Bor π σ bw) w v' u := by
  unfold borrowV at e
  split at e
  · rename_i sz b g i m full
    obtain ⟨y, L', hy, e5, _⟩ := am_rd e
    split at e5
    · rename_i s rows gen wgen ro
      split at e5
      · rename_i hc
        obtain ⟨rfl, hg1, hg2, hle⟩ := hc
        have := am_ret e5
        simp only [Prod.mk.injEq] at this
        obtain ⟨rfl, rfl⟩ := this
        refine ⟨fun p hp => by simp at hp; subst hp; exact ⟨_, _, _, _, _, hy, rfl⟩, ?_⟩
        cases hv with
        | ref _ _ _ _ _ _ a c l hl hi hn ha hf C e hC hs =>
          obtain ⟨q1, q2, q3, q4, q5, q6⟩ := R.blk b _ hy
          obtain ⟨l', C', te, a1, a2, a3, a4, a5⟩ := q6 g hg1 hg2
          rw [hl] at a1
          cases a1
          have hlen : ((rows.drop i).take m).length = m := by simp; omega
          rcases Nat.eq_zero_or_pos m with h0 | h0
          · subst h0
            simp only [List.take_zero]
            exact .zs _ _ fun h => by cases h
          · obtain rfl := ha (by omega)
            have hrow : ∀ (r : Nat) row, ((rows.drop i).take m)[r]? = some row → r < m ∧ rows[i + r]? = some row := by
              intro r row hr
              simp only [List.getElem?_take, List.getElem?_drop] at hr
              split at hr
              · exact ⟨by assumption, hr⟩
              · cases hr
            have hcell : ∀ (r q : Nat) row v, ((rows.drop i).take m)[r]? = some row → row[q]? = some v → ∃ u, w.cell? ⟨l.blk, i * s + r * s + q, none⟩ = some u ∧ VR σ π w v u ∧ i * s + r * s + q < l.m * s := by
              intro r q row v hr hq
              obtain ⟨hrm, hr'⟩ := hrow r row hr
              obtain ⟨u, hu, hvu⟩ := a5 (i + r) row (by omega) hr' q v hq
              refine ⟨u, ?_, hvu, ?_⟩
              · rw [Nat.add_mul] at hu
                simp [World.cell?, a3, hu]
              · have hql := (List.getElem?_eq_some_iff.1 hq).1
                rw [(q3 row (List.mem_of_getElem? hr')).1] at hql
                have : (i + r + 1) * s ≤ l.m * s := Nat.mul_le_mul_right _ (by omega)
                rw [Nat.succ_mul, Nat.add_mul] at this
                omega
            have := VR.inl (σ := σ) (π := Bor π σ [(b, .arr s rows gen wgen true)]) (w := w) s ((rows.drop i).take m) l.blk (i * s) c (fun r q => (w.cell? ⟨l.blk, i * s + r * s + q, none⟩).getD undef) (flat_take q3 i m) (by rw [hlen]; exact hn)
              (fun r q row v hr hq => by
                obtain ⟨u, hu, _, hlt⟩ := hcell r q row v hr hq
                exact ⟨by rw [hu]; rfl, .inr ⟨b, s, rows, gen, wgen, g, l, by simp, hg1, hg2, hl, rfl, hlt⟩⟩)
              (fun r q row v hr hq => by
                obtain ⟨u, hu, hvu, _⟩ := hcell r q row v hr hq
                rw [hu]
                exact hvu.prot (fun _ _ h => .inl h))
            rw [hlen] at this
            exact this.can
      · exact (am_fail e5).elim
    · exact (am_fail e5).elim
  · have := am_ret e
    simp only [Prod.mk.injEq] at this
    obtain ⟨rfl, rfl⟩ := this
    exact ⟨fun p hp => (by cases hp), hv.can.prot (fun _ _ h => .inl h)⟩

theorem VRs.tail {v : AV} {l : List AV} {d : Array Value} (hv : VRs σ π w (v :: l) d) : ∃ u r, d = (u :: r).toArray ∧ VR σ π w v u ∧ VRs σ π w l r.toArray := by
  obtain ⟨dl⟩ := d
  cases dl with
  | nil => have := hv.1; simp at this
  | cons u r =>
    refine ⟨u, r, rfl, hv.2 0 v u rfl rfl, by have := hv.1; simpa using this, fun i x y hx hy => hv.2 (i + 1) x y (by simpa using hx) (by simpa using hy)⟩

theorem VRs.cons {v : AV} {l : List AV} {u : Value} {r : List Value} (h1 : VR σ π w v u) (h2 : VRs σ π w l r.toArray) : VRs σ π w (v :: l) (u :: r).toArray := by
  refine ⟨by have := h2.1; simpa using this, fun i x y hx hy => ?_⟩
  cases i with
  | zero => simp at hx hy; subst hx; subst hy; exact h1
  | succ i => exact h2.2 i x y (by simpa using hx) (by simpa using hy)

theorem VRs.prot (hp : ∀ B o, π B o → π' B o) {v : List AV} {u : Array Value} (hv : VRs σ π w v u) : VRs σ π' w v u := ⟨hv.1, fun i x y h1 h2 => (hv.2 i x y h1 h2).prot hp⟩

theorem Lent.append {a b : List (Nat × Blk)} (h1 : Lent h a) (h2 : Lent h b) : Lent h (a ++ b) := fun p hp => (List.mem_append.1 hp).elim (h1 p) (h2 p)

theorem borrowC_spec (R : Rel σ π w h) : ∀ {l l' : List AV} {d : Array Value} {bw : List (Nat × Blk)} {L : List Nat}, VRs σ π w l d → (borrowC l).run h = some ((l', bw), L) → Lent h bw ∧ VRs σ (Bor π σ bw) w l' d
  | [], l', d, bw, L, hv, e => by
    have := am_ret e
    simp only [Prod.mk.injEq] at this
    obtain ⟨rfl, rfl⟩ := this
    exact ⟨fun p hp => (by cases hp), hv.prot (fun _ _ h => .inl h)⟩
  | v :: l, l', d, bw, L, hv, e => by
    obtain ⟨u, r, rfl, hvu, hvl⟩ := hv.tail
    simp only [borrowC] at e
    obtain ⟨⟨v1, b1⟩, L1, L2, e1, e2, _⟩ := am_bind e
    obtain ⟨⟨l1, b2⟩, L3, L4, e3, e4, _⟩ := am_bind e2
    have := am_ret e4
    simp only [Prod.mk.injEq] at this
    obtain ⟨rfl, rfl⟩ := this
    obtain ⟨h1, h2⟩ := borrowV_spec R hvu e1
    obtain ⟨h3, h4⟩ := borrowC_spec R hvl e3
    exact ⟨h1.append h3, .cons (h2.prot (fun B o h => Bor.mono (fun p hp => List.mem_append.2 (.inl hp)) h)) (h4.prot (fun B o h => Bor.mono (fun p hp => List.mem_append.2 (.inr hp)) h))⟩

theorem borrowL_spec (R : Rel σ π w h) : ∀ {l l' : List AV} {d : Array Value} {bw : List (Nat × Blk)} {L : List Nat}, VRs σ π w l d → (borrowL l).run h = some ((l', bw), L) → Lent h bw ∧ VRs σ (Bor π σ bw) w l' d
  | [], l', d, bw, L, hv, e => by
    have := am_ret e
    simp only [Prod.mk.injEq] at this
    obtain ⟨rfl, rfl⟩ := this
    exact ⟨fun p hp => (by cases hp), hv.prot (fun _ _ h => .inl h)⟩
  | v :: l, l', d, bw, L, hv, e => by
    obtain ⟨u, r, rfl, hvu, hvl⟩ := hv.tail
    have hhead : ∃ v1 b1 l1 b2 L3, l' = v1 :: l1 ∧ bw = b1 ++ b2 ∧ Lent h b1 ∧ VR σ (Bor π σ b1) w v1 u ∧ (borrowL l).run h = some ((l1, b2), L3) := by
      unfold borrowL at e
      split at e
      · rename_i hh; cases hh
      · rename_i c l0 hh
        cases hh
        obtain ⟨⟨c1, b1⟩, L1, L2, e1, e2, _⟩ := am_bind e
        obtain ⟨⟨l1, b2⟩, L3, L4, e3, e4, _⟩ := am_bind e2
        have := am_ret e4
        simp only [Prod.mk.injEq] at this
        obtain ⟨rfl, rfl⟩ := this
        cases hvu with
        | agg _ d hl hv2 =>
          obtain ⟨h1, h2⟩ := borrowC_spec R (⟨hl, hv2⟩ : VRs σ π w c d) e1
          exact ⟨_, b1, l1, b2, L3, rfl, rfl, h1, .agg _ _ h2.1 h2.2, e3⟩
      · rename_i v0 l0 _ hh
        cases hh
        obtain ⟨⟨c1, b1⟩, L1, L2, e1, e2, _⟩ := am_bind e
        obtain ⟨⟨l1, b2⟩, L3, L4, e3, e4, _⟩ := am_bind e2
        have := am_ret e4
        simp only [Prod.mk.injEq] at this
        obtain ⟨rfl, rfl⟩ := this
        obtain ⟨h1, h2⟩ := borrowV_spec R hvu e1
        exact ⟨_, b1, l1, b2, L3, rfl, rfl, h1, h2, e3⟩
    obtain ⟨v1, b1, l1, b2, L3, rfl, rfl, h1, h2, e3⟩ := hhead
    obtain ⟨h3, h4⟩ := borrowL_spec R hvl e3
    exact ⟨h1.append h3, .cons (h2.prot (fun B o h => Bor.mono (fun p hp => List.mem_append.2 (.inl hp)) h)) (h4.prot (fun B o h => Bor.mono (fun p hp => List.mem_append.2 (.inr hp)) h))⟩

end
end Go.Ws

namespace Go.Ws
set_option linter.unusedVariables false
set_option linter.unusedSimpArgs false

theorem updF1_not {b : Nat} : ∀ {l : List (Nat × Blk)} {h : Nat → Option Blk}, b ∉ l.map (·.1) → updF1 h l b = h b
  | [], h, _ => rfl
  | (c, x) :: l, h, hn => by
    simp only [List.map_cons, List.mem_cons, not_or] at hn
    rw [updF1, updF1_not hn.2, if_neg hn.1]

theorem updF1_all {b : Nat} {x : Blk} : ∀ {l : List (Nat × Blk)} {h : Nat → Option Blk}, b ∈ l.map (·.1) → (∀ p ∈ l, p.1 = b → p.2 = x) → updF1 h l b = some x
  | (c, y) :: l, h, hm, ha => by
    rw [updF1]
    by_cases hb : b ∈ l.map (·.1)
    · exact updF1_all hb (fun p hp => ha p (List.mem_cons_of_mem _ hp))
    · rw [updF1_not hb]
      simp only [List.map_cons, List.mem_cons] at hm
      obtain rfl := hm.resolve_right hb
      rw [if_pos rfl]
      exact congrArg some (ha (b, y) (List.mem_cons_self ..) rfl)

theorem zip_mem_nodup {ids : List Nat} {xs : List Blk} (hn : ids.Nodup) (hl : xs.length = ids.length) {b : Nat} (hb : b ∈ ids) : ∃ x, xs[ids.idxOf b]? = some x ∧ ∀ p ∈ ids.zip xs, p.1 = b → p.2 = x := by
  have hlt : ids.idxOf b < xs.length := by rw [hl]; exact List.idxOf_lt_length_iff.2 hb
  refine ⟨xs[ids.idxOf b], List.getElem?_eq_getElem hlt, fun p hp he => ?_⟩
  obtain ⟨i, hi⟩ := List.mem_iff_getElem?.1 hp
  rw [List.getElem?_zip_eq_some] at hi
  have hib : ids[i]? = some b := by rw [hi.1, he]
  have hil : i < ids.length := (List.getElem?_eq_some_iff.1 hib).1
  have : ids.idxOf b = i := by
    have h1 : ids[i] = b := (List.getElem?_eq_some_iff.1 hib).2
    rw [← h1]
    exact List.Nodup.idxOf_getElem hn i hil
  have h2 := hi.2
  rw [← this, List.getElem?_eq_getElem hlt] at h2
  exact (Option.some.inj h2).symm

section
variable {P : Program} {σ : Sig} {π : Prot} {w : World} {h : Nat → Option Blk} {n : Nat} {δ : Delta} {L : List Nat}

/-- What a call comes to. -/
def Ret (σ : Sig) (π : Prot) (w : World) (v : AV) (h' : List Blk) (e : Ending) (w' : World) : Prop :=
  ∃ u σ' π', e = .returned u ∧ VR σ' π' w' v u ∧ Done σ π w σ' π' w' (h'[·]?)

def CallOK (P : Program) (call : CallT) : Prop := ∀ frz f args h v h', call frz f args h = some (v, h') →
  (∀ cargs w, (callFunc f cargs).run P w = .ok (.enter f cargs) w) ∧ h.length ≤ h'.length ∧
  ∀ σ π w cargs, Rel σ π w (h[·]?) → VRs σ π w args cargs → Calls P f cargs w (Ret σ π w v h')

mutual
theorem hasInl_prot {σ : Sig} {π π' : Prot} {w : World} : ∀ (v : AV) (u : Value), v.hasInl = false → VR σ π w v u → VR σ π' w v u
  | .bool _, _, _, hv => by cases hv; constructor
  | .int _ _, _, _, hv => by cases hv; constructor
  | .str _, _, _, hv => by cases hv; constructor
  | .nilp, _, _, hv => by cases hv; constructor
  | .hp _ _, _, _, hv => by cases hv with | hp _ _ l hl => exact .hp _ _ l hl
  | .ep _ _ _ _ _, _, _, hv => by cases hv with | ep _ _ _ _ _ l hl hi => exact .ep _ _ _ _ _ l hl hi
  | .ip _ _ _ _, _, h, _ => by simp [AV.hasInl] at h
  | .nils, _, _, hv => by cases hv; constructor
  | .emps, _, _, hv => by cases hv; constructor
  | .inl _ _, _, h, _ => by simp [AV.hasInl] at h
  | .zs, _, h, _ => by simp [AV.hasInl] at h
  | .any, _, _, _ => .any _
  | .ref _ _ _ _ _ _, _, _, hv => by cases hv with | ref _ _ _ _ _ _ a c l hl hi hn ha hf C e hC hs => exact .ref _ _ _ _ _ _ a c l hl hi hn ha hf C e hC hs
  | .mapn, _, _, hv => by cases hv; constructor
  | .mp _, _, _, hv => by cases hv with | mp _ l hl => exact .mp _ l hl
  | .fn f c, _, h, hv => by
    cases hv with
    | fn _ _ d hl hv => exact .fn f c d hl (hasInlL_prot c d (by simpa [AV.hasInl] using h) hv)
  | .nilf, _, _, hv => by cases hv; constructor
  | .agg c, _, h, hv => by
    cases hv with
    | agg _ d hl hv => exact .agg c d hl (hasInlL_prot c d (by simpa [AV.hasInl] using h) hv)
  | .tup c, _, h, hv => by
    cases hv with
    | tup _ d hl hv => exact .tup c d hl (hasInlL_prot c d (by simpa [AV.hasInl] using h) hv)
theorem hasInlL_prot {σ : Sig} {π π' : Prot} {w : World} : ∀ (c : List AV) (d : Array Value), AV.hasInlL c = false → (∀ (i : Nat) v u, c[i]? = some v → d[i]? = some u → VR σ π w v u) →
    ∀ (i : Nat) v u, c[i]? = some v → d[i]? = some u → VR σ π' w v u
  | [], _, _, _, i, v, u, hi, _ => by simp at hi
  | x :: c, d, h, hv, 0, v, u, hi, hu => by
    simp only [AV.hasInlL, Bool.or_eq_false_iff] at h
    simp at hi
    subst hi
    exact hasInl_prot x u h.1 (hv 0 x u rfl hu)
  | x :: c, d, h, hv, i + 1, v, u, hi, hu => by
    simp only [AV.hasInlL, Bool.or_eq_false_iff] at h
    obtain ⟨dl⟩ := d
    cases dl with
    | nil => simp at hu
    | cons y dl =>
      exact hasInlL_prot c dl.toArray h.2 (fun j v u h1 h2 => hv (j + 1) v u (by simpa using h1) (by simpa using h2)) i v u (by simpa using hi) (by simpa using hu)
end

/-- The heap of what is reached reads in the same world. -/
theorem rel_mini (R : Rel σ π w h) {bs : List (Nat × Blk)} (hn : (bs.map (·.1)).Nodup) (hb : ∀ p ∈ bs, h p.1 = some p.2) (hc : ∀ p ∈ bs, ∀ c ∈ p.2.refs, c ∈ bs.map (·.1))
    {π1 : Prot} (hp : ∀ B o, π B o → π1 B o) (hp2 : ∀ B o, π1 B o → B < w.heap.size) (hpm : ∀ p ∈ bs, ∀ g l, σ p.1 g = some l → ∀ o, π1 l.blk o → π l.blk o) :
    Rel (fun i g => match (bs.map (·.1))[i]? with | some b => σ b g | none => none) π1 w ((bs.map fun x => x.2.ren (bs.map (·.1)).idxOf)[·]?) := by
  have hat : ∀ i p, bs[i]? = some p → (bs.map (·.1)).idxOf p.1 = i := by
    intro i p hi
    have h1 : (bs.map (·.1))[i]? = some p.1 := by simp [hi]
    have hlt := (List.getElem?_eq_some_iff.1 h1).1
    have h2 := (List.getElem?_eq_some_iff.1 h1).2
    rw [← h2]
    exact List.Nodup.idxOf_getElem hn i hlt
  refine ⟨fun i x hx => ?_, fun i hi g => ?_, fun i g i' g' l l' hl hl' he => ?_, fun i g l hl => ?_, hp2⟩
  · simp only [List.getElem?_map, Option.map_eq_some_iff] at hx
    obtain ⟨p, hpi, rfl⟩ := hx
    have hm := List.mem_of_getElem? hpi
    have hE : Ext σ π w σ π1 w := ⟨fun _ _ _ h => h, hp, fun _ _ _ => rfl, fun _ _ _ C _ _ _ h => ⟨C, h, rfl⟩⟩
    have hB := (R.blk p.1 p.2 (hb p hm)).mono hE (fun _ => rfl) (fun _ _ _ => rfl) (fun g l o hl ho => hpm p hm g l hl o ho)
    refine hB.ren (b' := i) (fun g => by simp [hpi]) (fun c hcc g l hl => ?_)
    have hcm := hc p hm c hcc
    have : (bs.map (·.1))[(bs.map (·.1)).idxOf c]? = some c := by
      rw [List.getElem?_eq_getElem (List.idxOf_lt_length_iff.2 hcm)]
      simp
    simp only [this]
    exact hl
  · simp only [List.getElem?_map, Option.map_eq_none_iff] at hi ⊢
    simp [hi]
  · simp only [List.getElem?_map] at hl hl'
    cases h1 : bs[i]? with
    | none => simp [h1] at hl
    | some p =>
      cases h2 : bs[i']? with
      | none => simp [h2] at hl'
      | some p' =>
        simp only [h1, h2, Option.map_some] at hl hl'
        have := R.inj _ _ _ _ _ _ hl hl' he
        rw [← hat i p h1, ← hat i' p' h2, this]
  · simp only [List.getElem?_map] at hl
    cases h1 : bs[i]? with
    | none => simp [h1] at hl
    | some p =>
      simp only [h1, Option.map_some] at hl
      exact R.lt _ _ _ hl

/-- The caller's places behind a call. -/
def sigBack (σ σ2 : Sig) (ids : List Nat) (n m : Nat) : Sig := fun b g => if b ∈ ids then σ2 (ids.idxOf b) g else if n ≤ b ∧ b < n + m then σ2 (ids.length + (b - n)) g else σ b g

set_option maxHeartbeats 1000000 in
theorem back_rel (R : Rel σ π w h) {ids : List Nat} (hnd : ids.Nodup) (hsome : ∀ b ∈ ids, ∃ x, h b = some x) {π1 : Prot} (hπ1 : ∀ B o, π B o → π1 B o)
    {bw : List (Nat × Blk)} (hlent : Lent h bw) (hbor : ∀ B o, π1 B o → Bor π σ bw B o) (hone : bw = [] ∨ ids = [])
    {h' : List Blk} (hlen : ids.length ≤ h'.length) (hnew : ∀ i, i < h'.length - ids.length → h (n + i) = none)
    {σ2 : Sig} {π2 : Prot} {w' : World} (D : Done (fun i g => match ids[i]? with | some b => σ b g | none => none) π1 w σ2 π2 w' (h'[·]?)) (v : AV) :
    (∀ b g l, σ2 b g = some l → sigBack σ σ2 ids n (h'.length - ids.length) (backId ids n b) g = some l) ∧
    Done σ π w (sigBack σ σ2 ids n (h'.length - ids.length)) π2 w' (updF h n ⟨v, bw ++ ids.zip ((h'.take ids.length).map (Blk.ren (backId ids n))), (h'.drop ids.length).map (Blk.ren (backId ids n))⟩) := by
  have hidx : ∀ (i b : Nat), ids[i]? = some b → ids.idxOf b = i := by
    intro i b hi
    have hlt := (List.getElem?_eq_some_iff.1 hi).1
    rw [← (List.getElem?_eq_some_iff.1 hi).2]
    exact List.Nodup.idxOf_getElem hnd i hlt
  have hget : ∀ b, b ∈ ids → ids[ids.idxOf b]? = some b := by
    intro b hb
    rw [List.getElem?_eq_getElem (List.idxOf_lt_length_iff.2 hb)]
    simp
  have hnotnew : ∀ b, b ∈ ids → ¬ (n ≤ b ∧ b < n + (h'.length - ids.length)) := by
    intro b hb hh
    obtain ⟨x, hx⟩ := hsome b hb
    have := hnew (b - n) (by omega)
    rw [show n + (b - n) = b by omega, hx] at this
    cases this
  have hsm : ∀ b g l, b ∈ ids → σ b g = some l → (match ids[ids.idxOf b]? with | some b => σ b g | none => none) = some l := by
    intro b g l hb hl
    rw [hget b hb]
    exact hl
  have hback : ∀ b g l, σ2 b g = some l → sigBack σ σ2 ids n (h'.length - ids.length) (backId ids n b) g = some l := by
    intro b g l hl
    have hbl : b < h'.length := by
      rcases Nat.lt_or_ge b h'.length with h1 | h1
      · exact h1
      · have := D.rel.non b (by simpa using h1) g
        rw [hl] at this
        cases this
    unfold backId sigBack
    by_cases hb : b < ids.length
    · rw [if_pos hb]
      have e1 : ids.getD b 0 = ids[b] := by simp [List.getD_eq_getElem?_getD, hb]
      rw [e1, if_pos (List.getElem_mem hb), hidx b _ (List.getElem?_eq_getElem hb)]
      exact hl
    · rw [if_neg hb]
      have hni : n + (b - ids.length) ∉ ids := by
        intro hm
        exact hnotnew _ hm ⟨by omega, by omega⟩
      rw [if_neg hni, if_pos ⟨by omega, by omega⟩, show ids.length + (n + (b - ids.length) - n) = b by omega]
      exact hl
  have hmini : ∀ (i g : Nat) (l : Loc), (match ids[i]? with | some b => σ b g | none => none) = some l → ∃ b, b ∈ ids ∧ σ b g = some l := by
    intro i g l hl
    cases hi : ids[i]? with
    | none => simp [hi] at hl
    | some b => simp only [hi] at hl; exact ⟨b, List.mem_of_getElem? hi, hl⟩
  have hfr : ∀ b g l, b ∉ ids → σ b g = some l → w'.heap[l.blk]? = w.heap[l.blk]? := by
    intro b g l hb hl
    refine D.frm.same l.blk (R.lt _ _ _ hl) (fun i g' l' hl' he => ?_)
    obtain ⟨c, hc, hcl⟩ := hmini i g' l' hl'
    exact hb (R.inj _ _ _ _ _ _ hl hcl he.symm ▸ hc)
  have hpr : ∀ b g l o, b ∉ ids → σ b g = some l → π2 l.blk o → Bor π σ bw l.blk o := by
    intro b g l o hb hl ho
    rcases D.frm.pro _ _ ho with h1 | h1 | ⟨i, g', l', hl', he⟩
    · exact hbor _ _ h1
    · have := R.lt _ _ _ hl; omega
    · obtain ⟨c, hc, hcl⟩ := hmini i g' l' hl'
      exact absurd (R.inj _ _ _ _ _ _ hl hcl he.symm ▸ hc) hb
  have E : Ext σ π w (sigBack σ σ2 ids n (h'.length - ids.length)) π2 w' := by
    refine ⟨fun b g l hl => ?_, fun B o hB => D.ext.prot _ _ (hπ1 _ _ hB), fun B o hB => D.ext.cell _ _ (hπ1 _ _ hB), fun b g l C e fr hl hC => ?_⟩
    · unfold sigBack
      by_cases hb : b ∈ ids
      · rw [if_pos hb]
        exact D.ext.sig _ _ _ (hsm b g l hb hl)
      · rw [if_neg hb, if_neg]
        · exact hl
        · intro hh
          have h0 : h b = none := by
            have := hnew (b - n) (by omega)
            rwa [show n + (b - n) = b by omega] at this
          rw [R.non b h0 g] at hl
          cases hl
    · by_cases hb : b ∈ ids
      · exact D.ext.size _ _ _ C e fr (hsm b g l hb hl) hC
      · exact ⟨C, (hfr b g l hb hl).trans hC, rfl⟩
  refine ⟨hback, E, ⟨D.frm.size, D.frm.os, D.frm.tape, D.frm.output, fun B hB hn' => ?_, fun b g l hl => ?_, fun B o hp => ?_⟩, ?_⟩
  · refine D.frm.same B hB (fun i g l hl => ?_)
    obtain ⟨c, hc, hcl⟩ := hmini i g l hl
    exact hn' c g l hcl
  · have key : ∀ i, σ2 i g = some l → w.heap.size ≤ l.blk ∨ ∃ b0 g0 l0, σ b0 g0 = some l0 ∧ l0.blk = l.blk := by
      intro i hi
      rcases D.frm.own i g l hi with h1 | ⟨i0, g0, l0, h1, h2⟩
      · exact .inl h1
      · obtain ⟨c, hc, hcl⟩ := hmini i0 g0 l0 h1
        exact .inr ⟨c, g0, l0, hcl, h2⟩
    unfold sigBack at hl
    split at hl
    · exact key _ hl
    · split at hl
      · exact key _ hl
      · exact .inr ⟨b, g, l, hl, rfl⟩
  · rcases D.frm.pro B o hp with h1 | h1 | ⟨i, g, l, hl, he⟩
    · rcases hbor _ _ h1 with h2 | ⟨b, s, rows, gen, wgen, g, l, _, _, _, hl, he, _⟩
      · exact .inl h2
      · exact .inr (.inr ⟨b, g, l, hl, he⟩)
    · exact .inr (.inl h1)
    · obtain ⟨c, hc, hcl⟩ := hmini i g l hl
      exact .inr (.inr ⟨c, g, l, hcl, he⟩)
  · -- the caller's heap
    have hnwl : ((h'.drop ids.length).map (Blk.ren (backId ids n))).length = h'.length - ids.length := by simp
    have hxl : ((h'.take ids.length).map (Blk.ren (backId ids n))).length = ids.length := by simp; omega
    have hzip : (ids.zip ((h'.take ids.length).map (Blk.ren (backId ids n)))).map (·.1) = ids := by
      rw [List.map_fst_zip]
      omega
    -- each block, where it stands
    have hblk : ∀ b, (n ≤ b ∧ b < n + (h'.length - ids.length) ∧ ∃ x, h'[ids.length + (b - n)]? = some x ∧ updF h n ⟨v, bw ++ ids.zip ((h'.take ids.length).map (Blk.ren (backId ids n))), (h'.drop ids.length).map (Blk.ren (backId ids n))⟩ b = some (x.ren (backId ids n))) ∨
        (b ∈ ids ∧ ∃ x, h'[ids.idxOf b]? = some x ∧ updF h n ⟨v, bw ++ ids.zip ((h'.take ids.length).map (Blk.ren (backId ids n))), (h'.drop ids.length).map (Blk.ren (backId ids n))⟩ b = some (x.ren (backId ids n))) ∨
        (b ∉ ids ∧ ¬ (n ≤ b ∧ b < n + (h'.length - ids.length)) ∧ ∃ s rows gen wgen ro, (b, Blk.arr s rows gen wgen true) ∈ bw ∧ h b = some (.arr s rows gen wgen ro) ∧ updF h n ⟨v, bw ++ ids.zip ((h'.take ids.length).map (Blk.ren (backId ids n))), (h'.drop ids.length).map (Blk.ren (backId ids n))⟩ b = some (.arr s rows gen wgen true)) ∨
        (b ∉ ids ∧ ¬ (n ≤ b ∧ b < n + (h'.length - ids.length)) ∧ b ∉ bw.map (·.1) ∧ updF h n ⟨v, bw ++ ids.zip ((h'.take ids.length).map (Blk.ren (backId ids n))), (h'.drop ids.length).map (Blk.ren (backId ids n))⟩ b = h b) := by
      intro b
      unfold updF
      simp only [hnwl]
      by_cases h1 : n ≤ b ∧ b < n + (h'.length - ids.length)
      · refine .inl ⟨h1.1, h1.2, ?_⟩
        have hlt : ids.length + (b - n) < h'.length := by omega
        refine ⟨h'[ids.length + (b - n)], List.getElem?_eq_getElem hlt, ?_⟩
        rw [if_pos h1]
        simp [List.getElem?_drop, List.getElem?_eq_getElem hlt]
      · rw [if_neg h1]
        by_cases h2 : b ∈ ids
        · refine .inr (.inl ⟨h2, ?_⟩)
          have hbw : bw = [] := hone.resolve_right (by rintro rfl; cases h2)
          subst hbw
          simp only [List.nil_append]
          obtain ⟨x, hx, hall⟩ := zip_mem_nodup hnd hxl h2
          have hilt : ids.idxOf b < ids.length := List.idxOf_lt_length_iff.2 h2
          simp only [List.getElem?_map, List.getElem?_take, if_pos hilt, Option.map_eq_some_iff] at hx
          obtain ⟨y, hy, rfl⟩ := hx
          exact ⟨y, hy, updF1_all (by rw [hzip]; exact h2) hall⟩
        · by_cases h3 : b ∈ bw.map (·.1)
          · refine .inr (.inr (.inl ⟨h2, h1, ?_⟩))
            have hids : ids = [] := hone.resolve_left (by rintro rfl; cases h3)
            obtain ⟨p, hp, rfl⟩ := List.mem_map.1 h3
            obtain ⟨s, rows, gen, wgen, ro, hl1, hl2⟩ := hlent p hp
            refine ⟨s, rows, gen, wgen, ro, by rw [← hl2]; exact hp, hl1, ?_⟩
            refine updF1_all (by simp only [List.map_append, List.mem_append]; exact .inl h3) (fun q hq hqe => ?_)
            rcases List.mem_append.1 hq with hq | hq
            · obtain ⟨s', rows', gen', wgen', ro', hq1, hq2⟩ := hlent q hq
              rw [hqe, hl1] at hq1
              cases hq1
              exact hq2
            · rw [hids] at hq
              simp at hq
          · refine .inr (.inr (.inr ⟨h2, h1, h3, ?_⟩))
            exact updF1_not (by simp only [List.map_append, List.mem_append, hzip]; exact fun hh => hh.elim h3 h2)
    have hs1 : ∀ b g, n ≤ b → b < n + (h'.length - ids.length) → sigBack σ σ2 ids n (h'.length - ids.length) b g = σ2 (ids.length + (b - n)) g := by
      intro b g h1 h2
      unfold sigBack
      rw [if_neg (fun hm => hnotnew b hm ⟨h1, h2⟩), if_pos ⟨h1, h2⟩]
    have hs2 : ∀ b g, b ∈ ids → sigBack σ σ2 ids n (h'.length - ids.length) b g = σ2 (ids.idxOf b) g := fun b g hb => by unfold sigBack; rw [if_pos hb]
    have hs3 : ∀ b g, b ∉ ids → ¬ (n ≤ b ∧ b < n + (h'.length - ids.length)) → sigBack σ σ2 ids n (h'.length - ids.length) b g = σ b g := fun b g h1 h2 => by unfold sigBack; rw [if_neg h1, if_neg h2]
    refine ⟨fun b x hx => ?_, fun b hb g => ?_, fun b g b' g' l l' hl hl' he => ?_, fun b g l hl => ?_, D.rel.prot⟩
    · rcases hblk b with ⟨a1, a2, y, hy, hu⟩ | ⟨a1, y, hy, hu⟩ | ⟨a1, a2, s, rows, gen, wgen, ro, hm, hh, hu⟩ | ⟨a1, a2, a3, hu⟩
      · rw [hu] at hx
        cases hx
        exact (D.rel.blk _ y hy).ren (fun g => hs1 b g a1 a2) (fun c _ g l hl => hback c g l hl)
      · rw [hu] at hx
        cases hx
        exact (D.rel.blk _ y hy).ren (fun g => hs2 b g a1) (fun c _ g l hl => hback c g l hl)
      · rw [hu] at hx
        cases hx
        obtain ⟨q1, q2, q3, q4, ⟨l, c1, c2, c3, c4⟩, q6⟩ := R.blk b _ hh
        refine ⟨q1, q2, q3, fun g hg => (hs3 b g a1 a2).trans (q4 g hg), ⟨l, (hs3 b _ a1 a2).trans c1, c2, fun hf => (by cases hf), fun o ho hp => ?_⟩, fun g hg hg' => ?_⟩
        · rcases hpr b gen l o a1 c1 hp with h2 | ⟨b2, s2, rows2, gen2, wgen2, g2, l2, hm2, hg1, hg2, hl2, he2, hlt⟩
          · exact c4 o ho h2
          · obtain rfl := R.inj _ _ _ _ _ _ hl2 c1 he2
            obtain ⟨s3, rows3, gen3, wgen3, ro3, hq1, hq2⟩ := hlent _ hm2
            rw [hh] at hq1
            cases hq1
            cases hq2
            obtain ⟨l3, C, e, p1, p2, p3, p4, p5⟩ := q6 g2 hg1 hg2
            rw [hl2] at p1
            cases p1
            have : l2.m * s ≤ rows.length * s := Nat.mul_le_mul_right _ p2
            omega
        · obtain ⟨l3, C, e, p1, p2, p3, p4, p5⟩ := q6 g hg hg'
          refine ⟨l3, C, e, (hs3 b g a1 a2).trans p1, p2, (hfr b g l3 a1 p1).trans p3, p4, fun r row hr hrow => (p5 r row hr hrow).mono E⟩
      · rw [hu] at hx
        refine (R.blk b x hx).mono E (fun g => hs3 b g a1 a2) (fun g l hl => hfr b g l a1 hl) (fun g l o hl hp => ?_)
        rcases hpr b g l o a1 hl hp with h2 | ⟨b2, s2, rows2, gen2, wgen2, g2, l2, hm2, _, _, hl2, he2, _⟩
        · exact h2
        · obtain rfl := R.inj _ _ _ _ _ _ hl2 hl he2
          exact absurd (List.mem_map.2 ⟨_, hm2, rfl⟩) a3
    · rcases hblk b with ⟨a1, a2, y, hy, hu⟩ | ⟨a1, y, hy, hu⟩ | ⟨a1, a2, s, rows, gen, wgen, ro, hm, hh, hu⟩ | ⟨a1, a2, a3, hu⟩
      · rw [hu] at hb; cases hb
      · rw [hu] at hb; cases hb
      · rw [hu] at hb; cases hb
      · rw [hs3 b g a1 a2]
        exact R.non b (hu ▸ hb) g
    · -- where each comes from
      have key : ∀ b g l, sigBack σ σ2 ids n (h'.length - ids.length) b g = some l → (∃ i, σ2 i g = some l ∧ backId ids n i = b) ∨ (b ∉ ids ∧ σ b g = some l) := by
        intro b g l hl
        by_cases h1 : b ∈ ids
        · rw [hs2 b g h1] at hl
          refine .inl ⟨_, hl, ?_⟩
          unfold backId
          rw [if_pos (List.idxOf_lt_length_iff.2 h1)]
          simp [List.getD_eq_getElem?_getD, hget b h1]
        · by_cases h2 : n ≤ b ∧ b < n + (h'.length - ids.length)
          · rw [hs1 b g h2.1 h2.2] at hl
            refine .inl ⟨_, hl, ?_⟩
            unfold backId
            rw [if_neg (by omega)]
            omega
          · rw [hs3 b g h1 h2] at hl
            exact .inr ⟨h1, hl⟩
      have cross : ∀ i g l b g' l', σ2 i g = some l → b ∉ ids → σ b g' = some l' → l.blk = l'.blk → False := by
        intro i g l b g' l' hl hb hl' he
        have hlt := R.lt _ _ _ hl'
        rcases D.frm.own i g l hl with h1 | ⟨i0, g0, l0, h1, h2⟩
        · omega
        · obtain ⟨c, hc, hcl⟩ := hmini i0 g0 l0 h1
          exact hb (R.inj _ _ _ _ _ _ hcl hl' (h2.trans he) ▸ hc)
      rcases key b g l hl with ⟨i, hi, rfl⟩ | ⟨a1, a2⟩
      · rcases key b' g' l' hl' with ⟨i', hi', rfl⟩ | ⟨a1', a2'⟩
        · rw [D.rel.inj _ _ _ _ _ _ hi hi' he]
        · exact (cross i g l b' g' l' hi a1' a2' he).elim
      · rcases key b' g' l' hl' with ⟨i', hi', rfl⟩ | ⟨a1', a2'⟩
        · exact (cross i' g' l' b g l hi' a1 a2 he.symm).elim
        · exact R.inj _ _ _ _ _ _ a2 a2' he
    · unfold sigBack at hl
      split at hl
      · exact D.rel.lt _ _ _ hl
      · split at hl
        · exact D.rel.lt _ _ _ hl
        · exact Nat.lt_of_lt_of_le (R.lt _ _ _ hl) D.frm.size

end
end Go.Ws

namespace Go.Ws
set_option linter.unusedVariables false
set_option linter.unusedSimpArgs false

section
variable {P : Program} {σ : Sig} {π : Prot} {w : World} {h : Nat → Option Blk} {n : Nat} {δ : Delta} {L : List Nat}

/-- What an operation leaves behind a call. -/
def CallDone (σ : Sig) (π : Prot) (w : World) (h : Nat → Option Blk) (n : Nat) (δ : Delta) (e : Ending) (w' : World) : Prop :=
  ∃ u σ' π', e = .returned u ∧ VR σ' π' w' δ.v u ∧ Done σ π w σ' π' w' (updF h n δ)

theorem op_call {call : CallT} (hcall : CallOK P call) (R : Rel σ π w h) (brw frz : Bool) (f : Nat) (args : List AV) (cargs : Array Value) (hv : VRs σ π w args cargs)
    (hn : ∀ i, i < δ.nw.length → h (n + i) = none) (e : (callOp call brw frz n f args).run h = some (δ, L)) :
    (∀ cargs w, (callFunc f cargs).run P w = .ok (.enter f cargs) w) ∧ Calls P f cargs w (CallDone σ π w h n δ) := by
  unfold callOp at e
  obtain ⟨⟨args', bw⟩, L1, L2, e1, e2, _⟩ := am_bind e
  clear e
  simp only at e2
  obtain ⟨bs, L3, L4, e3, e4, _⟩ := am_bind e2
  clear e2
  have hbor : Lent h bw ∧ VRs σ (Bor π σ bw) w args' cargs := by
    split at e1
    · exact borrowL_spec R hv e1
    · have := am_ret e1
      simp only [Prod.mk.injEq] at this
      obtain ⟨rfl, rfl⟩ := this
      exact ⟨fun p hp => (by cases hp), hv.prot (fun _ _ h => .inl h)⟩
  obtain ⟨hlent, hva⟩ := hbor
  obtain ⟨r1, r2, r3, r4, _, _⟩ := reach_spec e3 (by simp) (fun p hp => by cases hp) (fun p hp => by cases hp)
  split at e4
  · exact (am_fail e4).elim
  · rename_i hone
    have hone' : bw = [] ∨ bs = [] := by
      by_cases h1 : bw = []
      · exact .inl h1
      · exact .inr (Decidable.byContradiction fun h2 => hone ⟨h2, h1⟩)
    split at e4
    · exact (am_fail e4).elim
    · rename_i v h' hcr
      have hδ := am_ret e4
      obtain ⟨c1, c2, c3⟩ := hcall _ _ _ _ _ _ hcr
      simp only [List.length_map] at c2
      have hbl : (bs.map (·.1)).length = bs.length := by simp
      have hone2 : bw = [] ∨ bs.map (·.1) = [] := hone'.imp id (fun h => by rw [h]; rfl)
      have hRm := rel_mini R r1 r2 r3 (π1 := Bor π σ bw) (fun _ _ h => .inl h) (fun B o hp => by
          rcases hp with hp | ⟨b, s, rows, gen, wgen, g, l, _, _, _, hl, rfl, _⟩
          · exact R.prot _ _ hp
          · exact R.lt _ _ _ hl) (fun p hp g l hl o ho => by
          rcases ho with ho | ⟨b, s, rows, gen, wgen, g, l, hm, _⟩
          · exact ho
          · rcases hone' with rfl | rfl
            · cases hm
            · cases hp)
      have hvm : VRs (fun i g => match (bs.map (·.1))[i]? with | some b => σ b g | none => none) (Bor π σ bw) w (AV.renL (bs.map (·.1)).idxOf args') cargs := by
        refine hva.ren (fun b hb g l hl => ?_)
        have hm := r4 b hb
        have : (bs.map (·.1))[(bs.map (·.1)).idxOf b]? = some b := by
          rw [List.getElem?_eq_getElem (List.idxOf_lt_length_iff.2 hm)]
          simp
        simp only [this]
        exact hl
      refine ⟨c1, (c3 _ _ w cargs hRm hvm).mono fun en w' hen => ?_⟩
      obtain ⟨u, σ2, π2, rfl, hvu, hD⟩ := hen
      have hnew : ∀ i, i < h'.length - (bs.map (·.1)).length → h (n + i) = none := by
        intro i hi
        refine hn i ?_
        rw [hδ]
        simpa using hi
      have hsome : ∀ b ∈ bs.map (·.1), ∃ x, h b = some x := by
        intro b hb
        obtain ⟨p, hp, rfl⟩ := List.mem_map.1 hb
        exact ⟨p.2, r2 p hp⟩
      obtain ⟨k1, k2⟩ := back_rel (n := n) R r1 hsome (fun _ _ h => .inl h) hlent (fun _ _ h => h) hone2 (by rw [hbl]; exact c2) hnew hD δ.v
      have hvback : VR (sigBack σ σ2 (bs.map (·.1)) n (h'.length - (bs.map (·.1)).length)) π2 w' (v.ren (backId (bs.map (·.1)) n)) u := hvu.ren (fun b _ g l hl => k1 b g l hl)
      by_cases hq : bw = [] ∨ (v.hasInl = false ∧ h' = [])
      · rw [if_pos hq] at hδ
        rcases hq with hbw | ⟨hni, rfl⟩
        · subst hbw
          rw [hδ]
          rw [hδ] at k2
          exact ⟨u, _, _, rfl, hvback, k2⟩
        · -- nothing of what was lent is in the answer
          have hids : bs = [] := by
            simp only [List.length_nil, Nat.le_zero] at c2
            exact List.eq_nil_of_length_eq_zero c2
          subst hids
          rw [hδ]
          simp only [List.map_nil, List.zip_nil_left, List.nil_append, List.length_nil, List.drop_nil]
          have hσ2 : ∀ b g l, σ2 b g ≠ some l := by
            intro b g l hl
            have := hD.rel.non b rfl g
            rw [hl] at this
            cases this
          have hold : ∀ B, B < w.heap.size → w'.heap[B]? = w.heap[B]? := fun B hB => hD.frm.same B hB (fun i g l hl => by simp at hl)
          have E : Ext σ π w σ π w' := ⟨fun _ _ _ h => h, fun _ _ h => h, fun B o hp => cell_of_heap (hold B (R.prot _ _ hp)), fun b g l C e fr hl hC => ⟨C, (hold _ (R.lt _ _ _ hl)).trans hC, rfl⟩⟩
          have hfin : Done σ π w σ π w' h := ⟨E, ⟨hD.frm.size, hD.frm.os, hD.frm.tape, hD.frm.output, fun B hB _ => hold B hB, fun b g l hl => .inr ⟨b, g, l, hl, rfl⟩, fun _ _ h => .inl h⟩,
            ⟨fun b x hx => (R.blk b x hx).mono E (fun _ => rfl) (fun g l hl => hold _ (R.lt _ _ _ hl)) (fun _ _ _ _ h => h), R.non, R.inj, fun b g l hl => Nat.lt_of_lt_of_le (R.lt _ _ _ hl) hD.frm.size, fun B o hp => Nat.lt_of_lt_of_le (R.prot _ _ hp) hD.frm.size⟩⟩
          refine ⟨u, σ, π, rfl, ?_, by rw [updF_none]; exact hfin⟩
          have := (hasInl_prot (π' := π) v u hni hvu).ren (σ' := σ) (ρ := backId [] n) (fun b _ g l hl => absurd hl (hσ2 b g l))
          exact this
      · rw [if_neg hq] at hδ
        rw [hδ]
        rw [hδ] at k2
        exact ⟨u, _, _, rfl, hvback, k2⟩

end
end Go.Ws

namespace Go.Ws
set_option linter.unusedVariables false
set_option linter.unusedSimpArgs false

section
variable {P : Program} {σ : Sig} {π : Prot} {w : World} {h : Nat → Option Blk} {n : Nat} {δ : Delta} {L : List Nat} {t : List AV} {a : Act}

theorem vrs_getD {c : List AV} {d : Array Value} (hv : VRs σ π w c d) (i : Nat) : VR σ π w (c.getD i undefA) (d.getD i undef) := by
  rcases Nat.lt_or_ge i c.length with hlt | hge
  · have hd : i < d.size := by rw [hv.1]; exact hlt
    have := hv.2 i c[i] d[i] (List.getElem?_eq_getElem hlt) (by simp [hd])
    simpa [List.getD_eq_getElem?_getD, hlt, Array.getD, hd] using this
  · have hd : ¬ i < d.size := by rw [hv.1]; omega
    have e1 : c.getD i undefA = undefA := by rw [List.getD_eq_getElem?_getD, List.getElem?_eq_none hge]; rfl
    have e2 : d.getD i undef = undef := by simp [Array.getD, hd]
    rw [e1, e2]
    exact undef_vr _ _ _

theorem ev_vr (ht : VRs σ π w t a.tmps) {x : Operand} {v : AV} (e : evA t x = some v) : VR σ π w v (a.eval x) := by
  cases x with
  | tmp k =>
    simp only [evA, Option.some.injEq] at e
    subst e
    exact vrs_getD ht k
  | const u => exact ofVal_vr e σ π w
  | global g => cases e
  | func f =>
    simp only [evA, Option.some.injEq] at e
    subst e
    exact .fn f [] #[] rfl (fun i v u h => by simp at h)

theorem evL_vr (ht : VRs σ π w t a.tmps) : ∀ {l : List Operand} {vs : List AV}, evL t l = some vs → VRs σ π w vs (l.map a.eval).toArray
  | [], vs, e => by simp [evL] at e; subst e; exact ⟨rfl, fun i v u h => by simp at h⟩
  | x :: l, vs, e => by
    simp only [evL] at e
    split at e
    · rename_i v vs' hv hvs
      cases e
      exact .cons (ev_vr ht hv) (evL_vr ht hvs)
    · cases e

theorem evP_vr (ht : VRs σ π w t a.tmps) : ∀ {l : List (Nat × Operand)} {vs : List (Nat × AV)}, evP t l = some vs → PartsR σ π w vs (l.map fun p => (p.1, a.eval p.2))
  | [], vs, e => by simp [evP] at e; subst e; exact .nil
  | (i, x) :: l, vs, e => by
    simp only [evP] at e
    split at e
    · rename_i v vs' hv hvs
      cases e
      exact .cons ⟨rfl, ev_vr ht hv⟩ (evP_vr ht hvs)
    · cases e

theorem evO_vr (ht : VRs σ π w t a.tmps) {x : Option Operand} {v : Option AV} (e : evO t x = some v) : OptR σ π w v (x.map a.eval) := by
  cases x with
  | none => simp [evO] at e; subst e; trivial
  | some x =>
    simp only [evO, Option.map_eq_some_iff] at e
    obtain ⟨v', hv, rfl⟩ := e
    exact ev_vr ht hv

theorem two_vrs {vs : List AV} {l : List Value} {x y : AV} (h : VRs σ π w [x, y] l.toArray) : ∃ u v, l = [u, v] ∧ VR σ π w x u ∧ VR σ π w y v := by
  obtain ⟨u, r, h1, hu, hr⟩ := h.tail
  obtain ⟨v, r', h2, hv', hr'⟩ := hr.tail
  have := hr'.1
  simp at this
  subst this
  have e1 : l = u :: r := by simpa using h1
  have e2 : r = [v] := by simpa using h2
  subst e2
  exact ⟨u, v, e1, hu, hv'⟩

theorem one_vrs {l : List Value} {x : AV} (h : VRs σ π w [x] l.toArray) : ∃ u, l = [u] ∧ VR σ π w x u := by
  obtain ⟨u, r, h1, hu, hr⟩ := h.tail
  have := hr.1
  simp at this
  subst this
  have e1 : l = [u] := by simpa using h1
  exact ⟨u, e1, hu⟩

theorem op_builtin (R : Rel σ π w h) (hn : δ.nw ≠ [] → h n = none) (b : Builtin) (ts : Array TypeId) (ty : Nat) (cs : Array Bool) (args : List AV) (us : List Value) (hv : VRs σ π w args us.toArray)
    (e : (aBuiltin (tiOf P) n b ts.toList args).run h = some (δ, L)) : OpDone P (builtin b ts ty cs us.toArray) σ π w h n δ := by
  unfold aBuiltin at e
  split at e
  · rename_i st xt s x hts
    obtain ⟨u1, u2, rfl, h1, h2⟩ := two_vrs (vs := []) hv
    have : ts = #[st, xt] := by rw [← Array.toArray_toList (xs := ts), hts]
    subst this
    exact op_append R hn st xt ty s x u1 u2 h1 h2 e
  · rename_i dt rest d s hts
    obtain ⟨u1, u2, rfl, h1, h2⟩ := two_vrs (vs := []) hv
    exact op_copy R dt ty ts d s u1 u2 h1 h2 (by rw [← Array.getElem?_toList, hts]; rfl) e
  · rename_i t0 x hts
    obtain ⟨u, rfl, h1⟩ := one_vrs hv
    have : ts = #[t0] := by rw [← Array.toArray_toList (xs := ts), hts]
    subst this
    exact op_clear R t0 ty x u h1 e
  · rename_i t0 x hts
    obtain ⟨u, rfl, h1⟩ := one_vrs hv
    have : ts = #[t0] := by rw [← Array.toArray_toList (xs := ts), hts]
    subst this
    exact op_len R t0 ty x u h1 e
  · rename_i t0 x hts
    obtain ⟨u, rfl, h1⟩ := one_vrs hv
    have : ts = #[t0] := by rw [← Array.toArray_toList (xs := ts), hts]
    subst this
    exact op_cap R t0 ty x u h1 e
  · rename_i x y
    obtain ⟨u1, u2, rfl, h1, h2⟩ := two_vrs (vs := []) hv
    obtain ⟨v, hm, e2⟩ := am_of e
    have hδ := am_val e2; subst hδ
    exact (op_min R true ts ty x y u1 u2 h1 h2 hm).1 rfl
  · rename_i x y
    obtain ⟨u1, u2, rfl, h1, h2⟩ := two_vrs (vs := []) hv
    obtain ⟨v, hm, e2⟩ := am_of e
    have hδ := am_val e2; subst hδ
    exact (op_min R false ts ty x y u1 u2 h1 h2 hm).2 rfl
  · rename_i t0 rest x k hts
    obtain ⟨u1, u2, rfl, h1, h2⟩ := two_vrs (vs := []) hv
    exact op_delete R t0 ty ts x k u1 u2 (by rw [← Array.getElem?_toList, hts]; rfl) h1 h2 e
  · exact (am_fail e).elim

/-- The operation's own rule, out of what it comes to. -/
theorem wp_of_done {o : Oper} {K : Act → World → Prop} {Q : Exit → Act → World → Prop} (hd : OpDone P (execOp a.eval o) σ π w h n δ)
    (hK : ∀ u σ' π' w', VR σ' π' w' δ.v u → Done σ π w σ' π' w' (updF h n δ) → K (a.put o.dst u) w') : o.wp P a w K Q := by
  obtain ⟨r, u, w', σ', π', hr, hru, hv, hD⟩ := hd
  unfold Oper.wp
  rw [hr]
  rcases hru with rfl | ⟨rfl, rfl⟩
  · exact hK u σ' π' w' hv hD
  · exact hK _ σ' π' w' hv hD

theorem ex_build (ρ : Operand → Value) (d : Option Nat) (tt : Nat) (ps : Array (Nat × Operand)) (ty : Nat) (pos) (af) (gd) :
    execOp ρ ⟨d, .build tt ps, ty, pos, af, gd⟩ = (do pure (.value (← Instr.build tt (ps.map fun p => (p.1, ρ p.2))))) := by
  unfold execOp
  rfl

theorem ex_buildSlice (ρ : Operand → Value) (d : Option Nat) (tt len : Nat) (ps : Array (Nat × Operand)) (ty : Nat) (pos) (af) (gd) :
    execOp ρ ⟨d, .buildSlice tt len ps, ty, pos, af, gd⟩ = (do pure (.value (← Instr.buildSlice tt len (ps.map fun p => (p.1, ρ p.2))))) := by
  unfold execOp
  rfl

set_option maxHeartbeats 1000000 in
/-- EVERY OPERATION: what the abstract machine makes of it is the model's. -/
theorem op_all {call : CallT} (hcall : CallOK P call) (cfg : Nat → Bool × Bool) (R : Rel σ π w h) (ht : VRs σ π w t a.tmps) (o : Oper) (hn : ∀ i, i < δ.nw.length → h (n + i) = none)
    (e : (aop (tiOf P) call cfg n t o.op).run h = some (δ, L)) {K : Act → World → Prop} {Q : Exit → Act → World → Prop}
    (hK : ∀ u σ' π' w', VR σ' π' w' δ.v u → Done σ π w σ' π' w' (updF h n δ) → K (a.put o.dst u) w') : o.wp P a w K Q := by
  have hn1 : δ.nw ≠ [] → h n = none := fun hne => by
    have := hn 0 (List.length_pos_iff.2 hne)
    simpa using this
  have pure1 : ∀ {x : Operand} {k : AV → AM Delta}, (match evA t x with | some v => k v | none => AM.fail).run h = some (δ, L) → ∃ v, evA t x = some v ∧ (k v).run h = some (δ, L) := by
    intro x k e
    split at e
    · rename_i v hv; exact ⟨v, hv, e⟩
    · exact (am_fail e).elim
  obtain ⟨dst, op, ty, pos, after, guard⟩ := o
  simp only at e hK
  have fin : OpDone P (execOp a.eval ⟨dst, op, ty, pos, after, guard⟩) σ π w h n δ → Oper.wp P ⟨dst, op, ty, pos, after, guard⟩ a w K Q := fun hd => wp_of_done hd hK
  have isVal : ∀ {v : AV} {u : Value}, VR σ π w v u → δ = ⟨v, [], []⟩ → (execOp a.eval ⟨dst, op, ty, pos, after, guard⟩).run P w = .ok (.value u) w → OpDone P (execOp a.eval ⟨dst, op, ty, pos, after, guard⟩) σ π w h n δ := by
    intro v u hv hδ hr
    subst hδ
    exact ⟨_, u, w, σ, π, hr, .inl rfl, hv, by rw [updF_none]; exact .refl R⟩
  cases op with
  | move x =>
    obtain ⟨v, hv, e2⟩ := pure1 e
    exact fin (isVal (ev_vr ht hv) (am_val e2) rfl)
  | assign x =>
    obtain ⟨v, hv, e2⟩ := pure1 e
    exact fin (isVal (ev_vr ht hv) (am_val e2) rfl)
  | pick c x y =>
    obtain ⟨v, hv, e2⟩ := pure1 e
    have hvr := ev_vr ht hv
    split at e2
    · rename_i b
      cases hb : a.eval c <;> rw [hb] at hvr <;> cases hvr
      split at e2
      · rename_i hbt
        obtain ⟨v2, hv2, e3⟩ := pure1 e2
        exact fin (isVal (ev_vr ht hv2) (am_val e3) (by simp [execOp, hb, hbt, asBool]))
      · rename_i hbf
        obtain ⟨v2, hv2, e3⟩ := pure1 e2
        exact fin (isVal (ev_vr ht hv2) (am_val e3) (by simp [execOp, hb, hbf, asBool]))
    · exact (am_fail e2).elim
  | alloc el => exact fin (op_alloc R hn1 el e)
  | box el x =>
    obtain ⟨v, hv, e2⟩ := pure1 e
    exact fin (op_box R hn1 el v _ (ev_vr ht hv) e2)
  | build tt ps =>
    simp only [aop] at e
    split at e
    · rename_i ps' hps
      refine fin ?_
      rw [ex_build]
      exact op_build R tt ps' _ (by rw [Array.toList_map]; exact evP_vr ht hps) e
    · exact (am_fail e).elim
  | buildSlice tt len ps =>
    simp only [aop] at e
    split at e
    · rename_i ps' hps
      refine fin ?_
      rw [ex_buildSlice]
      exact op_buildSlice R hn1 tt len ps' _ (by rw [Array.toList_map]; exact evP_vr ht hps) e
    · exact (am_fail e).elim
  | load tt x =>
    obtain ⟨v, hv, e2⟩ := pure1 e
    exact fin (op_load R tt v _ (ev_vr ht hv) e2)
  | store tt x y =>
    obtain ⟨v, hv, e2⟩ := pure1 e
    obtain ⟨v2, hv2, e3⟩ := pure1 e2
    exact fin (op_store R tt v v2 _ _ (ev_vr ht hv) (ev_vr ht hv2) e3)
  | nilCheck x =>
    obtain ⟨v, hv, e2⟩ := pure1 e
    have hvr := ev_vr ht hv
    split at e2
    · exact (am_fail e2).elim
    · exact (am_fail e2).elim
    · exact (am_fail e2).elim
    · rename_i h1 h2 h3
      have hδ := am_val e2
      refine fin (isVal hvr hδ ?_)
      generalize hu : a.eval x = u at hvr
      cases hvr <;> first | exact absurd rfl h1 | exact absurd rfl h2 | exact absurd rfl h3 | (simp only [execOp, hu]; rfl)
  | binOp op tt x y yt =>
    obtain ⟨v, hv, e2⟩ := pure1 e
    obtain ⟨v2, hv2, e3⟩ := pure1 e2
    obtain ⟨r, hr, e4⟩ := am_of e3
    have hδ := am_val e4; subst hδ
    exact fin (op_bin R op tt x y v v2 _ _ (ev_vr ht hv) (ev_vr ht hv2) hr)
  | unOp op tt x =>
    obtain ⟨v, hv, e2⟩ := pure1 e
    obtain ⟨r, hr, e4⟩ := am_of e2
    have hδ := am_val e4; subst hδ
    exact fin (op_un R op v _ (ev_vr ht hv) hr)
  | convert s d x =>
    obtain ⟨v, hv, e2⟩ := pure1 e
    exact fin (op_convert R s d v _ (ev_vr ht hv) e2)
  | sliceToArrayPointer tt x =>
    obtain ⟨v, hv, e2⟩ := pure1 e
    have hvr := ev_vr ht hv
    split at e2
    · rename_i len el sz bts z cmp hst
      obtain ⟨d, inf, h1, h2, he⟩ := ti_spec hst
      simp only [TI.mk.injEq] at he
      obtain rfl := tk_array he.1.symm
      split at e2
      · rename_i ei sz' rows _
        split at e2
        · rename_i hc
          obtain ⟨hs1, rfl, hl, h0⟩ := hc
          have hδ := am_val e2
          generalize hu : a.eval x = u at hvr
          cases hvr with
          | inl0 => simp at hl; omega
          | inl _ _ B o c uu hf hlc hcc hvv =>
            refine fin (isVal (u := .pointer (some ⟨B, o + 0 * 1 + 0, none⟩)) (.ip 1 rows 0 0 B o uu hf (by omega) hcc hvv) hδ ?_)
            simp [execOp, hu, Instr.arrayAt, run_underlying h1, show ¬ rows.length < len by omega]
        · exact (am_fail e2).elim
      · exact (am_fail e2).elim
    · exact (am_fail e2).elim
  | makeInterface _ _ => exact (am_fail e).elim
  | makeFunc fn first c =>
    cases fn with
    | func f =>
      simp only [aop] at e
      split at e
      · rename_i vs hf hvs
        have hδ := am_val e
        have hvr := evL_vr ht hvs
        have hfirst : first = #[] := by rw [← Array.toArray_toList (xs := first), hf]
        subst hfirst
        refine fin (isVal (u := .func (.func f) #[] (c.map a.eval)) (.fn f vs _ ?_ ?_) hδ ?_)
        rotate_left 2
        · simp only [execOp, Instr.makeFunc, Array.map_empty]
          rfl
        · have := hvr.1; simpa using this
        · intro i v u hi hu
          exact hvr.2 i v u hi (by simpa using hu)
      · exact (am_fail e).elim
    | _ => exact (am_fail e).elim
  | makeMap tt r =>
    cases r with
    | none =>
      have hδ := am_ret e
      have hd := op_makeMap (P := P) R (hn1 (by rw [hδ]; simp)) tt
      rw [← hδ] at hd
      exact fin hd
    | some r => exact (am_fail e).elim
  | makeChan _ _ => exact (am_fail e).elim
  | makeSlice tt l c =>
    obtain ⟨v, hv, e2⟩ := pure1 e
    obtain ⟨v2, hv2, e3⟩ := pure1 e2
    exact fin (op_makeSlice R hn1 tt v v2 _ _ (ev_vr ht hv) (ev_vr ht hv2) e3)
  | slice tt x lo hi mx =>
    obtain ⟨v, hv, e2⟩ := pure1 e
    split at e2
    · rename_i lo' hi' mx' h1 h2 h3
      exact fin (op_slice R tt v lo' hi' mx' _ _ _ _ (ev_vr ht hv) (evO_vr ht h1) (evO_vr ht h2) (evO_vr ht h3) e2)
    · exact (am_fail e2).elim
  | fieldAddr tt x f =>
    obtain ⟨v, hv, e2⟩ := pure1 e
    exact fin (op_fieldAddr R tt v f _ (ev_vr ht hv) e2)
  | field tt x f =>
    obtain ⟨v, hv, e2⟩ := pure1 e
    exact fin (op_field R tt v f _ (ev_vr ht hv) e2)
  | indexAddr tt x i =>
    obtain ⟨v, hv, e2⟩ := pure1 e
    obtain ⟨v2, hv2, e3⟩ := pure1 e2
    exact fin (op_indexAddr R tt v v2 _ _ (ev_vr ht hv) (ev_vr ht hv2) e3)
  | index tt x i =>
    obtain ⟨v, hv, e2⟩ := pure1 e
    obtain ⟨v2, hv2, e3⟩ := pure1 e2
    exact fin (op_index R tt v v2 _ _ (ev_vr ht hv) (ev_vr ht hv2) e3)
  | lookup tt x i ok =>
    obtain ⟨v, hv, e2⟩ := pure1 e
    obtain ⟨v2, hv2, e3⟩ := pure1 e2
    exact fin (op_lookup R tt v v2 ok _ _ (ev_vr ht hv) (ev_vr ht hv2) e3)
  | mapUpdate tt m k x =>
    obtain ⟨v, hv, e2⟩ := pure1 e
    obtain ⟨v2, hv2, e3⟩ := pure1 e2
    obtain ⟨v3, hv3, e4⟩ := pure1 e3
    exact fin (op_mapUpdate R tt v v2 v3 _ _ _ (ev_vr ht hv) (ev_vr ht hv2) (ev_vr ht hv3) e4)
  | insert _ _ _ _ => exact (am_fail e).elim
  | mapEntry tt m k =>
    obtain ⟨v, hv, e2⟩ := pure1 e
    obtain ⟨v2, hv2, e3⟩ := pure1 e2
    exact fin (op_mapEntry R tt v v2 _ _ (ev_vr ht hv) (ev_vr ht hv2) e3)
  | entryStore tt m s x =>
    obtain ⟨v, hv, e2⟩ := pure1 e
    obtain ⟨v2, hv2, e3⟩ := pure1 e2
    obtain ⟨v3, hv3, e4⟩ := pure1 e3
    exact fin (op_entryStore R tt v v2 v3 _ _ _ (ev_vr ht hv) (ev_vr ht hv2) (ev_vr ht hv3) e4)
  | extract x i =>
    obtain ⟨v, hv, e2⟩ := pure1 e
    have hvr := ev_vr ht hv
    split at e2
    · rename_i l
      split at e2
      · rename_i v2 hv2
        have hδ := am_val e2
        generalize hu : a.eval x = u at hvr
        cases hvr with
        | tup _ d hl hvv =>
          obtain ⟨u2, hu2, hvr2⟩ := VRs.at_ (⟨hl, hvv⟩ : VRs σ π w l d) hv2
          exact fin (isVal hvr2 hδ (by simp only [execOp, hu, Instr.extract, hu2]; rfl))
      · exact (am_fail e2).elim
    · exact (am_fail e2).elim
  | call c =>
    simp only [aop] at e
    split at e
    · rename_i b hcb
      split at e
      · rename_i args hargs
        have hvr := evL_vr ht hargs
        have hd := op_builtin (cs := c.args.map fun | .const _ => true | _ => false) (ty := ty) R hn1 b c.argTypes args _ hvr e
        refine fin ?_
        have hex : execOp a.eval ⟨dst, .call c, ty, pos, after, guard⟩ = builtin b c.argTypes ty (c.args.map fun | .const _ => true | _ => false) (c.args.toList.map a.eval).toArray := by
          rw [show (c.args.toList.map a.eval).toArray = c.args.map a.eval from by rw [← Array.toList_map]]
          simp only [execOp, resolve, hcb]
          rfl
        rw [hex]
        exact hd
      · exact (am_fail e).elim
    · rename_i f hcf
      obtain ⟨v, hv, e2⟩ := pure1 e
      have hvr := ev_vr ht hv
      split at e2
      · rename_i f' cs args hargs
        have hva := evL_vr ht hargs
        generalize hu : a.eval f = u at hvr
        cases hvr with
        | fn _ _ d hl hvv =>
          have hvall : VRs σ π w (args ++ cs) ((c.args.map a.eval) ++ d) := by
            have h1 := hva.1
            simp only [List.size_toArray, List.length_map, Array.length_toList] at h1
            refine ⟨by simp [hl, h1], fun i v u hi hu => ?_⟩
            rcases Nat.lt_or_ge i args.length with hlt | hge
            · rw [List.getElem?_append_left hlt] at hi
              rw [Array.getElem?_append_left (by simp; omega)] at hu
              exact hva.2 i v u hi (by simpa using hu)
            · rw [List.getElem?_append_right hge] at hi
              rw [Array.getElem?_append_right (by simp; omega)] at hu
              simp only [Array.size_map, h1] at hu
              exact hvv _ v u hi hu
          obtain ⟨k1, k2⟩ := op_call hcall R _ _ f' _ _ hvall hn e2
          unfold Oper.wp
          have hex : (execOp a.eval ⟨dst, .call c, ty, pos, after, guard⟩).run P w = .ok (.enter f' ((c.args.map a.eval) ++ d)) w := by
            simp only [execOp, resolve, hcf, hu, Deferred.ofValue, pure_bind, invoke]
            have : (#[] ++ c.args.map a.eval ++ d) = (c.args.map a.eval) ++ d := by simp
            simp only [Array.empty_append]
            exact k1 _ w
          rw [hex, Oper.upon_enter]
          refine k2.mono fun en w' hen => ?_
          obtain ⟨u, σ', π', rfl, hvu, hD⟩ := hen
          exact hK u σ' π' w' hvu hD
      · exact (am_fail e2).elim
    · exact (am_fail e).elim
  | _ => exact (am_fail e).elim

end
end Go.Ws

namespace Go.Ws
set_option linter.unusedVariables false
set_option linter.unusedSimpArgs false

/-! ### Changes laid over each other in any order -/
section
variable {K V R : Type} (up : R → (K → V) → K → V) (touch : R → K → Prop)

def comb (L : Nat → Bool) : Nat → List R → (K → V) → K → V
  | _, [], s => s
  | k, r :: rs, s => comb L (k + 1) rs (if L k then up r s else s)

variable {up touch} (hA : ∀ r s x, ¬ touch r x → up r s x = s x) (hB : ∀ r s s' x, touch r x → up r s x = up r s' x)
include hA hB

theorem comb_at (L : Nat → Bool) (x : K) : ∀ (k : Nat) (rs : List R) (s s' : K → V), s x = s' x → comb up L k rs s x = comb up L k rs s' x
  | _, [], s, s', h => h
  | k, r :: rs, s, s', h => by
    refine comb_at L x (k + 1) rs _ _ ?_
    by_cases hl : L k = true
    · rw [if_pos hl, if_pos hl]
      by_cases ht : touch r x
      · exact hB r s s' x ht
      · rw [hA r s x ht, hA r s' x ht, h]
    · rw [if_neg hl, if_neg hl, h]

theorem comb_eq (L L' : Nat → Bool) (x : K) : ∀ (k : Nat) (rs : List R) (s : K → V), (∀ i r, rs[i]? = some r → touch r x → L (k + i) = L' (k + i)) → comb up L k rs s x = comb up L' k rs s x
  | _, [], s, h => rfl
  | k, r :: rs, s, h => by
    show comb up L (k + 1) rs (if L k then up r s else s) x = comb up L' (k + 1) rs (if L' k then up r s else s) x
    rw [comb_eq L L' x (k + 1) rs _ (fun i r' hi ht => by have := h (i + 1) r' (by simpa using hi) ht; rwa [show k + (i + 1) = k + 1 + i by omega] at this)]
    refine comb_at hA hB L' x (k + 1) rs _ _ ?_
    by_cases ht : touch r x
    · have := h 0 r rfl ht
      simp only [Nat.add_zero] at this
      rw [this]
    · split <;> split <;> simp [hA r s x ht]

theorem comb_not (L : Nat → Bool) (x : K) : ∀ (k : Nat) (rs : List R) (s : K → V), (∀ i r, rs[i]? = some r → touch r x → L (k + i) = false) → comb up L k rs s x = s x := by
  intro k rs s h
  rw [comb_eq hA hB L (fun _ => false) x k rs s h]
  clear h
  induction rs generalizing k s with
  | nil => rfl
  | cons r rs ih => exact ih (k + 1) _

theorem comb_last (L : Nat → Bool) (x : K) : ∀ (j k : Nat) (rs : List R) (s s' : K → V) (r : R), rs[j]? = some r → L (k + j) = true → touch r x →
    (∀ i r', j < i → rs[i]? = some r' → touch r' x → L (k + i) = false) → comb up L k rs s x = up r s' x
  | 0, k, r0 :: rs, s, s', r, hr, hL, ht, hl => by
    simp at hr; subst hr
    show comb up L (k + 1) rs (if L k then up r0 s else s) x = _
    simp only [Nat.add_zero] at hL
    rw [if_pos hL, comb_not hA hB L x (k + 1) rs _ (fun i r' hi ht' => by have := hl (i + 1) r' (by omega) (by simpa using hi) ht'; rwa [show k + (i + 1) = k + 1 + i by omega] at this)]
    exact hB _ _ _ _ ht
  | j + 1, k, r0 :: rs, s, s', r, hr, hL, ht, hl => by
    refine comb_last L x j (k + 1) rs _ s' r (by simpa using hr) (by rw [show k + 1 + j = k + (j + 1) by omega]; exact hL) ht (fun i r' hi h1 h2 => ?_)
    have := hl (i + 1) r' (by omega) (by simpa using h1) h2
    rwa [show k + (i + 1) = k + 1 + i by omega] at this
  | _, _, [], _, _, _, hr, _, _, _ => by simp at hr

/-- One more. -/
theorem comb_ins (L L' : Nat → Bool) (j : Nat) (rs : List R) (s : K → V) (r : R) (hr : rs[j]? = some r) (hj : L' j = true) (hL : ∀ i, i ≠ j → L' i = L i)
    (hx : ∀ i r' x, j < i → rs[i]? = some r' → L i = true → touch r x → ¬ touch r' x) : comb up L' 0 rs s = up r (comb up L 0 rs s) := by
  funext x
  by_cases ht : touch r x
  · refine comb_last hA hB L' x j 0 rs s _ r hr (by simpa using hj) ht (fun i r' hi h1 h2 => ?_)
    simp only [Nat.zero_add]
    rw [hL i (by omega)]
    cases hLi : L i with
    | false => rfl
    | true => exact absurd h2 (hx i r' x hi h1 hLi ht)
  · rw [hA r _ x ht]
    refine comb_eq hA hB L' L x 0 rs s (fun i r' hi h1 => ?_)
    simp only [Nat.zero_add]
    refine hL i fun e => ?_
    subst e
    rw [hr] at hi; cases hi
    exact ht h1
end

/-! ### One operation -/
variable {P : Program}

/-- The state is read now. -/
def Now (σ : Sig) (π : Prot) (w : World) (t : List AV) (h : Nat → Option Blk) (a : Act) (w' : World) : Prop :=
  a.defers = [] ∧ ∃ σ' π', VRs σ' π' w' t a.tmps ∧ Done σ π w σ' π' w' h

theorem Now.put {σ : Sig} {π : Prot} {w w' : World} {t : List AV} {h : Nat → Option Blk} {a : Act} {σ' : Sig} {π' : Prot} (hd : a.defers = []) (ht : VRs σ' π' w' t a.tmps) (dst : Option Nat) {v : AV} {u : Value} (hv : VR σ' π' w' v u)
    (D : Done σ π w σ' π' w' h) : Now σ π w (putA t dst v) h (a.put dst u) w' := by
  cases dst with
  | none => exact ⟨hd, σ', π', ht, D⟩
  | some d =>
    refine ⟨hd, σ', π', ?_, D⟩
    refine ⟨by simp [putA, Act.put, ht.1], fun i v' u' hi hu => ?_⟩
    simp only [putA, Act.put] at hi hu
    by_cases e : d = i
    · subst e
      rw [List.getElem?_set] at hi
      simp only [if_true] at hi
      split at hi
      · rename_i hlt
        cases hi
        have : d < a.tmps.size := by rw [ht.1]; exact hlt
        rw [Array.getElem?_setIfInBounds_self_of_lt this] at hu
        cases hu
        exact hv
      · cases hi
    · rw [List.getElem?_set_ne e] at hi
      rw [Array.getElem?_setIfInBounds_ne e] at hu
      exact ht.2 i v' u' hi hu

theorem wanted_iff {σ : Sig} {π : Prot} {w : World} {t : List AV} {a : Act} (ht : VRs σ π w t a.tmps) (ops : Array Oper) (o : Oper) {b : Bool} (e : wantedA ops.toList t o = some b) : Region.wanted o (yielded ops a.tmps) = b := by
  revert e
  unfold Region.wanted wantedA
  cases o.guard with
  | none => intro e; cases e; rfl
  | some g =>
    obtain ⟨j, want⟩ := g
    simp only [yielded, Array.getElem?_toList]
    cases ho : (ops[j]?).bind (·.dst) with
    | none => intro e; cases e; simp
    | some d =>
      simp only [Option.bind_some]
      rcases Nat.lt_or_ge d t.length with hlt | hge
      · have hd : d < a.tmps.size := by rw [ht.1]; exact hlt
        have h1 := ht.2 d _ _ (List.getElem?_eq_getElem hlt) (Array.getElem?_eq_getElem hd)
        rw [List.getElem?_eq_getElem hlt, Array.getElem?_eq_getElem hd]
        generalize t[d] = v at h1
        generalize a.tmps[d] = u at h1
        intro e
        cases h1 <;> cases e <;> simp
      · rw [List.getElem?_eq_none hge, Array.getElem?_eq_none (by rw [ht.1]; exact hge)]
        intro e
        cases e
        simp

section
variable {σ : Sig} {π : Prot} {w : World} {call : CallT} {cfg : Nat → Bool × Bool} (hcall : CallOK P call)
include hcall

theorem one_op {ops : Array Oper} {t : List AV} {h : Nat → Option Blk} {n : Nat} {δ : Delta} {L : List Nat} {o : Oper} {a : Act} {w1 : World} {K : Act → World → Prop} {Q : Exit → Act → World → Prop}
    (hs : stepF (tiOf P) call cfg ops.toList n t h o = some (δ, L)) (hn : ∀ i, i < δ.nw.length → h (n + i) = none) (N : Now σ π w t h a w1)
    (hK : ∀ a' w', Now σ π w (putA t o.dst δ.v) (updF h n δ) a' w' → K a' w') :
    if Region.wanted o (yielded ops a.tmps) then o.wp P a w1 K Q ∨ (o.asks P a w1 ∧ LetsOut Q) else K (a.put o.dst undef) w1 := by
  obtain ⟨hd, σ1, π1, ht, D⟩ := N
  unfold stepF at hs
  split at hs
  · rename_i hw
    rw [wanted_iff ht _ _ hw, if_pos rfl]
    refine .inl (op_all hcall cfg D.rel ht o hn hs fun u σ' π' w' hv D' => hK _ _ ?_)
    exact Now.put hd (ht.mono D'.ext) _ hv (D.trans D')
  · rename_i hw
    rw [wanted_iff ht _ _ hw, if_neg (by simp)]
    cases hs
    refine hK _ _ ?_
    rw [updF_none]
    exact Now.put hd ht _ (undef_vr _ _ _) D
  · cases hs

/-! ### In the order of the text -/
omit hcall in
theorem upd_fn : ∀ (l : List (Nat × Blk)) (h : List Blk), (∀ p ∈ l, p.1 < h.length) → ((upd h l)[·]?) = updF1 (h[·]?) l ∧ (upd h l).length = h.length
  | [], h, _ => ⟨rfl, rfl⟩
  | (b, x) :: l, h, hl => by
    have hb : b < h.length := hl (b, x) (by simp)
    obtain ⟨h1, h2⟩ := upd_fn l (h.set b x) (fun p hp => by rw [List.length_set]; exact hl p (by simp [hp]))
    refine ⟨?_, by simpa [upd] using h2⟩
    show ((upd (h.set b x) l)[·]?) = updF1 (fun c => if c = b then some x else h[c]?) l
    rw [h1]
    congr 1
    funext c
    by_cases e : c = b
    · subst e; simp [hb]
    · rw [if_neg e, List.getElem?_set_ne (fun h => e h.symm)]

omit hcall in
theorem after_fn {st : St} {dst : Option Nat} {δ : Delta} (hu : upOk st.h.length δ = true) : ((st.after dst δ).h[·]?) = updF (st.h[·]?) st.h.length δ ∧ (st.after dst δ).h.length = st.h.length + δ.nw.length := by
  have hl : ∀ p ∈ δ.up, p.1 < st.h.length := fun p hp => by
    have := List.all_eq_true.1 hu p hp
    simpa using this
  obtain ⟨h1, h2⟩ := upd_fn δ.up st.h hl
  refine ⟨?_, by simp [St.after, h2]⟩
  funext b
  have e1 : (upd st.h δ.up)[b]? = updF1 (st.h[·]?) δ.up b := congrFun h1 b
  simp only [St.after, updF]
  rcases Nat.lt_or_ge b st.h.length with hlt | hge
  · rw [List.getElem?_append_left (by omega), if_neg (by omega), e1]
  · rw [List.getElem?_append_right (by omega), h2]
    split
    · rfl
    · rename_i hb
      rw [List.getElem?_eq_none (by omega), ← e1, List.getElem?_eq_none (by omega)]

theorem ops_text {ops : Array Oper} {Q : Exit → Act → World → Prop} : ∀ (l : List Oper) (i : Nat) (st st' : St) (a : Act) (w1 : World), ops.toList.drop i = l → runOps (tiOf P) call cfg ops.toList l st = some st' → Now σ π w st.t (st.h[·]?) a w1 →
    (∀ a' w', Now σ π w st'.t (st'.h[·]?) a' w' → Q .normal a' w') → wpOps P ops Q (List.range' i l.length) a w1
  | [], i, st, st', a, w1, _, hr, N, hQ => by
    cases hr
    exact hQ _ _ N
  | o :: l, i, st, st', a, w1, hd, hr, N, hQ => by
    simp only [runOps] at hr
    split at hr
    · rename_i δ L hs
      split at hr
      · rename_i hu
        have hi : ops[i]? = some o := by
          have : (ops.toList.drop i)[0]? = some o := by rw [hd]; rfl
          simpa using this
        have hd' : ops.toList.drop (i + 1) = l := by rw [← List.drop_drop, hd]; rfl
        obtain ⟨h1, h2⟩ := after_fn (dst := o.dst) hu
        simp only [List.length_cons, List.range'_succ, wpOps, hi]
        refine one_op hcall hs (fun k _ => List.getElem?_eq_none (by omega)) N fun a' w' N' => ?_
        refine ops_text l (i + 1) (st.after o.dst δ) st' a' w' hd' hr ?_ hQ
        rw [h1]
        exact N'
      · cases hr
    · cases hr

theorem region_text {id : Nat} {ops : Array Oper} {Q : Exit → Act → World → Prop} {st st' : St} {a : Act} {w1 : World} (hr : runOps (tiOf P) call cfg ops.toList ops.toList st = some st') (N : Now σ π w st.t (st.h[·]?) a w1)
    (hQ : ∀ a' w', Now σ π w st'.t (st'.h[·]?) a' w' → Q .normal a' w') : (Code.region id ops false).wp P Q a w1 := by
  refine wp_region ?_
  have := ops_text hcall (Q := Q) ops.toList 0 st st' a w1 (by simp) hr N hQ
  rwa [Array.length_toList, ← List.range_eq_range'] at this
end

end Go.Ws

namespace Go.Ws
set_option linter.unusedVariables false
set_option linter.unusedSimpArgs false

variable {P : Program}

/-! ### An operation answers by what it looks at -/
theorem am_local {α : Type} : ∀ (m : AM α) (h h' : Nat → Option Blk) (a : α) (l : List Nat), m.run h = some (a, l) → (∀ b ∈ l, h' b = h b) → m.run h' = some (a, l)
  | .ret _, _, _, _, _, e, _ => e
  | .fail, _, _, _, _, e, _ => by cases e
  | .rd b k, h, h', a, l, e, hl => by
    simp only [AM.run] at e ⊢
    split at e
    · cases e
    · rename_i x hx
      split at e
      · cases e
      · rename_i a' l' he
        cases e
        rw [hl b (by simp), hx]
        simp only []
        rw [am_local (k x) h h' _ _ he (fun c hc => hl c (by simp [hc]))]

theorem evA_congr {t t' : List AV} {x : Operand} (h : ∀ d, x = .tmp d → t[d]? = t'[d]?) : evA t x = evA t' x := by
  cases x with
  | tmp d => simp [evA, List.getD_eq_getElem?_getD, h d rfl]
  | _ => rfl

theorem evL_congr {t t' : List AV} : ∀ {l : List Operand}, (∀ x ∈ l, evA t x = evA t' x) → evL t l = evL t' l
  | [], _ => rfl
  | x :: l, h => by simp only [evL]; rw [h x (by simp), evL_congr (fun y hy => h y (by simp [hy]))]

theorem evP_congr {t t' : List AV} : ∀ {l : List (Nat × Operand)}, (∀ p ∈ l, evA t p.2 = evA t' p.2) → evP t l = evP t' l
  | [], _ => rfl
  | (i, x) :: l, h => by simp only [evP]; rw [h (i, x) (by simp), evP_congr (fun y hy => h y (by simp [hy]))]

theorem evO_congr {t t' : List AV} {x : Option Operand} (h : ∀ y, x = some y → evA t y = evA t' y) : evO t x = evO t' x := by
  cases x with
  | none => rfl
  | some x => simp only [evO]; rw [h x rfl]

theorem aop_congr {T : Nat → Option TI} {call : CallT} {cfg : Nat → Bool × Bool} {n : Nat} {t t' : List AV} (o : Op) (h : ∀ x ∈ o.operands, evA t x = evA t' x) : aop T call cfg n t o = aop T call cfg n t' o := by
  cases o <;> simp only [Op.operands] at h <;> simp only [aop]
  case build ty ps => rw [evP_congr (t' := t') fun p hp => h p.2 (by simp only [List.mem_toArray, List.mem_map]; exact ⟨p, hp, rfl⟩)]
  case buildSlice ty len ps => rw [evP_congr (t' := t') fun p hp => h p.2 (by simp only [List.mem_toArray, List.mem_map]; exact ⟨p, hp, rfl⟩)]
  case makeFunc fn first c => cases fn <;> simp only [] ; rw [evL_congr (t' := t') fun x hx => h x (by simp at hx; simp [hx])]
  case makeMap ty r => cases r <;> rfl
  case slice ty x lo hi mx =>
    rw [h x (by simp), evO_congr (t' := t') (x := lo) fun y hy => h y (by simp [hy]), evO_congr (t' := t') (x := hi) fun y hy => h y (by simp [hy]), evO_congr (t' := t') (x := mx) fun y hy => h y (by simp [hy])]
  case call c =>
    have hargs : evL t c.args.toList = evL t' c.args.toList := evL_congr fun x hx => h x (by simp at hx; simp [Call.operands, hx])
    rw [hargs]
    cases hc : c.callee with
    | value f => simp only []; rw [h f (by simp [Call.operands, hc])]
    | _ => rfl
  all_goals (first | rfl | (simp only [List.mem_toArray, List.mem_cons, List.not_mem_nil, or_false, forall_eq_or_imp, forall_eq] at h; simp only [h]; done) | (simp_all; done))

theorem stepF_congr {T : Nat → Option TI} {call : CallT} {cfg : Nat → Bool × Bool} {ops : List Oper} {n : Nat} {t t' : List AV} {h h' : Nat → Option Blk} {o : Oper} {δ : Delta} {L : List Nat}
    (hs : stepF T call cfg ops n t h o = some (δ, L)) (ht : ∀ d ∈ looks ops o, t'[d]? = t[d]?) (hh : ∀ b ∈ L, h' b = h b) : stepF T call cfg ops n t' h' o = some (δ, L) := by
  have hw : wantedA ops t' o = wantedA ops t o := by
    unfold wantedA
    cases hg : o.guard with
    | none => rfl
    | some g =>
      obtain ⟨j, want⟩ := g
      simp only []
      cases ho : (ops[j]?).bind (·.dst) with
      | none => rfl
      | some d =>
        simp only []
        rw [ht d (by simp [looks, hg, ho])]
  unfold stepF at hs ⊢
  rw [hw]
  split at hs
  · rw [aop_congr (t' := t) o.op fun x hx => evA_congr fun d hd => ht d (by
      subst hd
      exact List.mem_append_left _ (List.mem_filterMap.2 ⟨.tmp d, by simpa using hx, rfl⟩))]
    exact am_local _ _ _ _ _ hs hh
  · exact hs
  · cases hs

/-! ### Temporaries and blocks as places -/
def upT (len : Nat) (r : Rec) (s : Nat → Option AV) : Nat → Option AV := fun x => if r.dst = some x then (if x < len then some r.δ.v else none) else s x
def tchT (r : Rec) (x : Nat) : Prop := r.dst = some x
theorem upT_A (len : Nat) (r : Rec) (s : Nat → Option AV) (x : Nat) (h : ¬ tchT r x) : upT len r s x = s x := if_neg h
theorem upT_B (len : Nat) (r : Rec) (s s' : Nat → Option AV) (x : Nat) (h : tchT r x) : upT len r s x = upT len r s' x := by
  simp only [tchT] at h
  simp [upT, h]
theorem putA_fn (t : List AV) (r : Rec) : ((putA t r.dst r.δ.v)[·]?) = upT t.length r (t[·]?) := by
  funext x
  unfold upT putA
  cases r.dst with
  | none => simp
  | some d =>
    simp only [Option.some.injEq]
    by_cases e : d = x
    · subst e
      rw [if_pos rfl, List.getElem?_set]
      simp
    · rw [if_neg e, List.getElem?_set_ne e]

def upH (r : Rec) (h : Nat → Option Blk) : Nat → Option Blk := updF h r.n r.δ
def tchH (r : Rec) (b : Nat) : Prop := b ∈ r.δ.up.map (·.1) ++ List.range' r.n r.δ.nw.length
theorem upH_A (r : Rec) (s : Nat → Option Blk) (b : Nat) (h : ¬ tchH r b) : upH r s b = s b := by
  simp only [tchH, List.mem_append, not_or, List.mem_range'_1] at h
  unfold upH updF
  rw [if_neg h.2]
  exact updF1_not h.1
theorem updF1_in {b : Nat} : ∀ {l : List (Nat × Blk)} {h h' : Nat → Option Blk}, b ∈ l.map (·.1) ∨ h b = h' b → updF1 h l b = updF1 h' l b
  | [], _, _, hb => by simpa [updF1] using hb
  | (c, x) :: l, h, h', hb => by
    simp only [updF1]
    refine updF1_in ?_
    by_cases e : b = c
    · exact .inr (by simp [e])
    · rcases hb with hb | hb
      · simp only [List.map_cons, List.mem_cons] at hb
        exact .inl (hb.resolve_left e)
      · exact .inr (by simp [e, hb])
theorem upH_B (r : Rec) (s s' : Nat → Option Blk) (b : Nat) (h : tchH r b) : upH r s b = upH r s' b := by
  simp only [tchH, List.mem_append, List.mem_range'_1] at h
  unfold upH updF
  split
  · rfl
  · rename_i hn
    exact updF1_in (.inl (h.resolve_right hn))

/-! ### The text's run -/
section
variable (T : Nat → Option TI) (call : CallT) (cfg : Nat → Bool × Bool) (ops : List Oper)

/-- Each record is its operation's, at the state that the text's order comes to. -/
def TextRun (len : Nat) : List Oper → List Rec → (Nat → Option AV) → (Nat → Option Blk) → Prop
  | [], [], _, _ => True
  | o :: l, r :: rs, t, h => r.dst = o.dst ∧ (∀ tl : List AV, (tl[·]?) = t → stepF T call cfg ops r.n tl h o = some (r.δ, r.l)) ∧ (∀ b, r.n ≤ b → h b = none) ∧ TextRun len l rs (upT len r t) (upH r h)
  | _, _, _, _ => False

variable {T call cfg ops}
theorem textRun_of : ∀ (l : List Oper) (st st' : St) (rs : List Rec), runOpsD T call cfg ops l st = some (st', rs) →
    TextRun T call cfg ops st.t.length l rs (st.t[·]?) (st.h[·]?) ∧ (st'.t[·]?) = comb (upT st.t.length) (fun _ => true) 0 rs (st.t[·]?) ∧ (st'.h[·]?) = comb upH (fun _ => true) 0 rs (st.h[·]?) ∧ st'.t.length = st.t.length
  | [], st, st', rs, e => by cases e; exact ⟨trivial, rfl, rfl, rfl⟩
  | o :: l, st, st', rs, e => by
    simp only [runOpsD] at e
    split at e
    · rename_i δ L hs
      split at e
      · rename_i hu
        split at e
        · rename_i st2 rs2 hr
          cases e
          obtain ⟨h1, h2⟩ := after_fn (dst := o.dst) hu
          have hlen : (st.after o.dst δ).t.length = st.t.length := by unfold St.after putA; cases o.dst <;> simp
          obtain ⟨i1, i2, i3, i4⟩ := textRun_of l _ _ _ hr
          have ht : ((st.after o.dst δ).t[·]?) = upT st.t.length ⟨st.h.length, o.dst, δ, L⟩ (st.t[·]?) := putA_fn st.t ⟨st.h.length, o.dst, δ, L⟩
          rw [hlen, ht, h1] at i1
          rw [hlen, ht] at i2
          rw [h1] at i3
          have shift : ∀ {K V : Type} (up : Rec → (K → V) → K → V) (k : Nat) (rs : List Rec) (s : K → V), comb up (fun _ => true) (k + 1) rs s = comb up (fun _ => true) k rs s := by
            intro K V up k rs
            induction rs generalizing k with
            | nil => intro s; rfl
            | cons r rs ih => intro s; exact ih (k + 1) _
          refine ⟨⟨rfl, fun tl htl => ?_, fun b hb => List.getElem?_eq_none hb, i1⟩, ?_, ?_, by omega⟩
          · have : tl = st.t := List.ext_getElem? fun i => congrFun htl i
            rw [this]; exact hs
          · rw [i2]
            exact (shift _ 0 rs2 _).symm
          · rw [i3]
            exact (shift _ 0 rs2 _).symm
        · cases e
      · cases e
    · cases e

theorem textRun_len : ∀ {len : Nat} {l : List Oper} {rs : List Rec} {t : Nat → Option AV} {h : Nat → Option Blk}, TextRun T call cfg ops len l rs t h → rs.length = l.length
  | _, [], [], _, _, _ => rfl
  | _, _ :: _, _ :: _, _, _, e => by simp [textRun_len e.2.2.2]

/-- One record, at the state that those ahead of it come to. -/
theorem textRun_at {len : Nat} (l : List Oper) : ∀ (rs : List Rec) (t : Nat → Option AV) (h : Nat → Option Blk), TextRun T call cfg ops len l rs t h → ∀ (j k : Nat) o r, l[j]? = some o → rs[j]? = some r →
    r.dst = o.dst ∧ (∀ tl : List AV, (tl[·]?) = comb (upT len) (fun i => decide (i < k + j)) k rs t → stepF T call cfg ops r.n tl (comb upH (fun i => decide (i < k + j)) k rs h) o = some (r.δ, r.l)) ∧
      (∀ b, r.n ≤ b → comb upH (fun i => decide (i < k + j)) k rs h b = none) := by
  induction l with
  | nil => intro rs t h e j k o r ho hr; simp at ho
  | cons o0 l ih =>
    intro rs t h e j k o r ho hr
    cases rs with
    | nil => exact e.elim
    | cons r0 rs =>
      cases j with
      | zero =>
        simp only [List.getElem?_cons_zero, Option.some.injEq] at ho hr
        subst ho hr
        have h1 : comb (upT len) (fun i => decide (i < k + 0)) k (r0 :: rs) t = t := by
          funext x
          refine comb_not (upT_A len) (upT_B len) _ x k _ t (fun i r hi ht => ?_)
          simp
        have h2 : comb upH (fun i => decide (i < k + 0)) k (r0 :: rs) h = h := by
          funext x
          refine comb_not upH_A upH_B _ x k _ h (fun i r hi ht => ?_)
          simp
        rw [h1, h2]
        exact ⟨e.1, e.2.1, e.2.2.1⟩
      | succ j =>
        have := ih rs _ _ e.2.2.2 j (k + 1) o r (by simpa using ho) (by simpa using hr)
        have hk : (fun i => decide (i < k + (j + 1))) = (fun i => decide (i < k + 1 + j)) := by funext i; rw [show k + (j + 1) = k + 1 + j by omega]
        have hd : decide (k < k + 1 + j) = true := decide_eq_true (by omega)
        have c1 : comb (upT len) (fun i => decide (i < k + (j + 1))) k (r0 :: rs) t = comb (upT len) (fun i => decide (i < k + 1 + j)) (k + 1) rs (upT len r0 t) := by
          rw [hk]; simp only [comb, hd, if_true]
        have c2 : comb upH (fun i => decide (i < k + (j + 1))) k (r0 :: rs) h = comb upH (fun i => decide (i < k + 1 + j)) (k + 1) rs (upH r0 h) := by
          rw [hk]; simp only [comb, hd, if_true]
        rw [c1, c2]
        exact this
end

/-! ### Edges -/
theorem befs_spec : ∀ (l : List Oper) (acc : List Nat), (befs l acc).length = acc.length + l.length ∧ (∀ j, j < acc.length → (befs l acc)[j]? = acc[j]?) ∧
    ∀ j o, l[j]? = some o → (befs l acc)[acc.length + j]? = some (befOne ((befs l acc).take (acc.length + j)) o)
  | [], acc => ⟨rfl, fun _ _ => rfl, fun j o h => by simp at h⟩
  | o :: l, acc => by
    obtain ⟨h1, h2, h3⟩ := befs_spec l (acc ++ [befOne acc o])
    simp only [List.length_append, List.length_singleton] at h1 h2 h3
    have hp : ∀ k, k ≤ acc.length + 1 → (befs (o :: l) acc).take k = (acc ++ [befOne acc o]).take k := by
      intro k hk
      refine List.ext_getElem? fun i => ?_
      rw [List.getElem?_take, List.getElem?_take]
      split
      · exact h2 i (by omega)
      · rfl
    refine ⟨by simp only [befs, List.length_cons]; omega, fun j hj => ?_, fun j o' ho => ?_⟩
    · simp only [befs]
      rw [h2 j (by omega), List.getElem?_append_left hj]
    · cases j with
      | zero =>
        simp at ho; subst ho
        rw [hp _ (by omega)]
        simp only [befs, Nat.add_zero]
        rw [h2 acc.length (by omega), List.take_left']
        · simp
        · rfl
      | succ j =>
        have := h3 j o' (by simpa using ho)
        simp only [befs]
        rw [show acc.length + (j + 1) = acc.length + 1 + j by omega]
        exact this

theorem fold_bit (acc : List Nat) (i : Nat) : ∀ (l : List Edge) (s : Nat), (l.foldl (fun s e => if Region.binds .any e then s ||| 2 ^ e.on ||| acc.getD e.on 0 else s) s).testBit i = true →
    s.testBit i = true ∨ ∃ e ∈ l, Region.binds .any e = true ∧ (e.on = i ∨ (acc.getD e.on 0).testBit i = true)
  | [], s, h => .inl h
  | e :: l, s, h => by
    rcases fold_bit acc i l _ h with h | ⟨e', he, hb⟩
    · replace h : (if Region.binds Region.Mode.any e = true then s ||| 2 ^ e.on ||| acc.getD e.on 0 else s).testBit i = true := h
      split at h
      · rename_i hb
        simp only [Nat.testBit_or, Bool.or_eq_true, Nat.testBit_two_pow, decide_eq_true_eq] at h
        rcases h with (h | h) | h
        · exact .inl h
        · exact .inr ⟨e, by simp, hb, .inl h⟩
        · exact .inr ⟨e, by simp, hb, .inr h⟩
      · exact .inl h
    · exact .inr ⟨e', by simp [he], hb⟩

/-- A set that holds what binds its members holds all that comes ahead of them. -/
theorem closed_bef {ops : List Oper} {L : Nat → Bool} (hc : ∀ j o, ops[j]? = some o → L j = true → ∀ e ∈ o.after, Region.binds .any e = true → L e.on = true) :
    ∀ (j i : Nat), L j = true → ((befs ops []).getD j 0).testBit i = true → L i = true := by
  intro j
  induction j using Nat.strongRecOn with
  | _ j ih =>
  intro i hj hb
  obtain ⟨h1, h2, h3⟩ := befs_spec ops []
  simp only [List.length_nil, Nat.zero_add] at h1 h2 h3
  rcases Nat.lt_or_ge j ops.length with hlt | hge
  · have ho := h3 j ops[j] (List.getElem?_eq_getElem hlt)
    rw [List.getD_eq_getElem?_getD, ho] at hb
    simp only [Option.getD_some, befOne] at hb
    rcases fold_bit _ i _ _ hb with h | ⟨e, he, hbd, h⟩
    · simp at h
    · have hLe := hc j ops[j] (List.getElem?_eq_getElem hlt) hj e (by simpa using he) hbd
      rcases h with h | h
      · rw [← h]; exact hLe
      · rw [List.getD_eq_getElem?_getD, List.getElem?_take] at h
        split at h
        · rename_i hej
          refine ih e.on hej i hLe ?_
          rw [List.getD_eq_getElem?_getD]
          exact h
        · simp at h
  · rw [List.getD_eq_getElem?_getD, List.getElem?_eq_none (by omega)] at hb
    simp at hb

theorem edgesOk_spec : ∀ (l : List Oper) (k : Nat), edgesOk k l = true → ∀ j o, l[j]? = some o → ∀ e ∈ o.after, Region.binds .any e = true → e.on < k + j
  | o0 :: l, k, h, 0, o, ho, e, he, hb => by
    simp at ho; subst ho
    simp only [edgesOk, Bool.and_eq_true, List.all_eq_true] at h
    have := h.1 e (by simpa using he)
    simp [hb] at this
    omega
  | o0 :: l, k, h, j + 1, o, ho, e, he, hb => by
    simp only [edgesOk, Bool.and_eq_true] at h
    have := edgesOk_spec l (k + 1) h.2 j o (by simpa using ho) e he hb
    omega
  | [], _, _, _, _, ho, _, _, _ => by simp at ho

theorem feet_at (ops : List Oper) : ∀ (l : List Oper) (rs : List Rec) (j : Nat) o r, l[j]? = some o → rs[j]? = some r → (feet ops l rs)[j]? = some (footOf ops o r)
  | o0 :: l, r0 :: rs, 0, o, r, ho, hr => by simp at ho hr; subst ho hr; rfl
  | o0 :: l, r0 :: rs, j + 1, o, r, ho, hr => by simpa [feet] using feet_at ops l rs j o r (by simpa using ho) (by simpa using hr)
  | [], _, _, _, _, ho, _ => by simp at ho
  | _ :: _, [], _, _, _, _, hr => by simp at hr

theorem disj_spec {a b : List Nat} (h : disj a b = true) {x : Nat} (ha : x ∈ a) (hb : x ∈ b) : False := by
  have := List.all_eq_true.1 h x ha
  simp [hb] at this

theorem feetOk_spec {before : List Nat} {fs : List Foot} (h : feetOk before fs = true) {i j : Nat} {x y : Foot} (hij : i < j) (hx : fs[i]? = some x) (hy : fs[j]? = some y) : (before.getD j 0).testBit i = true ∨ x.apart y = true := by
  have hj := (List.getElem?_eq_some_iff.1 hy).1
  have h1 := List.all_eq_true.1 h j (List.mem_range.2 hj)
  have h2 := List.all_eq_true.1 h1 i (List.mem_range.2 hij)
  rw [hx, hy] at h2
  simpa using h2

theorem apart_spec {x y : Foot} (h : x.apart y = true) : (∀ b, b ∈ x.w → b ∈ y.w → False) ∧ (∀ b, b ∈ x.w → b ∈ y.r → False) ∧ (∀ b, b ∈ x.r → b ∈ y.w → False) ∧
    (∀ b, b ∈ x.tw → b ∈ y.tw → False) ∧ (∀ b, b ∈ x.tw → b ∈ y.tr → False) ∧ (∀ b, b ∈ x.tr → b ∈ y.tw → False) := by
  simp only [Foot.apart, Bool.and_eq_true] at h
  exact ⟨fun b => disj_spec h.1.1.1.1.1, fun b => disj_spec h.1.1.1.1.2, fun b => disj_spec h.1.1.1.2, fun b => disj_spec h.1.1.2, fun b => disj_spec h.1.2, fun b => disj_spec h.2⟩

end Go.Ws

namespace Go.Ws
set_option linter.unusedVariables false
set_option linter.unusedSimpArgs false

variable {P : Program} {σ : Sig} {π : Prot} {w : World} {call : CallT} {cfg : Nat → Bool × Bool}

/-- What is listed. -/
def lst (l : Array Bool) : Nat → Bool := fun i => l.getD i false

theorem lst_set {l : Array Bool} {j : Nat} (hj : j < l.size) : lst (l.setIfInBounds j true) j = true ∧ ∀ i, i ≠ j → lst (l.setIfInBounds j true) i = lst l i := by
  refine ⟨by simp [lst, hj], fun i hi => ?_⟩
  simp [lst, Array.getElem?_setIfInBounds_ne (Ne.symm hi)]

/-- The records, and that they are apart. -/
structure Drawn (P : Program) (call : CallT) (cfg : Nat → Bool × Bool) (ops : List Oper) (rs : List Rec) (t0 : List AV) (h0 : Nat → Option Blk) : Prop where
  run : TextRun (tiOf P) call cfg ops t0.length ops rs (t0[·]?) h0
  edges : edgesOk 0 ops = true
  feet : feetOk (befs ops []) (feet ops ops rs) = true

theorem Drawn.pair {ops : List Oper} {rs : List Rec} {t0 : List AV} {h0 : Nat → Option Blk} (D : Drawn P call cfg ops rs t0 h0) {i j : Nat} {oi oj : Oper} {ri rj : Rec} (hij : i < j)
    (hi : ops[i]? = some oi) (hj : ops[j]? = some oj) (hri : rs[i]? = some ri) (hrj : rs[j]? = some rj) :
    ((befs ops []).getD j 0).testBit i = true ∨ (footOf ops oi ri).apart (footOf ops oj rj) = true :=
  feetOk_spec D.feet hij (feet_at ops ops rs i oi ri hi hri) (feet_at ops ops rs j oj rj hj hrj)

/-- What one more operation finds, where what binds it is listed. -/
theorem Drawn.step {ops : List Oper} {rs : List Rec} {t0 : List AV} {h0 : Nat → Option Blk} (D : Drawn P call cfg ops rs t0 h0) {L : Nat → Bool}
    (hc : ∀ j o, ops[j]? = some o → L j = true → ∀ e ∈ o.after, Region.binds .any e = true → L e.on = true) {j : Nat} {o : Oper} {r : Rec} (ho : ops[j]? = some o) (hr : rs[j]? = some r) (hj : L j = false)
    (hb : ∀ e ∈ o.after, Region.binds .any e = true → L e.on = true) {L' : Nat → Bool} (hj' : L' j = true) (hL : ∀ i, i ≠ j → L' i = L i) :
    (∀ tl : List AV, (tl[·]?) = comb (upT t0.length) L 0 rs (t0[·]?) → stepF (tiOf P) call cfg ops r.n tl (comb upH L 0 rs h0) o = some (r.δ, r.l)) ∧
    (∀ i, i < r.δ.nw.length → comb upH L 0 rs h0 (r.n + i) = none) ∧
    comb (upT t0.length) L' 0 rs (t0[·]?) = upT t0.length r (comb (upT t0.length) L 0 rs (t0[·]?)) ∧
    comb upH L' 0 rs h0 = upH r (comb upH L 0 rs h0) ∧ r.dst = o.dst := by
  have hlen := textRun_len D.run
  have opAt : ∀ i r', rs[i]? = some r' → ∃ o', ops[i]? = some o' := fun i r' h => by
    have := (List.getElem?_eq_some_iff.1 h).1
    exact ⟨_, List.getElem?_eq_getElem (by omega)⟩
  have hc' : ∀ k o, ops[k]? = some o → L' k = true → ∀ e ∈ o.after, Region.binds .any e = true → L' e.on = true := by
    intro k o' hk hl e he hbd
    by_cases hkj : k = j
    · subst hkj
      rw [ho] at hk; cases hk
      by_cases he' : e.on = k
      · rw [he']; exact hj'
      · rw [hL _ he']; exact hb e he hbd
    · rw [hL k hkj] at hl
      by_cases he' : e.on = j
      · rw [he']; exact hj'
      · rw [hL _ he']; exact hc k o' hk hl e he hbd
  obtain ⟨hdst, hrun, hnone⟩ := textRun_at ops rs _ _ D.run j 0 o r ho hr
  simp only [Nat.zero_add] at hrun hnone
  have key : ∀ i r', rs[i]? = some r' → L i ≠ decide (i < j) → ∃ o', ops[i]? = some o' ∧ ((i < j ∧ (footOf ops o' r').apart (footOf ops o r) = true) ∨ (j < i ∧ L i = true ∧ (footOf ops o r).apart (footOf ops o' r') = true)) := by
    intro i r' hi hne
    obtain ⟨o', ho'⟩ := opAt i r' hi
    refine ⟨o', ho', ?_⟩
    rcases Nat.lt_trichotomy i j with hij | hij | hij
    · refine .inl ⟨hij, (D.pair hij ho' ho hi hr).resolve_left fun hbit => ?_⟩
      have := closed_bef hc' j i hj' hbit
      rw [hL i (by omega)] at this
      exact hne (by rw [this]; simp [hij])
    · subst hij
      exact absurd (by rw [hj]; simp) hne
    · have hli : L i = true := by
        cases h : L i with
        | true => rfl
        | false => exact absurd (by rw [h]; simp; omega) hne
      refine .inr ⟨hij, hli, (D.pair hij ho ho' hr hi).resolve_left fun hbit => ?_⟩
      have := closed_bef hc i j hli hbit
      rw [hj] at this
      cases this
  have agreeT : ∀ d, d ∈ looks ops o → comb (upT t0.length) L 0 rs (t0[·]?) d = comb (upT t0.length) (fun i => decide (i < j)) 0 rs (t0[·]?) d := by
    intro d hd
    refine comb_eq (upT_A _) (upT_B _) _ _ d 0 rs _ fun i r' hi ht => ?_
    simp only [Nat.zero_add]
    refine Classical.byContradiction fun hne => ?_
    obtain ⟨o', ho', h⟩ := key i r' hi hne
    have hw : d ∈ (footOf ops o' r').tw := by simp only [tchT] at ht; simp [footOf, ht]
    have hrd : d ∈ (footOf ops o r).tr := hd
    rcases h with ⟨_, h⟩ | ⟨_, _, h⟩
    · exact (apart_spec h).2.2.2.2.1 d hw hrd
    · exact (apart_spec h).2.2.2.2.2 d hrd hw
  have agreeH : ∀ b, b ∈ r.l → comb upH L 0 rs h0 b = comb upH (fun i => decide (i < j)) 0 rs h0 b := by
    intro b hb
    refine comb_eq upH_A upH_B _ _ b 0 rs _ fun i r' hi ht => ?_
    simp only [Nat.zero_add]
    refine Classical.byContradiction fun hne => ?_
    obtain ⟨o', ho', h⟩ := key i r' hi hne
    have hw : b ∈ (footOf ops o' r').w := ht
    have hrd : b ∈ (footOf ops o r).r := hb
    rcases h with ⟨_, h⟩ | ⟨_, _, h⟩
    · exact (apart_spec h).2.1 b hw hrd
    · exact (apart_spec h).2.2.1 b hrd hw
  have apartW : ∀ i r' x, j < i → rs[i]? = some r' → L i = true → tchH r x → ¬ tchH r' x := by
    intro i r' x hij hi hli h1 h2
    obtain ⟨o', ho', h⟩ := key i r' hi (by rw [hli]; simp; omega)
    rcases h with ⟨hlt, _⟩ | ⟨_, _, h⟩
    · omega
    · exact (apart_spec h).1 x h1 h2
  have apartT : ∀ i r' x, j < i → rs[i]? = some r' → L i = true → tchT r x → ¬ tchT r' x := by
    intro i r' x hij hi hli h1 h2
    obtain ⟨o', ho', h⟩ := key i r' hi (by rw [hli]; simp; omega)
    simp only [tchT] at h1 h2
    rcases h with ⟨hlt, _⟩ | ⟨_, _, h⟩
    · omega
    · exact (apart_spec h).2.2.2.1 x (by simp [footOf, h1]) (by simp [footOf, h2])
  refine ⟨fun tl htl => ?_, fun i hi => ?_, comb_ins (upT_A _) (upT_B _) L L' j rs _ r hr hj' hL apartT, comb_ins upH_A upH_B L L' j rs _ r hr hj' hL apartW, hdst⟩
  · -- a list for the prefix's temporaries
    have hex : ∃ tp : List AV, (tp[·]?) = comb (upT t0.length) (fun i => decide (i < j)) 0 rs (t0[·]?) := by
      have gen : ∀ (M : Nat → Bool) (k : Nat) (l : List Rec) (t : List AV), t.length = t0.length → ∃ tp : List AV, (tp[·]?) = comb (upT t0.length) M k l (t[·]?) := by
        intro M k l
        induction l generalizing k with
        | nil => intro t _; exact ⟨t, rfl⟩
        | cons r l ih =>
          intro t hlen
          simp only [comb]
          split
          · rw [← hlen, ← putA_fn t r, hlen]
            exact ih (k + 1) (putA t r.dst r.δ.v) (by unfold putA; cases r.dst <;> simp [hlen])
          · exact ih (k + 1) t hlen
      exact gen _ 0 rs t0 rfl
    obtain ⟨tp, htp⟩ := hex
    refine stepF_congr (hrun tp htp) (fun d hd => ?_) agreeH
    have e1 := congrFun htl d
    have e2 := congrFun htp d
    exact e1.trans ((agreeT d hd).trans e2.symm)
  · have : comb upH L 0 rs h0 (r.n + i) = comb upH (fun i => decide (i < j)) 0 rs h0 (r.n + i) := by
      refine comb_eq upH_A upH_B _ _ _ 0 rs _ fun k r' hk ht => ?_
      simp only [Nat.zero_add]
      refine Classical.byContradiction fun hne => ?_
      obtain ⟨o', ho', h⟩ := key k r' hk hne
      have h1 : r.n + i ∈ (footOf ops o r).w := by simp only [footOf, List.mem_append, List.mem_range'_1]; exact .inr (by omega)
      rcases h with ⟨_, h⟩ | ⟨_, _, h⟩
      · exact (apart_spec h).1 _ ht h1
      · exact (apart_spec h).1 _ h1 ht
    rw [this]
    exact hnone _ (by omega)

def unl (n : Nat) (L : Nat → Bool) : List Nat := (List.range n).filter fun i => !L i

theorem unl_less {n : Nat} {L L' : Nat → Bool} {j : Nat} (hjn : j < n) (hj : L j = false) (hj' : L' j = true) (hL : ∀ i, i ≠ j → L' i = L i) : (unl n L').length < (unl n L).length := by
  have e : unl n L' = (unl n L).filter fun i => decide (i ≠ j) := by
    unfold unl
    rw [List.filter_filter]
    refine List.filter_congr fun i _ => ?_
    by_cases h : i = j
    · subst h; simp [hj']
    · simp [h, hL i h]
  rw [e, List.length_filter_lt_length_iff_exists]
  exact ⟨j, by simp [unl, hjn, hj], by simp⟩

theorem any_drawn (hcall : CallOK P call) {ops : Array Oper} {rs : List Rec} {t0 : List AV} {h0 : Nat → Option Blk} (D : Drawn P call cfg ops.toList rs t0 h0) {Q : Exit → Act → World → Prop}
    {t' : List AV} {h' : Nat → Option Blk} (ht' : (t'[·]?) = comb (upT t0.length) (fun _ => true) 0 rs (t0[·]?)) (hh' : h' = comb upH (fun _ => true) 0 rs h0)
    (hQ : ∀ a' w', Now σ π w t' h' a' w' → Q .normal a' w') : ∀ (fuel : Nat) (listed : Array Bool) (a : Act) (w1 : World) (t : List AV),
    listed.size = ops.size → (unl ops.size (lst listed)).length ≤ fuel →
    (∀ j o, ops.toList[j]? = some o → lst listed j = true → ∀ e ∈ o.after, Region.binds .any e = true → lst listed e.on = true) →
    t.length = t0.length → (t[·]?) = comb (upT t0.length) (lst listed) 0 rs (t0[·]?) → Now σ π w t (comb upH (lst listed) 0 rs h0) a w1 → wpAny P .any ops Q fuel listed a w1 := by
  have hlen := textRun_len D.run
  replace hlen : rs.length = ops.size := hlen.trans (Array.length_toList ..)
  have done : ∀ (listed : Array Bool) (a : Act) (w1 : World) (t : List AV), Region.ready .any ops listed = [] → listed.size = ops.size →
      (t[·]?) = comb (upT t0.length) (lst listed) 0 rs (t0[·]?) → Now σ π w t (comb upH (lst listed) 0 rs h0) a w1 → Q .normal a w1 := by
    intro listed a w1 t hr hsz ht N
    have hall : ∀ j, j < ops.size → lst listed j = true := by
      intro j
      induction j using Nat.strongRecOn with
      | _ j ih =>
      intro hj
      cases hlj : lst listed j with
      | true => rfl
      | false =>
        have : j ∈ Region.ready .any ops listed := by
          refine mem_ready.2 ⟨?_, ops[j], Array.getElem?_eq_getElem hj, fun e he hb => ?_⟩
          · simp only [lst] at hlj
            have hj2 : j < listed.size := by omega
            simp [hj2] at hlj ⊢
            exact hlj
          · have := edgesOk_spec ops.toList 0 D.edges j ops[j] (by simp [hj]) e he hb
            exact ih e.on (by omega) (by omega)
        rw [hr] at this
        cases this
    have e1 : comb (upT t0.length) (lst listed) 0 rs (t0[·]?) = comb (upT t0.length) (fun _ => true) 0 rs (t0[·]?) := by
      funext x
      refine comb_eq (upT_A _) (upT_B _) _ _ x 0 rs _ fun i r hi _ => ?_
      have := (List.getElem?_eq_some_iff.1 hi).1
      simpa using hall i (by omega)
    have e2 : comb upH (lst listed) 0 rs h0 = comb upH (fun _ => true) 0 rs h0 := by
      funext x
      refine comb_eq upH_A upH_B _ _ x 0 rs _ fun i r hi _ => ?_
      have := (List.getElem?_eq_some_iff.1 hi).1
      simpa using hall i (by omega)
    have et : t = t' := List.ext_getElem? fun i => by
      have := congrFun (ht.trans (e1.trans ht'.symm)) i
      exact this
    rw [et, e2, ← hh'] at N
    exact hQ _ _ N
  intro fuel
  induction fuel with
  | zero =>
    intro listed a w1 t hsz hf hc htl ht N
    have hr : Region.ready .any ops listed = [] := by
      refine List.eq_nil_iff_forall_not_mem.2 fun j hj => ?_
      obtain ⟨h0, o, ho, _⟩ := mem_ready.1 hj
      have hjn := (Array.getElem?_eq_some_iff.1 ho).1
      have hj2 : j < listed.size := by omega
      have : j ∈ unl ops.size (lst listed) := by
        simp only [unl, List.mem_filter, List.mem_range]
        refine ⟨hjn, ?_⟩
        simp [hj2] at h0
        simp [lst, hj2, h0]
      have hz : unl ops.size (lst listed) = [] := List.length_eq_zero_iff.1 (Nat.le_zero.1 hf)
      rw [hz] at this
      cases this
    exact ⟨hr, done listed a w1 t hr hsz ht N⟩
  | succ fuel ih =>
    intro listed a w1 t hsz hf hc htl ht N
    refine ⟨fun hr => done listed a w1 t hr hsz ht N, fun j hj => ?_⟩
    obtain ⟨h0, o, ho, hb⟩ := mem_ready.1 hj
    have hjn := (Array.getElem?_eq_some_iff.1 ho).1
    have hj2 : j < listed.size := by omega
    have hlj : lst listed j = false := by
      simp [hj2] at h0
      simp [lst, hj2, h0]
    obtain ⟨s1, s2⟩ := lst_set hj2
    have hor : ops.toList[j]? = some o := by simpa using ho
    have hrj : ∃ r, rs[j]? = some r := ⟨_, List.getElem?_eq_getElem (by omega)⟩
    obtain ⟨r, hr⟩ := hrj
    obtain ⟨k1, k2, k3, k4, k5⟩ := D.step hc hor hr hlj (fun e he hbd => hb e he hbd) s1 s2
    unfold wpOp
    rw [ho]
    refine one_op hcall (k1 t ht) k2 N fun a' w' N' => ?_
    refine ih (listed.setIfInBounds j true) a' w' (putA t o.dst r.δ.v) (by simp [hsz]) ?_ ?_ (by unfold putA; cases o.dst <;> simp [htl]) ?_ ?_
    · have := unl_less hjn hlj s1 s2
      omega
    · intro k o' hk hl e he hbd
      by_cases hkj : k = j
      · subst hkj
        rw [hor] at hk; cases hk
        by_cases he' : e.on = k
        · rw [he']; exact s1
        · rw [s2 _ he']; exact hb e he hbd
      · rw [s2 k hkj] at hl
        by_cases he' : e.on = j
        · rw [he']; exact s1
        · rw [s2 _ he']; exact hc k o' hk hl e he hbd
    · rw [k3, ← ht, ← k5, putA_fn, htl]
    · rw [k4]
      exact N'

/-- A world that differs in how often it drew alone. -/
theorem Now.drew {t : List AV} {h : Nat → Option Blk} {a : Act} {w1 : World} (N : Now σ π w t h a w1) (d : Nat) : Now σ π w t h a { w1 with drawn := d } := by
  obtain ⟨hd, σ1, π1, ht, D⟩ := N
  have E : Ext σ1 π1 w1 σ1 π1 { w1 with drawn := d } := Ext.of_old (fun _ _ _ h => h) D.rel.prot D.rel.lt (fun _ _ => rfl)
  refine ⟨hd, σ1, π1, ht.mono E, D.trans ⟨E, ⟨Nat.le_refl _, rfl, rfl, rfl, fun _ _ _ => rfl, fun b g l hl => .inr ⟨b, g, l, hl, rfl⟩, fun _ _ hp => .inl hp⟩, ?_⟩⟩
  exact ⟨fun b x hx => (D.rel.blk b x hx).mono E (fun _ => rfl) (fun _ _ _ => rfl) (fun _ _ _ _ hp => hp), D.rel.non, D.rel.inj, D.rel.lt, D.rel.prot⟩

/-- Every region. -/
theorem region_all (hcall : CallOK P call) (hm : P.follows .mixedOrders = true) {id : Nat} {ops : Array Oper} {draw : Bool} {Q : Exit → Act → World → Prop} {st st' : St} {a : Act} {w1 : World}
    (hr : runRegion (tiOf P) call cfg ops draw st = some st') (N : Now σ π w st.t (st.h[·]?) a w1)
    (hQ : ∀ a' w', Now σ π w st'.t (st'.h[·]?) a' w' → Q .normal a' w') : (Code.region id ops draw).wp P Q a w1 := by
  unfold runRegion at hr
  split at hr
  · rename_i hd
    subst hd
    split at hr
    · rename_i st2 rs hrun
      split at hr
      · rename_i hok
        cases hr
        simp only [Bool.and_eq_true] at hok
        obtain ⟨i1, i2, i3, i4⟩ := textRun_of _ _ _ _ hrun
        have D : Drawn P call cfg ops.toList rs st.t (st.h[·]?) := ⟨i1, hok.1, hok.2⟩
        refine wp_region_any hm ?_
        have hf : lst (Array.replicate ops.size false) = fun _ => false := by
          funext i
          simp only [lst]
          rcases Nat.lt_or_ge i ops.size with h | h
          · simp [h]
          · simp [Nat.not_lt.2 h]
        have none1 : comb (upT st.t.length) (fun _ => false) 0 rs (st.t[·]?) = (st.t[·]?) := by
          funext x; exact comb_not (upT_A _) (upT_B _) _ x 0 rs _ fun _ _ _ _ => rfl
        have none2 : comb upH (fun _ => false) 0 rs (st.h[·]?) = (st.h[·]?) := by
          funext x; exact comb_not upH_A upH_B _ x 0 rs _ fun _ _ _ _ => rfl
        refine any_drawn hcall D (t' := st'.t) (h' := (st'.h[·]?)) i2 i3 hQ ops.size _ a _ st.t (by simp) ?_ ?_ rfl ?_ ?_
        · rw [hf]; unfold unl; exact Nat.le_trans (List.length_filter_le ..) (by simp)
        · rw [hf]; intro j o _ h; cases h
        · rw [hf, none1]
        · rw [hf, none2]; exact N.drew _
      · cases hr
    · cases hr
  · rename_i hd
    have : draw = false := by simpa using hd
    subst this
    exact region_text hcall hr N hQ

end Go.Ws

namespace Go.Ws
set_option linter.unusedVariables false
set_option linter.unusedSimpArgs false

variable {P : Program} {σ : Sig} {π : Prot} {w : World}

theorem regL_get (r : Nat → Nat) (q : Nat → Nat → Nat) : ∀ (l : List AV) (i : Nat), (AV.regL r q l)[i]? = (l[i]?).map (AV.reg r q)
  | [], i => by simp [AV.regL]
  | v :: l, 0 => by simp [AV.regL]
  | v :: l, i + 1 => by simpa [AV.regL] using regL_get r q l i

theorem regL_length (r : Nat → Nat) (q : Nat → Nat → Nat) : ∀ (l : List AV), (AV.regL r q l).length = l.length
  | [] => rfl
  | v :: l => by simp [AV.regL, regL_length r q l]

theorem gensL_mem {l : List AV} {v : AV} (hv : v ∈ l) : ∀ p ∈ v.gens, p ∈ AV.gensL l := by
  induction l with
  | nil => cases hv
  | cons x l ih =>
    intro p hp
    simp only [AV.gensL, List.mem_append]
    rcases List.mem_cons.1 hv with rfl | hv
    · exact .inl hp
    · exact .inr (ih hv p hp)

/-- Under other numbers. -/
theorem VR.reg {σ' : Sig} {ρ : Nat → Nat} {q : Nat → Nat → Nat} {v : AV} {u : Value} (hv : VR σ π w v u) : (∀ p ∈ v.gens, ∀ l, σ p.1 p.2 = some l → σ' (ρ p.1) (q p.1 p.2) = some l) → (∀ b, q b 0 = 0) → VR σ' π w (v.reg ρ q) u := by
  intro hρ h0
  have keyL : ∀ (c : List AV) (d : Array Value), (∀ (i : Nat) v u, c[i]? = some v → d[i]? = some u → (∀ p ∈ v.gens, ∀ l, σ p.1 p.2 = some l → σ' (ρ p.1) (q p.1 p.2) = some l) → VR σ' π w (v.reg ρ q) u) →
      (∀ p ∈ AV.gensL c, ∀ l, σ p.1 p.2 = some l → σ' (ρ p.1) (q p.1 p.2) = some l) → ∀ (i : Nat) v u, (AV.regL ρ q c)[i]? = some v → d[i]? = some u → VR σ' π w v u := by
    intro c d ih hρ i v u hi hu
    rw [regL_get] at hi
    obtain ⟨v0, hv0, rfl⟩ := Option.map_eq_some_iff.1 hi
    exact ih i v0 u hv0 hu (fun p hp => hρ p (gensL_mem (List.mem_of_getElem? hv0) p hp))
  induction hv with
  | bool b => exact .bool b
  | int k n => exact .int k n
  | str s => exact .str s
  | nilp => exact .nilp
  | hp b o l hl => exact .hp _ o l (by have := hρ (b, 0) (by simp [AV.gens]) l hl; rwa [h0] at this)
  | ep sz b g i j l hl hi => exact .ep sz _ _ i j l (hρ (b, g) (by simp [AV.gens]) l hl) hi
  | ip sz rows i j B o u hf hi hc hv ih =>
    refine .ip sz rows i j B o u hf hi hc (fun r q' row v hr hq => ?_)
    have hfl := ((hf row (List.mem_of_getElem? hr)).2 v (List.mem_of_getElem? hq)).2
    exact (hv r q' row v hr hq).flat_any hfl σ'
  | nils => exact .emps _
  | emps a => exact .emps a
  | zs a c h0 => exact .zs a c h0
  | any u => exact .any u
  | inl0 sz a c => exact .inl0 sz a c
  | inl sz rows B o c u hf hl hc hv ih =>
    refine .inl sz rows B o c u hf hl hc (fun r q' row v hr hq => ?_)
    have hfl := ((hf row (List.mem_of_getElem? hr)).2 v (List.mem_of_getElem? hq)).2
    exact (hv r q' row v hr hq).flat_any hfl σ'
  | ref sz b g i n full a c l hl hi hn ha hf C e hC hs => exact .ref sz _ _ i n full a c l (hρ (b, g) (by simp [AV.gens]) l hl) hi hn ha hf C e hC hs
  | mapn => exact .mapn
  | mp b l hl => exact .mp _ l (by have := hρ (b, 0) (by simp [AV.gens]) l hl; rwa [h0] at this)
  | fn f c d hl hv ih => exact .fn f _ d (by rw [regL_length]; exact hl) (keyL c d ih (by simpa [AV.gens] using hρ))
  | nilf => exact .nilf
  | agg c d hl hv ih => exact .agg _ d (by rw [regL_length]; exact hl) (keyL c d ih (by simpa [AV.gens] using hρ))
  | tup c d hl hv ih => exact .tup _ d (by rw [regL_length]; exact hl) (keyL c d ih (by simpa [AV.gens] using hρ))

theorem viewL_get (vs : List Nat) : ∀ (i : Nat) (l : List AV) (j : Nat), (viewL vs i l)[j]? = (l[j]?).map fun v => if vs.contains (i + j) then v.can else v
  | i, [], j => by simp [viewL]
  | i, v :: l, 0 => by simp [viewL]
  | i, v :: l, j + 1 => by
    simp only [viewL, List.getElem?_cons_succ]
    rw [viewL_get vs (i + 1) l j, show i + 1 + j = i + (j + 1) by omega]

theorem viewL_length (vs : List Nat) : ∀ (i : Nat) (l : List AV), (viewL vs i l).length = l.length
  | i, [] => rfl
  | i, v :: l => by simp [viewL, viewL_length vs (i + 1) l]

theorem VR.view {v : AV} {u : Value} (hv : VR σ π w v u) (vs : List Nat) : VR σ π w (viewV vs v) u := by
  unfold viewV
  split
  · rename_i l
    cases hv with
    | agg _ d hl hv =>
      refine .agg _ d (by rw [viewL_length]; exact hl) fun i v u hi hu => ?_
      rw [viewL_get] at hi
      obtain ⟨v0, h0, rfl⟩ := Option.map_eq_some_iff.1 hi
      split
      · exact (hv i v0 u h0 hu).can
      · exact hv i v0 u h0 hu
  · split
    · exact hv
    · exact hv.can

/-- The places behind. -/
def sigS (σ : Sig) (m : Nat) (h : List Blk) (ids : List (Option Nat)) : Sig := fun b g => if b < m then σ b g else match ids[b - m]? with
  | some (some c) => if g = 0 then (match h[c]? with | some x => σ c x.gen | none => none) else none
  | _ => none

theorem gensOk_spec {m : Nat} {h : List Blk} {ids : List (Option Nat)} : ∀ {l : List (Nat × Nat)}, gensOk m h ids l = true → ∀ p ∈ l, p.1 < m ∨ (some p.1 ∈ ids ∧ ∃ x, h[p.1]? = some x ∧ x.gen = p.2)
  | [], _, p, hp => by cases hp
  | (b, g) :: l, e, p, hp => by
    simp only [gensOk, Bool.and_eq_true, Bool.or_eq_true, decide_eq_true_eq] at e
    rcases List.mem_cons.1 hp with rfl | hp
    · rcases e.1 with h1 | ⟨h1, h2⟩
      · exact .inl h1
      · refine .inr ⟨by simpa using h1, ?_⟩
        split at h2
        · rename_i x hx; exact ⟨x, hx, by simpa using h2⟩
        · cases h2
    · exact gensOk_spec e.2 p hp

theorem idsOk_spec {m n : Nat} : ∀ {ids : List (Option Nat)}, idsOk m n ids = true → ∀ b, some b ∈ ids → m ≤ b ∧ b < n
  | [], _, b, hb => by cases hb
  | none :: l, e, b, hb => idsOk_spec (ids := l) (by simpa [idsOk] using e) b (by simpa using hb)
  | some c :: l, e, b, hb => by
    simp only [idsOk, Bool.and_eq_true, decide_eq_true_eq] at e
    rcases List.mem_cons.1 hb with hb | hb
    · cases hb; exact e.1
    · exact idsOk_spec e.2 b hb

theorem nodupB_spec : ∀ {ids : List (Option Nat)}, nodupB ids = true → ∀ (i j : Nat) b, ids[i]? = some (some b) → ids[j]? = some (some b) → i = j
  | [], _, i, j, b, hi, _ => by simp at hi
  | none :: l, e, i, j, b, hi, hj => by
    cases i with
    | zero => simp at hi
    | succ i =>
      cases j with
      | zero => simp at hj
      | succ j => rw [nodupB_spec (ids := l) (by simpa [nodupB] using e) i j b (by simpa using hi) (by simpa using hj)]
  | some c :: l, e, i, j, b, hi, hj => by
    simp only [nodupB, Bool.and_eq_true, Bool.not_eq_true', List.contains_eq_mem, decide_eq_false_iff_not] at e
    cases i with
    | zero =>
      simp at hi; subst hi
      cases j with
      | zero => rfl
      | succ j => exact absurd (List.mem_of_getElem? (by simpa using hj)) e.1
    | succ i =>
      cases j with
      | zero => simp at hj; subst hj; exact absurd (List.mem_of_getElem? (by simpa using hi)) e.1
      | succ j => rw [nodupB_spec e.2 i j b (by simpa using hi) (by simpa using hj)]

theorem idx_at {ids : List (Option Nat)} (hn : nodupB ids = true) {b : Nat} (hb : some b ∈ ids) : ids[ids.idxOf (some b)]? = some (some b) := by
  rw [List.getElem?_eq_getElem (List.idxOf_lt_length_iff.2 hb)]
  simp

theorem slotIds_len {m : Nat} {t : List AV} {h : List Blk} : ∀ {l : List (NSrc × List Nat)} {acc ids : List (Option Nat)}, slotIds m t h l acc = some ids → ids.length = acc.length + l.length
  | [], acc, ids, e => by simp only [slotIds, Option.some.injEq] at e; subst e; simp
  | (s, vs) :: l, acc, ids, e => by
    simp only [slotIds] at e
    split at e
    · rename_i x hx
      have := slotIds_len e
      simp at this ⊢
      omega
    · cases e

theorem slotBlks_get {m : Nat} {h : List Blk} {ids : List (Option Nat)} {ro : Bool} : ∀ {l : List (NSrc × List Nat)} {xs : List (Option Nat)}, xs.length = l.length → ∀ (i : Nat) x, (slotBlks m h ids ro l xs)[i]? = some x → ∃ s vs o, l[i]? = some (s, vs) ∧ xs[i]? = some o ∧ x = slotBlk m h ids ro vs o
  | [], xs, hl, i, x, e => by cases xs <;> simp [slotBlks] at e
  | (s, vs) :: l, [], hl, i, x, e => by simp at hl
  | (s, vs) :: l, o :: xs, hl, 0, x, e => by simp [slotBlks] at e; subst e; exact ⟨s, vs, o, rfl, rfl, rfl⟩
  | (s, vs) :: l, o :: xs, hl, i + 1, x, e => by
    simp only [slotBlks, List.getElem?_cons_succ] at e
    obtain ⟨s', vs', o', h1, h2, h3⟩ := slotBlks_get (by simpa using hl) i x e
    exact ⟨s', vs', o', by simpa using h1, by simpa using h2, h3⟩

theorem slotBlks_len {m : Nat} {h : List Blk} {ids : List (Option Nat)} {ro : Bool} : ∀ {l : List (NSrc × List Nat)} {xs : List (Option Nat)}, xs.length = l.length → (slotBlks m h ids ro l xs).length = l.length
  | [], xs, hl => by cases xs <;> simp [slotBlks]
  | _ :: _, [], hl => by simp at hl
  | (s, vs) :: l, o :: xs, hl => by simp [slotBlks, slotBlks_len (l := l) (xs := xs) (by simpa using hl)]

theorem mkT_length (n : Nat) : ∀ l, (mkT n l).length = n
  | [] => by simp [mkT]
  | (i, v) :: l => by simp [mkT, mkT_length n l]

theorem mkT_vrs {n : Nat} {d : Array Value} (hd : d.size = n) : ∀ (l : List (Nat × AV)), (∀ p ∈ l, ∀ u, d[p.1]? = some u → VR σ π w p.2 u) → VRs σ π w (mkT n l) d
  | [], _ => ⟨by simp [mkT, hd], fun i v u hi hu => by
    simp only [mkT, List.getElem?_replicate] at hi
    split at hi
    · cases hi; exact .any _
    · cases hi⟩
  | (i, v) :: l, h => by
    have ih := mkT_vrs hd l fun p hp => h p (List.mem_cons_of_mem _ hp)
    refine ⟨by rw [mkT_length, hd], fun j x u hj hu => ?_⟩
    simp only [mkT, List.getElem?_set] at hj
    split at hj
    · rename_i hij
      subst hij
      split at hj
      · cases hj; exact h (i, v) (List.mem_cons_self ..) u hu
      · cases hj
    · exact ih.2 j x u hj hu

theorem liveVs_spec {t : List AV} : ∀ {l : List (Nat × List Nat)} {lv : List (Nat × AV)}, liveVs t l = some lv → ∀ p ∈ lv, ∃ vs v, t[p.1]? = some v ∧ p.2 = viewV vs v
  | [], lv, e, p, hp => by simp only [liveVs, Option.some.injEq] at e; subst e; cases hp
  | (i, vs) :: l, lv, e, p, hp => by
    simp only [liveVs] at e
    split at e
    · rename_i v r hv hr
      cases e
      rcases List.mem_cons.1 hp with rfl | hp
      · exact ⟨vs, v, hv, rfl⟩
      · exact liveVs_spec hr p hp
    · cases e

theorem liveReg_mem {r : Nat → Nat} {q : Nat → Nat → Nat} : ∀ {l : List (Nat × AV)} {p : Nat × AV}, p ∈ liveReg r q l → ∃ v, (p.1, v) ∈ l ∧ p.2 = v.reg r q
  | [], p, hp => by simp [liveReg] at hp
  | (i, v) :: l, p, hp => by
    simp only [liveReg, List.mem_cons] at hp
    rcases hp with rfl | hp
    · exact ⟨v, by simp, rfl⟩
    · obtain ⟨v', h1, h2⟩ := liveReg_mem hp
      exact ⟨v', List.mem_cons_of_mem _ h1, h2⟩

theorem gensLive_mem : ∀ {l : List (Nat × AV)} {i : Nat} {v : AV}, (i, v) ∈ l → ∀ p ∈ v.gens, p ∈ gensLive l
  | (j, x) :: l, i, v, hm, p, hp => by
    simp only [gensLive, List.mem_append]
    rcases List.mem_cons.1 hm with hm | hm
    · cases hm; exact .inl hp
    · exact .inr (gensLive_mem hm p hp)

theorem gensSlots_mem {h : List Blk} : ∀ {l : List (Option Nat)} {c : Nat} {x : Blk}, some c ∈ l → h[c]? = some x → ∀ p ∈ x.gens, p ∈ gensSlots h l
  | none :: l, c, x, hm, hx, p, hp => by
    simp only [gensSlots]
    exact gensSlots_mem (by simpa using hm) hx p hp
  | some d :: l, c, x, hm, hx, p, hp => by
    simp only [gensSlots, List.mem_append]
    rcases List.mem_cons.1 hm with hm | hm
    · cases hm; rw [hx]; exact .inl hp
    · exact .inr (gensSlots_mem hm hx p hp)

theorem gensL_view (vs : List Nat) : ∀ (i : Nat) (l : List AV), ∀ p ∈ AV.gensL (viewL vs i l), p ∈ AV.gensL l
  | i, [], p, hp => hp
  | i, v :: l, p, hp => by
    simp only [viewL, AV.gensL, List.mem_append] at hp ⊢
    rcases hp with hp | hp
    · left
      split at hp
      · have : v.can.gens = v.gens := by unfold AV.can; split <;> rfl
        rwa [this] at hp
      · exact hp
    · exact .inr (gensL_view vs (i + 1) l p hp)

set_option maxHeartbeats 1000000 in
theorem normS_ok {m : Nat} (hm : ∀ b, m ≤ b → ∀ g, σ b g = none) {s : NSpec} {st st' : St} {a : Act} {w1 : World} (e : normS m s st = some st') (N : Now σ π w st.t (st.h[·]?) a w1) : Now σ π w st'.t (st'.h[·]?) a w1 := by
  obtain ⟨hd, σ1, π1, ht, D⟩ := N
  have R := D.rel
  unfold normS at e
  split at e
  · rename_i lv ids hlv hids
    split at e
    · rename_i hc
      cases e
      simp only [Bool.and_eq_true, decide_eq_true_eq] at hc
      obtain ⟨hmh, ⟨hnd, hio⟩, hgo⟩ := hc
      have hio' := idsOk_spec hio
      have hgo' := gensOk_spec hgo
      have hlen := slotIds_len hids
      simp only [List.length_nil, Nat.zero_add] at hlen
      have hkl : (st.h.take m).length = m := by simp; omega
      have h0 : ∀ b, regG m b 0 = 0 := fun b => by unfold regG; split <;> rfl
      have place : ∀ p ∈ gensLive lv ++ ((st.h.take m).flatMap Blk.gens ++ gensSlots st.h ids), ∀ l, σ1 p.1 p.2 = some l → sigS σ1 m st.h ids (regB m ids p.1) (regG m p.1 p.2) = some l := by
        intro p hp l hl
        rcases hgo' p hp with h1 | ⟨h1, x, hx, hxg⟩
        · simp only [sigS, regB, regG, if_pos h1, hl]
        · have hge := (hio' p.1 h1).1
          have hge' : ¬ p.1 < m := by omega
          simp only [sigS, regB, regG, if_neg hge', Nat.add_sub_cancel_left, if_true, idx_at hnd h1, hx]
          rw [if_neg (by omega), hxg]
          exact hl
      have orig : ∀ b g l, sigS σ1 m st.h ids b g = some l → ∃ c g', σ1 c g' = some l ∧ ((b < m ∧ c = b) ∨ (m ≤ b ∧ ids[b - m]? = some (some c))) := by
        intro b g l hl
        unfold sigS at hl
        split at hl
        · exact ⟨b, g, hl, .inl ⟨by assumption, rfl⟩⟩
        · rename_i hge
          split at hl
          · rename_i c hc
            split at hl
            · split at hl
              · rename_i x hx; exact ⟨c, x.gen, hl, .inr ⟨by omega, hc⟩⟩
              · cases hl
            · cases hl
          · cases hl
      refine ⟨hd, sigS σ1 m st.h ids, π1, ?_, ?_, ?_, ?_⟩
      · refine mkT_vrs (by have := ht.1; simpa using this) _ fun p hp u hu => ?_
        obtain ⟨v, hv, he⟩ := liveReg_mem hp
        obtain ⟨vs, v0, h1, h2⟩ := liveVs_spec hlv _ hv
        simp only at h1 h2
        rw [he, h2]
        have hvr := (ht.2 _ v0 u h1 hu).view vs
        refine hvr.reg (fun p' hp' l hl => place p' ?_ l hl) h0
        refine List.mem_append_left _ (gensLive_mem hv p' ?_)
        rw [h2]; exact hp'
      · refine ⟨fun b g l hl => ?_, D.ext.prot, D.ext.cell, D.ext.size⟩
        have hb : b < m := by
          refine Classical.byContradiction fun hge => ?_
          have := hm b (by omega) g
          rw [hl] at this; cases this
        unfold sigS
        rw [if_pos hb]
        exact D.ext.sig b g l hl
      · refine ⟨D.frm.size, D.frm.os, D.frm.tape, D.frm.output, D.frm.same, fun b g l hl => ?_, D.frm.pro⟩
        obtain ⟨c, g', h1, _⟩ := orig b g l hl
        exact D.frm.own c g' l h1
      · refine ⟨fun b x hx => ?_, fun b hb g => ?_, fun b g b' g' l l' hl hl' he => ?_, fun b g l hl => ?_, R.prot⟩
        · rcases Nat.lt_or_ge b m with hlt | hge
          · rw [List.getElem?_append_left (by simp; omega)] at hx
            simp only [List.getElem?_map, Option.map_eq_some_iff] at hx
            obtain ⟨y, hy, rfl⟩ := hx
            have hy' : st.h[b]? = some y := by
              rw [List.getElem?_take, if_pos hlt] at hy
              exact hy
            have hB := R.blk b y hy'
            have hsame : ∀ g, sigS σ1 m st.h ids b g = σ1 b g := fun g => by unfold sigS; rw [if_pos hlt]
            have hmem := List.mem_of_getElem? hy
            cases y with
            | row c =>
              obtain ⟨l, C, e, q1, q2, q3, q4, q5⟩ := hB
              refine ⟨l, C, e, (hsame 0).trans q1, q2, by rw [regL_length]; exact q3, fun i v hi => ?_, q5⟩
              rw [regL_get] at hi
              obtain ⟨v0, hv0, rfl⟩ := Option.map_eq_some_iff.1 hi
              obtain ⟨u, hu, hv⟩ := q4 i v0 hv0
              refine ⟨u, hu, hv.reg (fun p hp l hl => place p ?_ l hl) h0⟩
              exact List.mem_append_right _ (List.mem_append_left _ (List.mem_flatMap.2 ⟨.row c, hmem, gensL_mem (List.mem_of_getElem? hv0) p hp⟩))
            | arr sz rows gen wgen ro => exact (hB.ren (ρ := id) (x := .arr sz rows gen wgen ro) hsame (fun c hc => by cases hc))
            | map es cl => exact (hB.ren (ρ := id) (x := .map es cl) hsame (fun c hc => by cases hc))
            | none => exact fun g => (hsame g).trans (hB g)
          · rw [List.getElem?_append_right (by simp; omega)] at hx
            simp only [List.length_map, hkl] at hx
            obtain ⟨sc, vs, o, _, ho, rfl⟩ := slotBlks_get hlen _ _ hx
            have hno : o = none → ∀ g, sigS σ1 m st.h ids b g = none := by
              intro h g
              subst h
              unfold sigS
              rw [if_neg (by omega), ho]
            cases o with
            | none => exact hno rfl
            | some c =>
              have hcm := hio' c (List.mem_of_getElem? ho)
              obtain ⟨y, hy⟩ : ∃ y, st.h[c]? = some y := ⟨_, List.getElem?_eq_getElem hcm.2⟩
              have hB := R.blk c y hy
              have hs0 : sigS σ1 m st.h ids b 0 = σ1 c y.gen := by
                unfold sigS
                rw [if_neg (by omega), ho]
                simp [hy]
              have hs1 : ∀ g, g ≠ 0 → sigS σ1 m st.h ids b g = none := by
                intro g hg
                unfold sigS
                rw [if_neg (by omega), ho]
                simp [hg]
              simp only [slotBlk, hy]
              cases y with
              | row cells =>
                obtain ⟨l, C, e, q1, q2, q3, q4, q5⟩ := hB
                refine ⟨l, C, e, hs0.trans q1, q2, by rw [regL_length, viewL_length]; exact q3, fun i v hi => ?_, q5⟩
                rw [regL_get] at hi
                obtain ⟨v1, hv1, rfl⟩ := Option.map_eq_some_iff.1 hi
                rw [viewL_get] at hv1
                obtain ⟨v0, hv0, rfl⟩ := Option.map_eq_some_iff.1 hv1
                obtain ⟨u, hu, hv⟩ := q4 i v0 hv0
                refine ⟨u, hu, ?_⟩
                have hg : ∀ p ∈ v0.gens, p ∈ gensLive lv ++ ((st.h.take m).flatMap Blk.gens ++ gensSlots st.h ids) := fun p hp =>
                  List.mem_append_right _ (List.mem_append_right _ (gensSlots_mem (List.mem_of_getElem? ho) hy p (gensL_mem (List.mem_of_getElem? hv0) p hp)))
                split
                · refine hv.can.reg (fun p hp l hl => place p (hg p ?_) l hl) h0
                  have : v0.can.gens = v0.gens := by unfold AV.can; split <;> rfl
                  rwa [this] at hp
                · exact hv.reg (fun p hp l hl => place p (hg p hp) l hl) h0
              | arr sz rows gen wgen ro =>
                obtain ⟨k1, k2, k3, k4, ⟨l, k5, k6, k7, k8⟩, k9⟩ := hB
                have hfl : ∀ {row : List AV} {C : Array Value} {o : Nat}, (∀ v ∈ row, v.flat) → RowAt σ1 π1 w1 row C o → RowAt (sigS σ1 m st.h ids) π1 w1 row C o := by
                  intro row C o hf hr i v hi
                  obtain ⟨u, hu, hv⟩ := hr i v hi
                  exact ⟨u, hu, hv.flat_any (hf v (List.mem_of_getElem? hi)).2 _⟩
                refine ⟨k1, Nat.le_refl _, k3, fun g hg => hs1 g (by omega), ⟨l, hs0.trans k5, k6, fun hr o ho => k7 (by cases ro <;> simp_all) o ho, k8⟩, fun g _ hg => ?_⟩
                obtain rfl : g = 0 := by omega
                obtain ⟨l', C, e, q1, q2, q3, q4, q5⟩ := k9 gen k2 (Nat.le_refl _)
                exact ⟨l', C, e, hs0.trans q1, q2, q3, q4, fun r row hr hrow => hfl (k3 row (List.mem_of_getElem? hrow)).2 (q5 r row hr hrow)⟩
              | map es cl =>
                obtain ⟨l, C, q1, q2, q3, q4, q5⟩ := hB
                refine ⟨l, C, hs0.trans q1, q2, q3, q4, fun i kk v born en hi he => ?_⟩
                obtain ⟨p1, p2, p3, p4, p5⟩ := q5 i kk v born en hi he
                exact ⟨p1.flat_any p5 _, p2.flat_any p4 _, p3, p4, p5⟩
              | none =>
                intro g
                rcases Nat.eq_zero_or_pos g with rfl | hg
                · exact hs0.trans (hB _)
                · exact hs1 g (by omega)
        · have hge : ¬ b < m := by
            intro hlt
            rw [List.getElem?_append_left (by simp; omega), List.getElem?_eq_none_iff] at hb
            simp at hb
            omega
          rw [List.getElem?_append_right (by simp; omega), List.getElem?_eq_none_iff] at hb
          simp only [List.length_map, hkl, slotBlks_len hlen] at hb
          unfold sigS
          rw [if_neg hge, List.getElem?_eq_none (by omega)]
        · obtain ⟨c, g1, hc, hcb⟩ := orig b g l hl
          obtain ⟨c', g2, hc', hcb'⟩ := orig b' g' l' hl'
          have := R.inj _ _ _ _ _ _ hc hc' he
          subst this
          rcases hcb with ⟨h1, rfl⟩ | ⟨h1, h2⟩ <;> rcases hcb' with ⟨h3, h4⟩ | ⟨h3, h4⟩
          · exact h4
          · have := (hio' _ (List.mem_of_getElem? h4)).1; omega
          · have := (hio' _ (List.mem_of_getElem? h2)).1; omega
          · have := nodupB_spec hnd _ _ _ h2 h4
            omega
        · obtain ⟨c, g', hc, _⟩ := orig b g l hl
          exact R.lt c g' l hc
    · cases e
  · cases e

theorem norm_ok {m : Nat} (hm : ∀ b, m ≤ b → ∀ g, σ b g = none) {N : Nat → Option NSpec} {id : Nat} {st st' : St} {a : Act} {w1 : World} (e : norm m N id st = some st') (H : Now σ π w st.t (st.h[·]?) a w1) : Now σ π w st'.t (st'.h[·]?) a w1 := by
  unfold norm at e
  split at e
  · cases e; exact H
  · exact normS_ok hm e H
end Go.Ws

namespace Go.Ws
set_option linter.unusedVariables false
set_option linter.unusedSimpArgs false

variable {P : Program} {σ : Sig} {π : Prot} {w : World} {call : CallT} {cfg : Nat → Bool × Bool}

def AX.out : AX → Exit
  | .normal => .normal
  | .exit id => .exit id
  | .ret => .ret

theorem exec_wp (hcall : CallOK P call) (hm : P.follows .mixedOrders = true) {nz : Nat → St → Option St} (hnz : ∀ id st st' a w1, nz id st = some st' → Now σ π w st.t (st.h[·]?) a w1 → Now σ π w st'.t (st'.h[·]?) a w1) (it : Nat) : ∀ (c : Code) (st : St) (x : AX) (st' : St) (Q : Exit → Act → World → Prop) (a : Act) (w1 : World),
    exec (tiOf P) call cfg nz it c st = some (x, st') → Now σ π w st.t (st.h[·]?) a w1 → (∀ a' w', Now σ π w st'.t (st'.h[·]?) a' w' → Q x.out a' w') → c.wp P Q a w1 := by
  intro c
  induction c with
  | skip =>
    intro st x st' Q a w1 e N hQ
    simp only [exec, Option.some.injEq, Prod.mk.injEq] at e
    obtain ⟨rfl, rfl⟩ := e
    exact wp_skip (hQ _ _ N)
  | label l =>
    intro st x st' Q a w1 e N hQ
    simp only [exec, Option.some.injEq, Prod.mk.injEq] at e
    obtain ⟨rfl, rfl⟩ := e
    exact wp_label (hQ _ _ N)
  | region id ops draw =>
    intro st x st' Q a w1 e N hQ
    simp only [exec] at e
    split at e
    · rename_i st1 hn
      split at e
      · rename_i st2 hr
        cases e
        exact region_all hcall hm hr (hnz _ _ _ _ _ hn N) hQ
      · cases e
    · cases e
  | seq c1 c2 ih1 ih2 =>
    intro st x st' Q a w1 e N hQ
    simp only [exec] at e
    split at e
    · rename_i st2 hr
      exact wp_seq (ih1 st .normal st2 _ a w1 hr N fun a' w' N' => ih2 st2 x st' Q a' w' e N' hQ)
    · rename_i hne
      refine wp_seq (ih1 st x st' _ a w1 e N fun a' w' N' => ?_)
      cases x with
      | normal => exact absurd e (hne _)
      | _ => exact hQ _ _ N'
  | cond o c1 c2 ih1 ih2 =>
    intro st x st' Q a w1 e N hQ
    simp only [exec] at e
    split at e
    · rename_i b hb
      obtain ⟨hd, σ1, π1, ht, D⟩ := N
      have hv := ev_vr ht hb
      have hb' : a.eval o = .bool b := by generalize a.eval o = u at hv; cases hv; rfl
      cases b with
      | true =>
        refine wp_cond_true hb' (ih1 st x st' Q a w1 (by simpa using e) ⟨hd, σ1, π1, ht, D⟩ hQ)
      | false =>
        refine wp_cond_false hb' (ih2 st x st' Q a w1 (by simpa using e) ⟨hd, σ1, π1, ht, D⟩ hQ)
    · cases e
  | block id c ih =>
    intro st x st' Q a w1 e N hQ
    simp only [exec] at e
    split at e
    · rename_i i st2 hr
      refine wp_block (ih st (.exit i) st2 _ a w1 hr N fun a' w' N' => ?_)
      show if i = id then Q .normal a' w' else Q (.exit i) a' w'
      split at e
      · rename_i hi
        rw [if_pos hi]
        split at e
        · rename_i st3 hn
          cases e
          exact hQ _ _ (hnz _ _ _ _ _ hn N')
        · cases e
      · rename_i hi
        cases e
        rw [if_neg hi]
        exact hQ _ _ N'
    · rename_i hne
      refine wp_block (ih st x st' _ a w1 e N fun a' w' N' => ?_)
      cases x with
      | exit i => exact absurd e (hne _ _)
      | normal => exact hQ _ _ N'
      | ret => exact hQ _ _ N'
  | loop c ih =>
    intro st x st' Q a w1 e N hQ
    simp only [exec] at e
    have key : ∀ (n : Nat) (st : St) (a : Act) (w1 : World), iter n (exec (tiOf P) call cfg nz it c) st = some (x, st') → Now σ π w st.t (st.h[·]?) a w1 → Code.rounds P c Q n a w1 := by
      intro n
      induction n with
      | zero => intro st a w1 e; cases e
      | succ n ihn =>
        intro st a w1 e N
        simp only [iter] at e
        rw [rounds_succ]
        split at e
        · rename_i st2 hr
          exact ih st .normal st2 _ a w1 hr N fun a' w' N' => ihn st2 a' w' e N'
        · rename_i hne
          refine ih st x st' _ a w1 e N fun a' w' N' => ?_
          cases x with
          | normal => exact absurd e (hne _)
          | _ => exact hQ _ _ N'
    exact wp_loop_rounds it (key it st a w1 e N)
  | exit id =>
    intro st x st' Q a w1 e N hQ
    simp only [exec, Option.some.injEq, Prod.mk.injEq] at e
    obtain ⟨rfl, rfl⟩ := e
    exact wp_exit (hQ _ _ N)
  | ret =>
    intro st x st' Q a w1 e N hQ
    simp only [exec, Option.some.injEq, Prod.mk.injEq] at e
    obtain ⟨rfl, rfl⟩ := e
    exact wp_ret (hQ _ _ N)
  | _ => intro st x st' Q a w1 e; simp [exec] at e

end Go.Ws

namespace Go.Ws
set_option linter.unusedVariables false
set_option linter.unusedSimpArgs false

variable {P : Program} {σ : Sig} {π : Prot} {w : World}

/-- The cells of all arrays from m on. -/
def Froz (π : Prot) (σ : Sig) (h : List Blk) (m : Nat) : Prot := fun B o => π B o ∨ ∃ b s rows gen wgen ro g l, m ≤ b ∧ h[b]? = some (.arr s rows gen wgen ro) ∧ wgen ≤ g ∧ g ≤ gen ∧ σ b g = some l ∧ l.blk = B ∧ o < l.m * s

mutual
theorem frzV_vr {h : List Blk} {m : Nat} (R : Rel σ π w (h[·]?)) : ∀ (v v' : AV) (u : Value), VR σ π w v u → frzV h m v = some v' → VR σ (Froz π σ h m) w v' u
  | .ref sz b g i n full, v', u, hv, e => by
    simp only [frzV] at e
    split at e
    · cases e; exact hv.prot fun _ _ h => .inl h
    · rename_i hb
      split at e
      · rename_i s rows gen wgen ro hx
        split at e
        · rename_i hc
          cases e
          have e2 : (borrowV (.ref sz b g i n full)).run (h[·]?) = some ((sl sz ((rows.drop i).take n), [(b, .arr s rows gen wgen true)]), [b]) := by
            simp only [borrowV, AM.run, hx]
            rw [if_pos hc]
            rfl
          obtain ⟨_, hv'⟩ := borrowV_spec R hv e2
          refine hv'.prot fun B o hp => ?_
          rcases hp with hp | ⟨b', s', rows', gen', wgen', g', l', hm, h1, h2, h3⟩
          · exact .inl hp
          · simp only [List.mem_singleton, Prod.mk.injEq, Blk.arr.injEq, and_true] at hm
            obtain ⟨rfl, rfl, rfl, rfl, rfl⟩ := hm
            exact .inr ⟨_, _, _, _, _, _, g', l', by omega, hx, h1, h2, h3⟩
        · cases e
      · cases e
  | .agg l, v', u, hv, e => by
    simp only [frzV] at e
    split at e
    · rename_i l' hl'
      cases e
      cases hv with
      | agg _ d hl hv =>
        obtain ⟨h1, h2⟩ := frzL_vr R l l' d ⟨hl, hv⟩ hl'
        exact .agg l' d h1 h2
    · cases e
  | .tup l, v', u, hv, e => by
    simp only [frzV] at e
    split at e
    · rename_i l' hl'
      cases e
      cases hv with
      | tup _ d hl hv =>
        obtain ⟨h1, h2⟩ := frzL_vr R l l' d ⟨hl, hv⟩ hl'
        exact .tup l' d h1 h2
    · cases e
  | .bool _, v', u, hv, e => by simp only [frzV, Option.some.injEq] at e; subst e; exact hv.can.prot fun _ _ h => .inl h
  | .int _ _, v', u, hv, e => by simp only [frzV, Option.some.injEq] at e; subst e; exact hv.can.prot fun _ _ h => .inl h
  | .str _, v', u, hv, e => by simp only [frzV, Option.some.injEq] at e; subst e; exact hv.can.prot fun _ _ h => .inl h
  | .nilp, v', u, hv, e => by simp only [frzV, Option.some.injEq] at e; subst e; exact hv.can.prot fun _ _ h => .inl h
  | .hp _ _, v', u, hv, e => by simp only [frzV, Option.some.injEq] at e; subst e; exact hv.can.prot fun _ _ h => .inl h
  | .ep _ _ _ _ _, v', u, hv, e => by simp only [frzV, Option.some.injEq] at e; subst e; exact hv.can.prot fun _ _ h => .inl h
  | .ip _ _ _ _, v', u, hv, e => by simp only [frzV, Option.some.injEq] at e; subst e; exact hv.can.prot fun _ _ h => .inl h
  | .nils, v', u, hv, e => by simp only [frzV, Option.some.injEq] at e; subst e; exact hv.can.prot fun _ _ h => .inl h
  | .emps, v', u, hv, e => by simp only [frzV, Option.some.injEq] at e; subst e; exact hv.can.prot fun _ _ h => .inl h
  | .any, v', u, hv, e => by simp only [frzV, Option.some.injEq] at e; subst e; exact hv.can.prot fun _ _ h => .inl h
  | .zs, v', u, hv, e => by simp only [frzV, Option.some.injEq] at e; subst e; exact hv.can.prot fun _ _ h => .inl h
  | .inl _ _, v', u, hv, e => by simp only [frzV, Option.some.injEq] at e; subst e; exact hv.can.prot fun _ _ h => .inl h
  | .mapn, v', u, hv, e => by simp only [frzV, Option.some.injEq] at e; subst e; exact hv.can.prot fun _ _ h => .inl h
  | .mp _, v', u, hv, e => by simp only [frzV, Option.some.injEq] at e; subst e; exact hv.can.prot fun _ _ h => .inl h
  | .fn _ _, v', u, hv, e => by simp only [frzV, Option.some.injEq] at e; subst e; exact hv.can.prot fun _ _ h => .inl h
  | .nilf, v', u, hv, e => by simp only [frzV, Option.some.injEq] at e; subst e; exact hv.can.prot fun _ _ h => .inl h
theorem frzL_vr {h : List Blk} {m : Nat} (R : Rel σ π w (h[·]?)) : ∀ (l l' : List AV) (d : Array Value), VRs σ π w l d → frzL h m l = some l' → VRs σ (Froz π σ h m) w l' d
  | [], l', d, hv, e => by
    simp only [frzL, Option.some.injEq] at e; subst e
    exact ⟨hv.1, fun i v u h => by simp at h⟩
  | v :: l, l', d, hv, e => by
    simp only [frzL] at e
    split at e
    · rename_i v1 l1 h1 h2
      cases e
      obtain ⟨u, r, rfl, hu, hr⟩ := hv.tail
      exact .cons (frzV_vr R v v1 u hu h1) (frzL_vr R l l1 _ hr h2)
    · cases e
end

/-- One block, its slices frozen. -/
def frzB (h : List Blk) (m : Nat) : Blk → Option Blk
  | .row c => (frzL h m c).map .row
  | b => some b

theorem frzBs_at (h : List Blk) (m : Nat) : ∀ (l l' : List Blk), frzBs h m l = some l' → l'.length = l.length ∧ ∀ (i : Nat) x, l'[i]? = some x → ∃ y, l[i]? = some y ∧ frzB h m y = some x
  | [], l', e => by simp only [frzBs, Option.some.injEq] at e; subst e; exact ⟨rfl, fun i x h => by simp at h⟩
  | .row c :: l, l', e => by
    simp only [frzBs] at e
    split at e
    · rename_i c1 l1 h1 h2
      cases e
      obtain ⟨k1, k2⟩ := frzBs_at h m l l1 h2
      refine ⟨by simp [k1], fun i x hi => ?_⟩
      cases i with
      | zero => simp at hi; subst hi; exact ⟨_, rfl, by simp [frzB, h1]⟩
      | succ i => exact k2 i x (by simpa using hi)
    · cases e
  | .arr s rows gen wgen ro :: l, l', e => by
    simp only [frzBs] at e
    split at e
    · rename_i l1 h2
      cases e
      obtain ⟨k1, k2⟩ := frzBs_at h m l l1 h2
      refine ⟨by simp [k1], fun i x hi => ?_⟩
      cases i with
      | zero => simp at hi; subst hi; exact ⟨_, rfl, rfl⟩
      | succ i => exact k2 i x (by simpa using hi)
    · cases e
  | .map es c :: l, l', e => by
    simp only [frzBs] at e
    split at e
    · rename_i l1 h2
      cases e
      obtain ⟨k1, k2⟩ := frzBs_at h m l l1 h2
      refine ⟨by simp [k1], fun i x hi => ?_⟩
      cases i with
      | zero => simp at hi; subst hi; exact ⟨_, rfl, rfl⟩
      | succ i => exact k2 i x (by simpa using hi)
    · cases e
  | .none :: l, l', e => by
    simp only [frzBs] at e
    split at e
    · rename_i l1 h2
      cases e
      obtain ⟨k1, k2⟩ := frzBs_at h m l l1 h2
      refine ⟨by simp [k1], fun i x hi => ?_⟩
      cases i with
      | zero => simp at hi; subst hi; exact ⟨_, rfl, rfl⟩
      | succ i => exact k2 i x (by simpa using hi)
    · cases e

theorem newIds_spec {h : List Blk} {m : Nat} : ∀ {k : Nat} {todo acc new : List Nat}, newIds h m k todo acc = some new → acc.Nodup → (∀ b ∈ acc, m ≤ b ∧ ∃ x, h[b]? = some x ∧ ∀ c ∈ x.refs, c < m ∨ c ∈ acc ∨ c ∈ todo) →
    new.Nodup ∧ (∀ b ∈ new, m ≤ b ∧ ∃ x, h[b]? = some x ∧ ∀ c ∈ x.refs, c < m ∨ c ∈ new) ∧ (∀ c ∈ todo, c < m ∨ c ∈ new) ∧ (∀ c ∈ acc, c ∈ new)
  | 0, [], acc, new, e, h1, h2 => by
    simp only [newIds, Option.some.injEq] at e; subst e
    exact ⟨h1, fun b hb => ⟨(h2 b hb).1, let ⟨x, hx, hr⟩ := (h2 b hb).2; ⟨x, hx, fun c hc => by simpa using hr c hc⟩⟩, fun c hc => (by cases hc), fun c hc => hc⟩
  | k + 1, [], acc, new, e, h1, h2 => by
    simp only [newIds, Option.some.injEq] at e; subst e
    exact ⟨h1, fun b hb => ⟨(h2 b hb).1, let ⟨x, hx, hr⟩ := (h2 b hb).2; ⟨x, hx, fun c hc => by simpa using hr c hc⟩⟩, fun c hc => (by cases hc), fun c hc => hc⟩
  | 0, _ :: _, _, _, e, _, _ => by cases e
  | k + 1, b :: todo, acc, new, e, h1, h2 => by
    simp only [newIds] at e
    split at e
    · rename_i hin
      have hin' : b < m ∨ b ∈ acc := by simpa using hin
      obtain ⟨a1, a2, a3, a4⟩ := newIds_spec e h1 (fun c hc => ⟨(h2 c hc).1, let ⟨x, hx, hr⟩ := (h2 c hc).2; ⟨x, hx, fun d hd => by
        rcases hr d hd with hh | hh | hh
        · exact .inl hh
        · exact .inr (.inl hh)
        · rcases List.mem_cons.1 hh with rfl | hh
          · exact hin'.elim .inl (fun h => .inr (.inl h))
          · exact .inr (.inr hh)⟩⟩)
      refine ⟨a1, a2, fun c hc => ?_, a4⟩
      rcases List.mem_cons.1 hc with rfl | hc
      · exact hin'.elim .inl (fun h => .inr (a4 _ h))
      · exact a3 c hc
    · rename_i hin
      have hin' : ¬ b < m ∧ b ∉ acc := by simpa using hin
      split at e
      · rename_i x hx
        obtain ⟨a1, a2, a3, a4⟩ := newIds_spec e (by
            rw [List.nodup_append]
            exact ⟨h1, by simp, fun a ha c hc => by simp at hc; subst hc; exact fun e => hin'.2 (e ▸ ha)⟩)
          (fun c hc => by
            rcases List.mem_append.1 hc with hc | hc
            · refine ⟨(h2 c hc).1, let ⟨y, hy, hr⟩ := (h2 c hc).2; ⟨y, hy, fun d hd => ?_⟩⟩
              rcases hr d hd with hh | hh | hh
              · exact .inl hh
              · exact .inr (.inl (List.mem_append.2 (.inl hh)))
              · rcases List.mem_cons.1 hh with rfl | hh
                · exact .inr (.inl (by simp))
                · exact .inr (.inr (List.mem_append.2 (.inl hh)))
            · simp at hc; subst hc
              exact ⟨by omega, x, hx, fun d hd => .inr (.inr (List.mem_append.2 (.inr hd)))⟩)
        refine ⟨a1, a2, fun c hc => ?_, fun c hc => a4 c (List.mem_append.2 (.inl hc))⟩
        rcases List.mem_cons.1 hc with rfl | hc
        · exact .inr (a4 _ (by simp))
        · exact a3 c (List.mem_append.2 (.inl hc))
      · cases e

/-- How the heap that is handed back is read. -/
def sigN (σ : Sig) (m : Nat) (new : List Nat) : Sig := fun b g => if b < m then σ b g else match new[b - m]? with | some c => σ c g | none => none

theorem idxOf_get {new : List Nat} (hn : new.Nodup) {i b : Nat} (h : new[i]? = some b) : new.idxOf b = i := by
  have hlt := (List.getElem?_eq_some_iff.1 h).1
  rw [← (List.getElem?_eq_some_iff.1 h).2]
  exact List.Nodup.idxOf_getElem hn i hlt

theorem sigN_back {new : List Nat} {m : Nat} (hm : ∀ b ∈ new, m ≤ b) {c : Nat} (hc : c < m ∨ c ∈ new) (g : Nat) : sigN σ m new (backN m new c) g = σ c g := by
  unfold sigN backN
  by_cases h : c < m
  · rw [if_pos h, if_pos h]
  · rw [if_neg h, if_neg (by omega), Nat.add_sub_cancel_left]
    have hc' := hc.resolve_left h
    rw [List.getElem?_eq_getElem (List.idxOf_lt_length_iff.2 hc')]
    simp

set_option maxHeartbeats 1000000 in
theorem final_ok {σ0 : Sig} {π0 : Prot} {w0 : World} {h0 h h' : List Blk} {v v' : AV} {u : Value} {frz : Bool} (R0 : Rel σ0 π0 w0 (h0[·]?)) (D : Done σ0 π0 w0 σ π w (h[·]?)) (hv : VR σ π w v u)
    (e : final h0.length frz v h = some (v', h')) : h0.length ≤ h'.length ∧ Ret σ0 π0 w0 v' h' (.returned u) w := by
  unfold final at e
  split at e
  · cases e
  rename_i hlen
  have R := D.rel
  -- frozen or not
  have hfr : ∀ v1 kept, (if frz then frzV h h0.length v else some v) = some v1 → (if frz then frzBs h h0.length (h.take h0.length) else some (h.take h0.length)) = some kept →
      ∃ π1 : Prot, (∀ B o, π B o → π1 B o) ∧ (∀ B o, π1 B o → π B o ∨ (frz = true ∧ ∃ b s rows gen wgen ro g l, h0.length ≤ b ∧ h[b]? = some (.arr s rows gen wgen ro) ∧ σ b g = some l ∧ l.blk = B)) ∧
        VR σ π1 w v1 u ∧ kept.length = h0.length ∧ ∀ i x, kept[i]? = some x → i < h0.length ∧ BR σ π1 w i x := by
    intro v1 kept h1 h2
    have hkl : (h.take h0.length).length = h0.length := by simp; omega
    have old : ∀ i x, (h.take h0.length)[i]? = some x → i < h0.length ∧ h[i]? = some x := by
      intro i x hi
      rw [List.getElem?_take] at hi
      split at hi
      · exact ⟨by assumption, hi⟩
      · cases hi
    cases frz with
    | false =>
      simp only [Bool.false_eq_true, if_false, Option.some.injEq] at h1 h2
      subst h1 h2
      exact ⟨π, fun _ _ h => h, fun _ _ h => .inl h, hv, hkl, fun i x hi => ⟨(old i x hi).1, R.blk i x (old i x hi).2⟩⟩
    | true =>
      simp only [if_true] at h1 h2
      obtain ⟨k1, k2⟩ := frzBs_at _ _ _ _ h2
      refine ⟨Froz π σ h h0.length, fun _ _ h => .inl h, fun B o hp => ?_, frzV_vr R _ _ _ hv h1, by omega, fun i x hi => ?_⟩
      · rcases hp with hp | ⟨b, s, rows, gen, wgen, ro, g, l, a1, a2, a3, a4, a5, a6, a7⟩
        · exact .inl hp
        · exact .inr ⟨rfl, b, s, rows, gen, wgen, ro, g, l, a1, a2, a5, a6⟩
      · obtain ⟨y, hy, hf⟩ := k2 i x hi
        obtain ⟨hlt, hyi⟩ := old i y hy
        refine ⟨hlt, ?_⟩
        have hB := R.blk i y hyi
        have hE : Ext σ π w σ (Froz π σ h h0.length) w := ⟨fun _ _ _ h => h, fun _ _ h => .inl h, fun _ _ _ => rfl, fun _ _ _ C _ _ _ h => ⟨C, h, rfl⟩⟩
        have hno : ∀ g l o, σ i g = some l → Froz π σ h h0.length l.blk o → π l.blk o := by
          intro g l o hl hp
          rcases hp with hp | ⟨b, s, rows, gen, wgen, ro, g', l', a1, a2, a3, a4, a5, a6, a7⟩
          · exact hp
          · have := R.inj _ _ _ _ _ _ a5 hl a6
            omega
        have hB' := hB.mono hE (fun _ => rfl) (fun _ _ _ => rfl) hno
        cases y with
        | row c =>
          simp only [frzB, Option.map_eq_some_iff] at hf
          obtain ⟨c', hc', rfl⟩ := hf
          obtain ⟨l, C, ty, q1, q2, q3, q4, q5⟩ := hB
          have hvs : VRs σ π w c C := ⟨q3, fun j v u hj hu => by
            obtain ⟨u', hu', hvu⟩ := q4 j v hj
            rw [Nat.zero_add] at hu'
            rw [hu'] at hu; cases hu
            exact hvu⟩
          have hvs' := frzL_vr R c c' C hvs hc'
          obtain ⟨_, _, _, p1, p2, _, _, p5⟩ := hB'
          refine ⟨l, C, ty, q1, q2, hvs'.1, fun j v hj => ?_, fun o ho => ?_⟩
          · obtain ⟨u, hu, hvu⟩ := hvs'.at_ hj
            exact ⟨u, by rw [Nat.zero_add]; exact hu, hvu⟩
          · exact q5 o (hno 0 l o q1 ho)
        | arr s rows gen wgen ro => simp only [frzB, Option.some.injEq] at hf; subst hf; exact hB'
        | map es c => simp only [frzB, Option.some.injEq] at hf; subst hf; exact hB'
        | none => simp only [frzB, Option.some.injEq] at hf; subst hf; exact hB'
  split at e
  · rename_i v1 kept hv1 hkept
    obtain ⟨π1, hπ, hπ', hv1', hkl, hkB⟩ := hfr v1 kept hv1 hkept
    split at e
    · rename_i new hnew
      split at e
      · cases e
      · rename_i hcheck
        simp only [Option.some.injEq, Prod.mk.injEq] at e
        obtain ⟨rfl, rfl⟩ := e
        obtain ⟨n1, n2, n3, _⟩ := newIds_spec hnew (by simp) (fun b hb => by cases hb)
        have hmn : ∀ b ∈ new, h0.length ≤ b := fun b hb => (n2 b hb).1
        have hnoArr : frz = true → ∀ b ∈ new, isArr h[b]? = false := by
          intro hf b hb
          cases ha : isArr h[b]? with
          | false => rfl
          | true =>
            refine absurd ?_ hcheck
            rw [hf, Bool.true_and]
            exact List.any_eq_true.2 ⟨b, hb, ha⟩
        have hback : ∀ c, c < h0.length ∨ c ∈ new → ∀ g l, σ c g = some l → sigN σ h0.length new (backN h0.length new c) g = some l := by
          intro c hc g l hl
          rw [sigN_back hmn hc, hl]
        refine ⟨by simp; omega, u, sigN σ h0.length new, π1, rfl, ?_, ?_, ?_, ?_⟩
        · exact hv1'.ren fun b hb => hback b (n3 b (List.mem_append.2 (.inl hb)))
        · -- ext
          refine ⟨fun b g l hl => ?_, fun B o hp => hπ _ _ (D.ext.prot B o hp), D.ext.cell, D.ext.size⟩
          have hb : b < h0.length := by
            refine Classical.byContradiction fun hge => ?_
            have := R0.non b (List.getElem?_eq_none (by omega)) g
            rw [hl] at this; cases this
          unfold sigN
          rw [if_pos hb]
          exact D.ext.sig b g l hl
        · -- frm
          refine ⟨D.frm.size, D.frm.os, D.frm.tape, D.frm.output, D.frm.same, fun b g l hl => ?_, fun B o hp => ?_⟩
          · unfold sigN at hl
            split at hl
            · exact D.frm.own b g l hl
            · split at hl
              · exact D.frm.own _ g l hl
              · cases hl
          · rcases hπ' B o hp with hp | ⟨_, b, s, rows, gen, wgen, ro, g, l, a1, a2, a3, a4⟩
            · exact D.frm.pro B o hp
            · rcases D.frm.own b g l a3 with h1 | ⟨b0, g0, l0, h1, h2⟩
              · exact .inr (.inl (by omega))
              · exact .inr (.inr ⟨b0, g0, l0, h1, h2.trans a4⟩)
        · -- rel
          refine ⟨fun b x hx => ?_, fun b hb g => ?_, fun b g b' g' l l' hl hl' he => ?_, fun b g l hl => ?_, fun B o hp => ?_⟩
          · rcases Nat.lt_or_ge b h0.length with hlt | hge
            · rw [List.getElem?_append_left (by simp; omega)] at hx
              simp only [List.getElem?_map, Option.map_eq_some_iff] at hx
              obtain ⟨y, hy, rfl⟩ := hx
              refine (hkB b y hy).2.ren (fun g => by unfold sigN; rw [if_pos hlt]) fun c hc => hback c (n3 c (List.mem_append.2 (.inr (List.mem_flatMap.2 ⟨y, List.mem_of_getElem? hy, hc⟩))))
            · rw [List.getElem?_append_right (by simp; omega)] at hx
              simp only [List.length_map, hkl, List.getElem?_map, Option.map_eq_some_iff] at hx
              obtain ⟨c, hc, rfl⟩ := hx
              obtain ⟨hmc, y, hy, hyr⟩ := n2 c (List.mem_of_getElem? hc)
              rw [hy]
              simp only [Option.getD_some]
              have hB := R.blk c y hy
              have hE : Ext σ π w σ π1 w := ⟨fun _ _ _ h => h, hπ, fun _ _ _ => rfl, fun _ _ _ C _ _ _ h => ⟨C, h, rfl⟩⟩
              have hB' : BR σ π1 w c y := hB.mono hE (fun _ => rfl) (fun _ _ _ => rfl) (fun g l o hl hp => by
                rcases hπ' _ _ hp with hp | ⟨hf, b2, s, rows, gen, wgen, ro, g2, l2, a1, a2, a3, a4⟩
                · exact hp
                · have := R.inj _ _ _ _ _ _ a3 hl a4
                  subst this
                  have := hnoArr hf b2 (List.mem_of_getElem? hc)
                  rw [a2] at this
                  cases this)
              refine hB'.ren (fun g => ?_) fun d hd => hback d (hyr d hd)
              unfold sigN
              rw [if_neg (by omega), hc]
          · have hge : ¬ b < h0.length := by
              intro hlt
              rw [List.getElem?_append_left (by simp; omega), List.getElem?_eq_none_iff] at hb
              simp at hb
              omega
            rw [List.getElem?_append_right (by simp; omega)] at hb
            simp only [List.length_map, hkl, List.getElem?_map, Option.map_eq_none_iff] at hb
            unfold sigN
            rw [if_neg hge, hb]
          · have orig : ∀ b g l, sigN σ h0.length new b g = some l → ∃ c, σ c g = some l ∧ ((b < h0.length ∧ c = b) ∨ (h0.length ≤ b ∧ new[b - h0.length]? = some c)) := by
              intro b g l hl
              unfold sigN at hl
              split at hl
              · exact ⟨b, hl, .inl ⟨by assumption, rfl⟩⟩
              · rename_i hge
                split at hl
                · rename_i c hc; exact ⟨c, hl, .inr ⟨by omega, hc⟩⟩
                · cases hl
            obtain ⟨c, hc, hcb⟩ := orig b g l hl
            obtain ⟨c', hc', hcb'⟩ := orig b' g' l' hl'
            have := R.inj _ _ _ _ _ _ hc hc' he
            subst this
            rcases hcb with ⟨h1, rfl⟩ | ⟨h1, h2⟩ <;> rcases hcb' with ⟨h3, h4⟩ | ⟨h3, h4⟩
            · exact h4
            · have := hmn _ (List.mem_of_getElem? h4); omega
            · have := hmn _ (List.mem_of_getElem? h2); omega
            · have e1 := idxOf_get n1 h2
              have e2 := idxOf_get n1 h4
              omega
          · unfold sigN at hl
            split at hl
            · exact R.lt b g l hl
            · split at hl
              · exact R.lt _ g l hl
              · cases hl
          · rcases hπ' B o hp with hp | ⟨_, b, s, rows, gen, wgen, ro, g, l, a1, a2, a3, a4⟩
            · exact R.prot B o hp
            · have := R.lt _ _ _ a3
              omega
    · cases e
  · cases e

end Go.Ws

namespace Go.Ws
set_option linter.unusedVariables false
set_option linter.unusedSimpArgs false

variable {P : Program} {σ : Sig} {π : Prot} {w : World}

def resRun (tmps : Array Value) : ResultVar → Sem Value
  | .tmp t => pure (tmps.getD t undef)
  | .cell a t => do loadVar t (← asAddr (tmps.getD a undef))

theorem resVal_ok {st : St} {tmps : Array Value} (R : Rel σ π w (st.h[·]?)) (ht : VRs σ π w st.t tmps) {r : ResultVar} {v : AV} (e : resVal (tiOf P) st r = some v) :
    ∃ u, (resRun tmps r).run P w = .ok u w ∧ VR σ π w v u := by
  cases r with
  | tmp t =>
    simp only [resVal, Option.some.injEq] at e
    subst e
    exact ⟨_, rfl, vrs_getD ht t⟩
  | cell a ty =>
    simp only [resVal] at e
    split at e
    · rename_i i b o hi hb
      have hvr := vrs_getD ht a
      rw [hb] at hvr
      split at e
      · rename_i c hc
        split at e
        · rename_i hle
          obtain ⟨d, inf, h1, h2, rfl⟩ := ti_spec hi
          generalize hu0 : tmps.getD a undef = u at hvr
          cases hvr with
          | hp _ _ l hl =>
            obtain ⟨l', C, ty', q1, q2, q3, q4, q5⟩ := R.blk b _ hc
            rw [hl] at q1
            cases q1
            obtain ⟨cs, hcl, hcs, hvr⟩ := vrs_slice q4 hle
            obtain ⟨u, hr, hvu⟩ := run_loadVar (P := P) (w := w) h1 h2 l.blk o cs hcl (fun j v hj => by have := hcs j v hj; simp [World.cell?, q2]; simpa using this) hvr e
            exact ⟨u, by simp only [resRun, hu0, asAddr, pure_bind, hr], hvu⟩
        · cases e
      · cases e
    · cases e

theorem results_ok {st : St} {tmps : Array Value} (R : Rel σ π w (st.h[·]?)) (ht : VRs σ π w st.t tmps) {fn : Func} {vs : List AV} (e : resVals (tiOf P) st fn.results.toList = some vs) :
    ∃ u, (results fn tmps).run P w = .ok u w ∧ VR σ π w (resTup vs) u := by
  have key : ∀ (l : List ResultVar) (vs : List AV), resVals (tiOf P) st l = some vs →
      ∃ us : List Value, (l.mapM (resRun tmps)).run P w = .ok us w ∧ VRs σ π w vs us.toArray := by
    intro l
    induction l with
    | nil =>
      intro vs e
      simp only [resVals, Option.some.injEq] at e
      subst e
      exact ⟨[], rfl, ⟨rfl, fun i v u h => by simp at h⟩⟩
    | cons r l ih =>
      intro vs e
      simp only [resVals] at e
      split at e
      · rename_i v vs' hv hvs
        cases e
        obtain ⟨u, h1, h2⟩ := resVal_ok R ht hv
        obtain ⟨us, h3, h4⟩ := ih vs' hvs
        refine ⟨u :: us, ?_, .cons h2 h4⟩
        rw [List.mapM_cons]
        simp only [Sem.run_bind, h1, Result.andThen_ok, h3, Sem.run_pure]
      · cases e
  obtain ⟨us, h1, h2⟩ := key _ _ e
  have hsz := h2.1
  simp only [List.size_toArray] at hsz
  refine ⟨if h : us.toArray.size = 1 then us.toArray[0] else .tuple us.toArray, ?_, ?_⟩
  · have he : results fn tmps = (do let vs ← fn.results.mapM (resRun tmps); pure (if h : vs.size = 1 then vs[0] else .tuple vs)) := by
      have hf : (fun (r : ResultVar) => (match r with | .tmp t => (pure (tmps.getD t undef) : Sem Value) | .cell a t => (do loadVar t (← asAddr (tmps.getD a undef)) : Sem Value))) = resRun tmps := by
        funext r
        cases r <;> rfl
      rw [← hf]
      rfl
    rw [he, Array.mapM_eq_mapM_toList]
    simp only [bind_map_left, Sem.run_bind, h1, Result.andThen_ok, Sem.run_pure]
  · match vs, us, hsz, h2 with
    | [v], [u], _, h2 => exact h2.2 0 v u rfl rfl
    | [], [], _, h2 => exact .tup [] #[] rfl (fun i v u h => by simp at h)
    | v1 :: v2 :: vs, u1 :: u2 :: us, _, h2 =>
      have : ¬ (u1 :: u2 :: us).toArray.size = 1 := by simp
      rw [dif_neg this]
      exact .tup _ _ h2.1 h2.2

/-- The table is the program's, and what is taken by a law of its own holds. -/
structure PrgOK (P : Program) (p : Prg) : Prop where
  mixed : P.follows .mixedOrders = true
  fn : ∀ f fn, p.F f = some fn → P.funcs[f]? = some fn ∧ (fn.name == "runtime.NumGoroutine") = false
  intr : ∀ f g, p.I f = some g → ∀ frz args h v h', g frz args h = some (v, h') →
    (∀ cargs w, (callFunc f cargs).run P w = .ok (.enter f cargs) w) ∧ h.length ≤ h'.length ∧
    ∀ σ π w cargs, Rel σ π w (h[·]?) → VRs σ π w args cargs → Calls P f cargs w (Ret σ π w v h')

theorem enter_run {f : FuncId} {fn : Func} {c : Code} (hf : P.funcs[f]? = some fn) (hname : (fn.name == "runtime.NumGoroutine") = false) (hb : fn.body = some c) (args : Array Value) (w : World) :
    (callFunc f args).run P w = .ok (.enter f args) w := by
  unfold callFunc
  have hn : ¬ (fn.name = "runtime.NumGoroutine") := by simpa using hname
  simp [hf, hn, hb]

theorem pad_vrs {args : List AV} {cargs : Array Value} (h : VRs σ π w args cargs) (n : Nat) : VRs σ π w (args ++ List.replicate (n - args.length) .any) (cargs ++ Array.replicate (n - cargs.size) undef) := by
  refine ⟨by simp [h.1], fun i v u hi hu => ?_⟩
  rcases Nat.lt_or_ge i args.length with hlt | hge
  · rw [List.getElem?_append_left hlt] at hi
    rw [Array.getElem?_append_left (by rw [h.1]; exact hlt)] at hu
    exact h.2 i v u hi hu
  · rw [List.getElem?_append_right hge] at hi
    rw [Array.getElem?_append_right (by rw [h.1]; exact hge)] at hu
    have h1 : v = .any := by
      rw [List.getElem?_replicate] at hi
      split at hi
      · cases hi; rfl
      · cases hi
    rw [h1]
    exact .any _

/-- A function's text. -/
theorem afun_ok {p : Prg} (H : PrgOK P p) {k : Nat} {call : CallT} (ih : CallOK P call) : CallOK P (afun (tiOf P) call p k) := by
  intro frz f args h v h' e
  simp only [afun] at e
  split at e
  · cases e
  · rename_i fn hfn
    obtain ⟨hf, hname⟩ := H.fn f fn hfn
    split at e
    · cases e
    · rename_i c hb
      split at e
      · cases e
      · rename_i x st hx hex
        split at e
        · rename_i vs hvs
          have hxx : x.out = .normal ∨ x.out = .ret := by
            cases x with
            | normal => exact .inl rfl
            | ret => exact .inr rfl
            | exit i => exact absurd rfl (hx i)
          refine ⟨enter_run hf hname hb, ?_, fun σ π w cargs R hv => ?_⟩
          · unfold final at e
            split at e
            · cases e
            rename_i hlen
            split at e
            · rename_i v1 kept h1 h2
              split at e
              · split at e
                · cases e
                · simp only [Option.some.injEq, Prod.mk.injEq] at e
                  obtain ⟨_, rfl⟩ := e
                  have : kept.length = h.length := by
                    cases frz with
                    | false =>
                      simp only [Bool.false_eq_true, if_false, Option.some.injEq] at h2
                      subst h2
                      simp; omega
                    | true =>
                      simp only [if_true] at h2
                      have := (frzBs_at _ _ _ _ h2).1
                      simp at this
                      omega
                  simp; omega
              · cases e
            · cases e
          · refine calls_of_wp hf hb ?_
            refine exec_wp ih H.mixed (fun id st st' a w1 hn N => norm_ok (fun b hb g => R.non b (List.getElem?_eq_none hb) g) hn N) k c _ x st _ _ w hex ⟨rfl, σ, π, ?_, .refl R⟩ fun a' w' N => ?_
            · exact pad_vrs hv fn.ntmps
            · obtain ⟨hd, σ', π', ht, D⟩ := N
              obtain ⟨u, hu, hvu⟩ := results_ok D.rel ht hvs
              have hfin := (final_ok R D hvu e).2
              rcases hxx with hx | hx <;> rw [hx] <;> exact ⟨hd, u, hu, hfin⟩
        · cases e
      · cases e

theorem bothE_spec {frz : Bool} {a b : Option (AV × List Blk)} {v : AV} {h : List Blk} (e : bothE frz a b = some (v, h)) : h = [] ∧ ∃ v1 v2, a = some (v1, []) ∧ b = some (v2, []) ∧
    (∀ (σ : Sig) (π : Prot) (w : World) u, VR σ π w v1 u → VR σ π w v u) ∧ (∀ (σ : Sig) (π : Prot) (w : World) u, VR σ π w v2 u → VR σ π w v u) := by
  unfold bothE at e
  split at e
  · rename_i v1 v2
    have h1 : ∀ x : AV, x.isE = true → ∀ (σ : Sig) (π : Prot) (w : World) u, VR σ π w x u → VR σ π w .zs u := by
      intro x hx σ π w u hv
      have : x.can = .zs := by cases x <;> first | rfl | cases hx
      rw [← this]
      exact hv.can
    have h2 : ∀ x : AV, x.isE0 = true → ∀ (σ : Sig) (π : Prot) (w : World) u, VR σ π w x u → VR σ π w .emps u := by
      intro x hx σ π w u hv
      cases x with
      | nils => cases hv; exact .emps _
      | emps => exact hv
      | _ => cases hx
    split at e
    · split at e
      · rename_i hc
        simp only [Bool.and_eq_true] at hc
        cases e
        exact ⟨rfl, v1, v2, rfl, rfl, h1 v1 hc.1, h1 v2 hc.2⟩
      · cases e
    · split at e
      · rename_i hc
        simp only [Bool.and_eq_true] at hc
        cases e
        exact ⟨rfl, v1, v2, rfl, rfl, h2 v1 hc.1, h2 v2 hc.2⟩
      · cases e
  · cases e

/-- SOUNDNESS. -/
theorem acall_ok {p : Prg} (H : PrgOK P p) : ∀ k, CallOK P (acall (tiOf P) p k) := by
  intro k
  induction k with
  | zero => intro frz f args h v h' e; cases e
  | succ k ih =>
    intro frz f args h v h' e
    simp only [acall] at e
    split at e
    · rename_i g hg
      exact H.intr f g hg frz args h v h' e
    · split at e
      · rename_i sz hZ
        obtain ⟨rfl, v1, v2, e1, e2, g1, g2⟩ := bothE_spec e
        obtain ⟨a1, a2, a3⟩ := afun_ok H ih _ _ _ _ _ _ e1
        obtain ⟨_, _, b3⟩ := afun_ok H ih _ _ _ _ _ _ e2
        refine ⟨a1, a2, fun σ π w cargs R hv => ?_⟩
        obtain ⟨u, r, rfl, hu, hr⟩ := hv.tail
        have hrn : r = [] := by
          have := hr.1
          simpa using this
        subst hrn
        have nil : VRs σ π w [] (([] : List Value).toArray) := ⟨rfl, fun i v u h => by simp at h⟩
        cases hu with
        | zs a c h0 =>
          cases a with
          | none =>
            obtain rfl := h0 rfl
            refine (a3 σ π w _ R (VRs.cons (.nils) nil)).mono fun e W ⟨u, σ', π', k1, k2, k3⟩ => ⟨u, σ', π', k1, g1 _ _ _ _ k2, k3⟩
          | some a =>
            refine (b3 σ π w _ R (VRs.cons (.inl0 sz a c) nil)).mono fun e W ⟨u, σ', π', k1, k2, k3⟩ => ⟨u, σ', π', k1, g2 _ _ _ _ k2, k3⟩
      · exact afun_ok H ih _ _ _ _ _ _ e

end Go.Ws

namespace Go.Ws
set_option linter.unusedVariables false
set_option linter.unusedSimpArgs false
open Go.ChangeShapes Go.WideShapes Go.ChangeAt Go.RowKit

variable {P : Program}

/-- Types of plain data: numbers, strings, bools; slices and structs of these. -/
def plainT (P : Program) : Nat → Nat → Bool
  | 0, _ => false
  | n + 1, t => match P.underlying t with
    | some .bool => true
    | some (.int _) => true
    | some .string => true
    | some (.slice e) => decide (0 < P.cellsOf e) && plainT P n e
    | some (.struct fs) => fs.toList.all fun f => plainT P n f.type
    | _ => false

/-- The cells of an argument of a plain type. -/
def ArgC (P : Program) : Nat → Nat → List AV → Prop
  | 0, _, _ => False
  | n + 1, t, c => match P.underlying t with
    | some .bool => ∃ b, c = [.bool b]
    | some (.int k) => ∃ i, c = [.int k i] ∧ k.min ≤ i ∧ i ≤ k.max
    | some .string => ∃ s, c = [.str s] ∧ s.size ≤ maxLen
    | some (.slice e) => ∃ rows, c = [sl (P.cellsOf e) rows] ∧ rows.length ≤ maxLen ∧ ∀ row ∈ rows, row.length = P.cellsOf e ∧ ArgC P n e row
    | some (.struct fs) => c.length = P.cellsOf t ∧ ∀ f ∈ fs.toList, ArgC P n f.type ((c.drop f.offset).take (P.cellsOf f.type))
    | _ => False

/-- An argument. -/
def ArgV (P : Program) (n t : Nat) (v : AV) : Prop :=
  match P.underlying t with
  | some (.struct _) => ∃ c, v = .agg c ∧ ArgC P n t c
  | _ => ArgC P n t [v]

def ArgVs (P : Program) (n : Nat) : List Nat → List AV → Prop
  | [], vs => vs = []
  | t :: ts, vs => ∃ v r, vs = v :: r ∧ ArgV P n t v ∧ ArgVs P n ts r

/-- Nothing is one's own yet; all that is there is protected. -/
def sig0 : Sig := fun _ _ => none
def prot0 (w : World) : Prot := fun B _ => B < w.heap.size

theorem vrs_append {σ : Sig} {π : Prot} {w : World} {a b : List AV} {c d : List Value} (h1 : VRs σ π w a c.toArray) (h2 : VRs σ π w b d.toArray) : VRs σ π w (a ++ b) (c ++ d).toArray := by
  have l1 := h1.1
  have l2 := h2.1
  simp only [List.size_toArray] at l1 l2
  refine ⟨by simp [l1, l2], fun i v u hi hu => ?_⟩
  simp only [List.getElem?_toArray] at hu
  rcases Nat.lt_or_ge i a.length with hlt | hge
  · rw [List.getElem?_append_left hlt] at hi
    rw [List.getElem?_append_left (by omega)] at hu
    exact h1.2 i v u hi (by simpa using hu)
  · rw [List.getElem?_append_right hge] at hi
    rw [List.getElem?_append_right (by omega)] at hu
    exact h2.2 _ v u hi (by rw [← l1]; simpa using hu)

/-- Pieces that stand side by side. -/
theorem glue {σ : Sig} {π : Prot} {w : World} : ∀ (sizes : List Nat) (Q : Nat → List AV → Prop) (cs : List Value), cs.length = sizes.sum →
    (∀ (j : Nat) s, sizes[j]? = some s → ∃ l, l.length = s ∧ VRs σ π w l ((cs.drop (sizes.take j).sum).take s).toArray ∧ (∀ v ∈ l, v.flat) ∧ Q j l) →
    ∃ l, l.length = cs.length ∧ VRs σ π w l cs.toArray ∧ (∀ v ∈ l, v.flat) ∧ ∀ (j : Nat) s, sizes[j]? = some s → Q j ((l.drop (sizes.take j).sum).take s)
  | [], Q, cs, hl, h => by
    simp at hl
    subst hl
    exact ⟨[], rfl, ⟨rfl, fun i v u h => by simp at h⟩, by simp, by simp⟩
  | s :: sizes, Q, cs, hl, h => by
    simp only [List.sum_cons] at hl
    obtain ⟨l0, k1, k2, k3, k4⟩ := h 0 s rfl
    obtain ⟨l1, m1, m2, m3, m4⟩ := glue sizes (fun j l => Q (j + 1) l) (cs.drop s) (by simp; omega) (fun j s' hj => by
      obtain ⟨l, a1, a2, a3, a4⟩ := h (j + 1) s' (by simpa using hj)
      refine ⟨l, a1, ?_, a3, a4⟩
      simpa [List.drop_drop] using a2)
    simp only [List.take_zero, List.sum_nil, List.drop_zero] at k2
    refine ⟨l0 ++ l1, by simp at m1; simp; omega, ?_, fun v hv => (List.mem_append.1 hv).elim (k3 v) (m3 v), fun j s' hj => ?_⟩
    · have := vrs_append k2 m2
      rwa [List.take_append_drop] at this
    · cases j with
      | zero =>
        simp at hj; subst hj
        simp only [List.take_zero, List.sum_nil, List.drop_zero, List.take_append_of_le_length (Nat.le_of_eq k1.symm)]
        rw [List.take_of_length_le (Nat.le_of_eq k1)]
        exact k4
      | succ j =>
        have := m4 j s' (by simpa using hj)
        simp only [List.take_succ_cons, List.sum_cons]
        rw [List.drop_append, List.drop_eq_nil_of_le (by omega), List.nil_append, k1, Nat.add_sub_cancel_left]
        exact this

theorem kmin_of_wf {k : IntKind} {n : Int} (h : (Lit.int k n).wf = true) : k.min ≤ n ∧ n ≤ k.max := by
  simpa [Lit.wf] using h

/-- Cells that read as plain data are abstract cells. -/
theorem open_cells {H : Type} {enc : TypeId × Value → H} {T : TypeId → Prop} (K : Kids P T) {w : World} : ∀ (m t n : Nat) (cs : List Value) (x : DataW H × List MemPlace), T t → plainT P m t = true →
    DataW.trod enc P w 0 (fun _ => true) true n t cs = some x → ∃ c, c.length = cs.length ∧ VRs sig0 (prot0 w) w c cs.toArray ∧ (∀ v ∈ c, v.flat) ∧ ArgC P m t c
  | 0, _, _, _, _, _, hp, _ => by cases hp
  | m + 1, t, n, cs, x, hT, hp, h => by
    have one : ∀ (v : AV) (u : Value), VR sig0 (prot0 w) w v u → VRs sig0 (prot0 w) w [v] [u].toArray := fun v u hv => .cons hv ⟨rfl, fun i v u h => by simp at h⟩
    simp only [plainT] at hp
    split at hp
    · rename_i hu
      obtain ⟨b, rfl, _⟩ := DataW.trod_bool hu h
      refine ⟨[.bool b], rfl, one _ _ (.bool b), by simp [AV.flat, AV.one, AV.refs], ?_⟩
      simp only [ArgC, hu]; exact ⟨b, rfl⟩
    · rename_i k hu
      obtain ⟨i, rfl, _, hw⟩ := DataW.trod_int hu h
      refine ⟨[.int k i], rfl, one _ _ (.int k i), by simp [AV.flat, AV.one, AV.refs], ?_⟩
      simp only [ArgC, hu]; exact ⟨i, rfl, kmin_of_wf hw⟩
    · rename_i hu
      obtain ⟨s, rfl, _, hs⟩ := DataW.trod_string hu h
      refine ⟨[.str s], rfl, one _ _ (.str s), by simp [AV.flat, AV.one, AV.refs], ?_⟩
      simp only [ArgC, hu]; exact ⟨s, rfl, hs⟩
    · rename_i e hu
      rcases DataW.trod_slice hu h with ⟨rfl, _⟩ | ⟨a, len, cap, elems, rest, n', rfl, rfl, _, hb, hlc, hcm, hel, hread, _⟩
      · refine ⟨[.zs], rfl, one _ _ (.zs _ _ fun _ => rfl), by simp [AV.flat, AV.one, AV.refs], ?_⟩
        simp only [ArgC, hu]; exact ⟨[], rfl, Nat.zero_le _, fun row hr => by cases hr⟩
      · have hTe := K.slice hT hu
        have hpe : plainT P m e = true := (by simpa using hp : 0 < P.cellsOf e ∧ plainT P m e = true).2
        have hrow : ∀ r, r < len → ∃ (row : List AV) (cs' : List Value), w.cells? 0 (a.add (r * P.cellsOf e)) (P.cellsOf e) = some cs' ∧ row.length = P.cellsOf e ∧ VRs sig0 (prot0 w) w row cs'.toArray ∧ (∀ v ∈ row, v.flat) ∧ ArgC P m e row := by
          intro r hr
          have h1 := hread r hr
          rw [List.getElem?_eq_getElem (by omega), Option.bind_eq_some_iff] at h1
          obtain ⟨cs', h2, h3⟩ := h1
          obtain ⟨row, q1, q2, q3, q4⟩ := open_cells K m e n' cs' _ hTe hpe h3
          exact ⟨row, cs', h2, by rw [q1]; exact (World.cells?_some h2).2.1, q2, q3, q4⟩
        have hex : ∃ rows : List (List AV), rows.length = len ∧ ∀ (r : Nat) row, rows[r]? = some row → ∃ cs' : List Value, w.cells? 0 (a.add (r * P.cellsOf e)) (P.cellsOf e) = some cs' ∧ row.length = P.cellsOf e ∧ VRs sig0 (prot0 w) w row cs'.toArray ∧ (∀ v ∈ row, v.flat) ∧ ArgC P m e row := by
          clear hread hel hlc h
          rename_i hcond
          clear hcond
          induction len with
          | zero => exact ⟨[], rfl, fun r row h => by simp at h⟩
          | succ len ih =>
            obtain ⟨rows, i1, i2⟩ := ih (fun r hr => hrow r (by omega))
            obtain ⟨row, hrow'⟩ := hrow len (by omega)
            refine ⟨rows ++ [row], by simp [i1], fun r row' hr => ?_⟩
            rcases Nat.lt_or_ge r rows.length with hlt | hge
            · rw [List.getElem?_append_left hlt] at hr
              exact i2 r row' hr
            · rw [List.getElem?_append_right hge] at hr
              have hr0 : r = len := by
                have := (List.getElem?_eq_some_iff.1 hr).1
                simp at this
                omega
              subst hr0
              rw [i1, Nat.sub_self] at hr
              simp at hr
              subst hr
              exact hrow'
        obtain ⟨rows, hlen, hrows⟩ := hex
        have hArg : ArgC P (m + 1) t [sl (P.cellsOf e) rows] := by
          simp only [ArgC, hu]
          refine ⟨rows, rfl, by omega, fun row hm => ?_⟩
          obtain ⟨r, hr⟩ := List.getElem?_of_mem hm
          obtain ⟨cs', _, q1, _, _, q4⟩ := hrows r row hr
          exact ⟨q1, q4⟩
        refine ⟨[sl (P.cellsOf e) rows], rfl, one _ _ (VR.can ?_), by intro v hv; simp only [List.mem_singleton] at hv; subst hv; unfold sl; cases rows <;> simp [AV.can, AV.flat, AV.one, AV.refs], hArg⟩
        cases rows with
        | nil =>
          simp at hlen
          subst hlen
          exact .inl0 _ _ _
        | cons row0 rows =>
          have hf : FlatRows (P.cellsOf e) (row0 :: rows) := fun row hm => by
            obtain ⟨r, hr⟩ := List.getElem?_of_mem hm
            obtain ⟨cs', _, q1, _, q3, _⟩ := hrows r row hr
            exact ⟨q1, q3⟩
          have cellAt : ∀ (r q : Nat) row v, (row0 :: rows)[r]? = some row → row[q]? = some v → ∃ u, w.cell? ((a.add (r * P.cellsOf e)).add q) = some u ∧ VR sig0 (prot0 w) w v u := by
            intro r q row v hr hq
            obtain ⟨cs', q0, q1, q2, _, _⟩ := hrows r row hr
            obtain ⟨_, hl, hc⟩ := World.cells?_some q0
            have hql := (List.getElem?_eq_some_iff.1 hq).1
            have hq2 : q < cs'.length := by omega
            refine ⟨cs'[q], ?_, q2.2 q v _ hq (by simp [hq2])⟩
            rw [hc q (by omega)]
            simp [hq2]
          obtain ⟨h0, hp⟩ : 0 < P.cellsOf e ∧ plainT P m e = true := by simpa using hp
          have hpos : 0 < row0.length := by rw [(hf row0 (by simp)).1]; omega
          obtain ⟨u0, hu0, _⟩ := cellAt 0 0 row0 row0[0] rfl (by simp [hpos])
          have hsp : a.spot = none := by
            have := World.cell?_spot hu0
            simpa [Addr.add] using this
          obtain ⟨B, o, sp⟩ := a
          simp only at hsp
          subst hsp
          have hcell2 : ∀ (r q : Nat) row v, (row0 :: rows)[r]? = some row → row[q]? = some v → ∃ u, w.cell? ⟨B, o + r * P.cellsOf e + q, none⟩ = some u ∧ VR sig0 (prot0 w) w v u := by
            intro r q row v hr hq
            have := cellAt r q row v hr hq
            rwa [WideShapes.add_plain, WideShapes.add_plain] at this
          have hB : B < w.heap.size := by
            rw [WideShapes.add_plain, WideShapes.add_plain] at hu0
            unfold World.cell? at hu0
            split at hu0
            · rename_i hh; exact (Array.getElem?_eq_some_iff.1 hh).1
            · cases hu0
          have := VR.inl (σ := sig0) (π := prot0 w) (w := w) (P.cellsOf e) (row0 :: rows) B o cap (fun r q => (w.cell? ⟨B, o + r * P.cellsOf e + q, none⟩).getD undef) hf (by omega)
            (fun r q row v hr hq => by
              obtain ⟨u, hu, _⟩ := hcell2 r q row v hr hq
              exact ⟨by rw [hu]; rfl, hB⟩)
            (fun r q row v hr hq => by
              obtain ⟨u, hu, hvu⟩ := hcell2 r q row v hr hq
              rw [hu]
              exact hvu)
          rwa [hlen] at this
    · rename_i fs hu
      obtain ⟨xs, n', rfl, _, hcl, hxl, hread⟩ := DataW.trod_struct hu h
      obtain ⟨K1, K2, K3⟩ := K.struct hT hu
      have hp' := List.all_eq_true.1 hp
      obtain ⟨l, a1, a2, a3, a4⟩ := glue (σ := sig0) (π := prot0 w) (w := w) (fs.toList.map fun f => P.cellsOf f.type) (fun j l => ∀ f, fs.toList[j]? = some f → ArgC P m f.type l) cs (by rw [hcl, K2]) (fun j s hj => by
        simp only [List.getElem?_map, Option.map_eq_some_iff] at hj
        obtain ⟨f, hf, rfl⟩ := hj
        have hf' : fs[j]? = some f := by simpa using hf
        have h1 := hread j f hf'
        have hjx : j < xs.length := by rw [hxl]; exact (Array.getElem?_eq_some_iff.1 hf').1
        rw [List.getElem?_eq_getElem hjx] at h1
        have hmem := List.mem_of_getElem? hf
        obtain ⟨l, b1, b2, b3, b4⟩ := open_cells K m f.type n' _ _ (K1 f hmem) (hp' f hmem) h1
        rw [K3 j f hf, List.map_take] at b1 b2
        refine ⟨l, ?_, b2, b3, fun f' hf'' => by rw [hf] at hf''; cases hf''; exact b4⟩
        have hle : ((fs.toList.map fun f => P.cellsOf f.type).take j).sum + P.cellsOf f.type ≤ cs.length := by
          rw [hcl, K2]
          have hsplit : (fs.toList.map fun f => P.cellsOf f.type) = (fs.toList.map fun f => P.cellsOf f.type).take j ++ (fs.toList.map fun f => P.cellsOf f.type).drop j := (List.take_append_drop ..).symm
          have hd : (fs.toList.map fun f => P.cellsOf f.type).drop j = P.cellsOf f.type :: (fs.toList.map fun f => P.cellsOf f.type).drop (j + 1) := by
            have hj2 : j < (fs.toList.map fun f => P.cellsOf f.type).length := by simp; exact (Array.getElem?_eq_some_iff.1 hf').1
            rw [List.drop_eq_getElem_cons hj2]
            congr 1
            have := (List.getElem?_eq_some_iff.1 hf).2
            simp [← this]
          conv => rhs; rw [hsplit, hd, List.sum_append, List.sum_cons]
          omega
        rw [b1, List.length_take, List.length_drop]
        omega)
      refine ⟨l, a1, a2, a3, ?_⟩
      simp only [ArgC, hu]
      refine ⟨by rw [a1, hcl], fun f hf => ?_⟩
      obtain ⟨j, hj⟩ := List.getElem?_of_mem hf
      have := a4 j (P.cellsOf f.type) (by simp [hj]) f hj
      rw [K3 j f hj, List.map_take]
      exact this
    · cases hp

/-- All arguments. -/
theorem open_args {H : Type} {enc : TypeId × Value → H} {T : TypeId → Prop} (K : Kids P T) {w : World} {base m : Nat} : ∀ (ts : List TypeId) (vs : List Value) (ds : List (DataW H)) (ps : List MemPlace), (∀ t ∈ ts, T t) → (ts.all fun t => plainT P m t) = true →
    (∀ (j : Nat) t v, ts[j]? = some t → vs[j]? = some v → Value.okWide P w .any base t v) → DataW.TrodAll enc P w 0 (fun _ => true) true ts vs ds ps →
    ∃ as, VRs sig0 (prot0 w) w as vs.toArray ∧ ArgVs P m ts as
  | [], vs, ds, ps, _, _, _, h => by
    obtain ⟨rfl, rfl, rfl⟩ := trodAll_nil h
    exact ⟨[], ⟨rfl, fun i v u h => by simp at h⟩, rfl⟩
  | t :: ts, vs, ds, ps, hT, hp, hv, h => by
    obtain ⟨v, vs', d, ds', p, q, rfl, rfl, rfl, ⟨n, h0⟩, hr⟩ := trodAll_cons h
    simp only [List.all_cons, Bool.and_eq_true] at hp
    obtain ⟨as, k1, k2⟩ := open_args K ts vs' ds' q (fun t ht => hT t (by simp [ht])) hp.2 (fun j t v hj hv' => hv (j + 1) t v (by simpa using hj) (by simpa using hv')) hr
    obtain ⟨c, c1, c2, c3, c4⟩ := open_cells K m t n _ _ (hT t (by simp)) hp.1 h0
    have hok := hv 0 t v rfl rfl
    have single : ∀ u : Value, v = u → u.cells = #[u] → ∃ a, c = [a] ∧ VR sig0 (prot0 w) w a v := by
      intro u hvu hu
      subst hvu
      rw [hu] at c1 c2
      match c, c1 with
      | [a], _ => exact ⟨a, rfl, c2.2 0 a v rfl rfl⟩
    have fin : ∀ a, VR sig0 (prot0 w) w a v → ArgV P m t a → ∃ as, VRs sig0 (prot0 w) w as (v :: vs').toArray ∧ ArgVs P m (t :: ts) as := fun a h1 h2 => ⟨a :: as, .cons h1 k1, a, as, rfl, h2, k2⟩
    cases m with
    | zero => cases hp.1
    | succ m =>
    have hp1 := hp.1
    simp only [plainT] at hp1
    split at hp1
    · rename_i hu
      obtain ⟨b, rfl⟩ := okWide_bool hu hok
      obtain ⟨a, rfl, ha⟩ := single _ rfl rfl
      exact fin a ha (by simp only [ArgV, hu]; exact c4)
    · rename_i k hu
      obtain ⟨i, rfl⟩ := okWide_int hu hok
      obtain ⟨a, rfl, ha⟩ := single _ rfl rfl
      exact fin a ha (by simp only [ArgV, hu]; exact c4)
    · rename_i hu
      obtain ⟨s, rfl⟩ := okWide_string hu hok
      obtain ⟨a, rfl, ha⟩ := single _ rfl rfl
      exact fin a ha (by simp only [ArgV, hu]; exact c4)
    · rename_i e hu
      obtain ⟨x, l, cp, rfl⟩ := okWide_slice hu hok
      obtain ⟨a, rfl, ha⟩ := single _ rfl rfl
      exact fin a ha (by simp only [ArgV, hu]; exact c4)
    · rename_i fs hu
      obtain ⟨cs, rfl, hsz⟩ := okWide_struct hu hok
      refine fin (.agg c) (.agg c cs ?_ fun i v u hi hu => c2.2 i v u hi (by simpa [Value.cells] using hu)) (by simp only [ArgV, hu]; exact ⟨c, rfl, c4⟩)
      have := c2.1
      simpa [Value.cells] using this
    · cases hp1

/-- What the world keeps. -/
theorem kept_of_frm {w w' : World} {σ' : Sig} {π' : Prot} (F : Frm sig0 (prot0 w) w σ' π' w') : w.keptBut w' (fun _ => False) ∧ ∀ B, B < w.heap.size → w'.heap[B]? = w.heap[B]? := by
  have hs : ∀ B, B < w.heap.size → w'.heap[B]? = w.heap[B]? := fun B hB => F.same B hB (fun b g l h => by cases h)
  refine ⟨⟨F.os, F.output, fun i hi => ?_⟩, hs⟩
  rw [hs i hi, Array.getElem?_eq_getElem hi]
  cases w.heap[i] <;> simp

theorem rel_start (w : World) : Rel sig0 (prot0 w) w (([] : List Blk)[·]?) :=
  ⟨fun b x h => (by simp at h), fun _ _ _ => rfl, fun b g b' g' l l' h => (by cases h), fun b g l h => (by cases h), fun B o h => h⟩

theorem trodAll_length {H : Type} {enc : TypeId × Value → H} {w : World} {base : Nat} {sp : Nat → Bool} {held : Bool} : ∀ {ts : List TypeId} {vs : List Value} {ds : List (DataW H)} {ps : List MemPlace}, DataW.TrodAll enc P w base sp held ts vs ds ps → ds.length = ts.length
  | [], _, _, _, h => by obtain ⟨_, rfl, _⟩ := trodAll_nil h; rfl
  | _ :: _, _, _, _, h => by
    obtain ⟨v, vs1, d, ds1, a, b, rfl, rfl, rfl, h1, h2⟩ := trodAll_cons h
    simp [trodAll_length h2]

theorem trodAll_carry {H : Type} {enc : TypeId × Value → H} {w w' : World} {base : Nat} {sp : Nat → Bool} {held : Bool} : ∀ {ts : List TypeId} {vs : List Value} {ds : List (DataW H)} {ps : List MemPlace}, DataW.TrodAll enc P w base sp held ts vs ds ps → (∀ p ∈ ps, w.sameAt w' p) →
    DataW.TrodAll enc P w' base sp held ts vs ds ps
  | [], _, _, _, h, _ => by obtain ⟨rfl, rfl, rfl⟩ := trodAll_nil h; exact trodAll_mk0
  | _ :: _, _, _, _, h, hs => by
    obtain ⟨v, vs1, d, ds1, a, b, rfl, rfl, rfl, ⟨n, h1⟩, h2⟩ := trodAll_cons h
    exact ⟨a, b, ⟨n, DataW.trod_carry n _ _ _ h1 (fun p hp => hs p (List.mem_append_left _ hp))⟩, trodAll_carry h2 (fun p hp => hs p (List.mem_append_right _ hp)), rfl⟩

theorem params_lt (hl : laidOutB P = true) {f : Nat} {fn : Func} (hfn : P.funcs[f]? = some fn) : ∀ t ∈ fn.params.toList, t < P.types.size := by
  intro t ht
  simp only [laidOutB, Bool.and_eq_true] at hl
  have h1 := Array.all_eq_true_iff_forall_mem.1 hl.2 fn (Array.mem_of_getElem? hfn)
  have h2 := Array.all_eq_true_iff_forall_mem.1 h1 t (by simpa using ht)
  simpa using h2

/-- A LAW's CONTRACT, out of the abstract machine's answer. -/
theorem contract {prg : Prg} (HP : PrgOK P prg) (hl : laidOutB P = true) (hm : mapsRowed P = true)
    (hz : ((List.range P.types.size).all fun t => match P.underlying t with | some (.slice e) => decide (0 < P.cellsOf e) | _ => true) = true)
    {f : Nat} {fn : Func} (hfn : P.funcs[f]? = some fn) {tb : TypeId} (hres : fn.resultTypes = #[tb]) (hub : P.underlying tb = some .bool) {m : Nat} (hp : (fn.params.toList.all fun t => plainT P m t) = true)
    {s : ChangeSpec} (hvars : s.vars = []) (hspec : ∀ (H : Type) (ds : List (DataW H)), ds.length = fn.params.size → s.fn H ds = { results := [.lit (.bool true)], args := ds })
    (law : ∀ as, ArgVs P m fn.params.toList as → ∃ k, acall (tiOf P) prg k true f as [] = some (.bool true, []))
    {H : Type} {enc : TypeId × Value → H} {W : World} {base : Nat} {args : Array Value} {ds gs : List (DataW H)} {before : List MemPlace} {apart fresh handsOn again : Bool}
    (hval : ∀ (j : Nat) t v, fn.params[j]? = some t → args[j]? = some v → Value.okWide P W .any base t v)
    (hW : DataW.Whole enc P fn.params.toList s.vars apart W args.toList ds gs before) :
    Calls P f args W fun e W' => ∃ v, e = .returned v ∧ s.post enc P fn apart fresh handsOn again W args v W' := by
  have K := kids_rows (P := P) hl hm
  have hT := params_lt hl hfn
  have hW0 := hW
  obtain ⟨p, q, hA, hV, rfl, hfz, hnd⟩ := hW
  rw [hvars] at hV
  obtain ⟨rfl, rfl⟩ := trodVars_none hV
  obtain ⟨as, hvr, has⟩ := open_args K (w := W) (base := base) (m := m) _ _ _ _ hT hp (fun j t v hj hv => hval j t v (by simpa using hj) (by simpa using hv)) hA
  obtain ⟨k, hk⟩ := law as has
  obtain ⟨_, _, hcalls⟩ := acall_ok HP k true f as [] _ _ hk
  refine (hcalls sig0 (prot0 W) W args (rel_start W) (by simpa using hvr)).mono fun e W' ⟨u, σ', π', he, hu, D⟩ => ?_
  have hu' : u = .bool true := by cases hu; rfl
  subst hu' he
  obtain ⟨hkept, hsame⟩ := kept_of_frm D.frm
  simp only [List.append_nil] at hW0 hfz hnd
  have hlt := hW0.lt
  have hcarry : DataW.TrodAll enc P W' 0 (fun _ => true) true fn.params.toList args.toList ds p := trodAll_carry hA fun x hx => by
    have hb := hlt x hx
    cases x with
    | cell b off => simp only [World.sameAt, World.cell?]; rw [hsame b hb]
    | map b => exact hsame b hb
  have hlen : ds.length = fn.params.size := by
    have := trodAll_length hA
    simpa using this
  have hfn' : s.fn H (ds ++ []) = { results := [.lit (.bool true)], args := ds } := by rw [List.append_nil]; exact hspec H ds hlen
  have hresT : ∀ (b : Nat) (sp : Nat → Bool) (hd : Bool), DataW.TrodAll enc P W' b sp hd fn.resultTypes.toList ((Value.bool true).resultList fn.resultTypes.size) [.lit (.bool true)] [] := by
    intro b sp hd
    rw [hres]
    exact trodAll_cons_mk (shut_bool hub true) trodAll_mk0
  have hresp : ∀ sp : Nat → Bool, (∀ x ∈ p, sp x.block = true) → DataW.TrodAll enc P W' 0 sp true fn.params.toList args.toList ds p := fun sp hsp =>
    DataW.TrodAll.respare K (slices_full_of P hz) hT hcarry hsp
  refine ⟨_, rfl, ds, [], p, [], p, [], by simpa using hW0, ?_, ?_, ?_, World.keptBut_mono (fun x hx => hx.elim) hkept, fun _ => ⟨?_, ?_⟩⟩
  · rw [hfn']; exact hresT _ _ _
  · rw [hfn']; exact hresp _ fun x hx => by simpa using hlt x hx
  · rw [hfn', hvars]; rfl
  · exact ok_one hres rfl (okWide_bool_mk hub true)
  · refine ⟨_, [], ([] ++ p) ++ [], ⟨[] ++ p, [], trodAll_append hcarry (hresT _ _ _), by rw [hvars]; rfl, rfl, ?_, ?_⟩, ?_⟩
    · intro b off hx
      have hx' : MemPlace.cell b off ∈ p := by simpa using hx
      have := hfz b off hx'
      have hb := hlt _ hx'
      unfold World.frozen? at this ⊢
      rw [hsame b hb]
      exact this
    · intro ha
      simpa using hnd ha
    · intro x hx _
      simpa using hx

end Go.Ws

namespace Go.Ws

/-- What a function hands back. -/
def finish (T : Nat → Option TI) (rs : List ResultVar) (m : Nat) (frz : Bool) : Option (AX × St) → Option (AV × List Blk)
  | some (.exit _, _) => none
  | some (_, st) => match resVals T st rs with
    | some vs => final m frz (resTup vs) st.h
    | none => none
  | none => none

/-- A function's start. -/
def begin (args : List AV) (n : Nat) (h : List Blk) : St := ⟨args ++ List.replicate (n - args.length) .any, h⟩

theorem afun_run (T : Nat → Option TI) (call : CallT) (p : Prg) (k : Nat) (frz : Bool) (f : Nat) (args : List AV) (h : List Blk) {fn : Func} {c : Code} (hF : p.F f = some fn) (hb : fn.body = some c) :
    afun T call p k frz f args h = finish T fn.results.toList h.length frz (exec T call (p.C f) (norm h.length (p.N f)) k c (begin args fn.ntmps h)) := by
  simp only [afun, hF, hb, begin]
  generalize exec T call (p.C f) (norm h.length (p.N f)) k c _ = r
  rcases r with _ | ⟨x, st⟩
  · rfl
  · cases x <;> rfl
theorem acall_succ (T : Nat → Option TI) (p : Prg) (k : Nat) (frz : Bool) (f : Nat) (args : List AV) (h : List Blk) : acall T p (k + 1) frz f args h = (match p.I f with
    | some g => g frz args h
    | none => match p.Z f, args, h with
      | some sz, [.zs], [] => bothE frz (afun T (acall T p k) p k frz f [.nils] []) (afun T (acall T p k) p k frz f [.inl sz []] [])
      | _, _, _ => afun T (acall T p k) p k frz f args h) := rfl
theorem acall_fun (T : Nat → Option TI) (p : Prg) (k : Nat) (frz : Bool) (f : Nat) (args : List AV) (h : List Blk) (hI : p.I f = none) (hZ : p.Z f = none) : acall T p (k + 1) frz f args h = afun T (acall T p k) p k frz f args h := by
  simp only [acall, hI, hZ]
theorem acall_zs (T : Nat → Option TI) (p : Prg) (k : Nat) (frz : Bool) (f : Nat) {sz : Nat} (hI : p.I f = none) (hZ : p.Z f = some sz) : acall T p (k + 1) frz f [.zs] [] = bothE frz (afun T (acall T p k) p k frz f [.nils] []) (afun T (acall T p k) p k frz f [.inl sz []] []) := by
  simp only [acall, hI, hZ]
theorem acall_inl (T : Nat → Option TI) (p : Prg) (k : Nat) (frz : Bool) (f : Nat) (sz : Nat) (rows : List (List AV)) (hI : p.I f = none) : acall T p (k + 1) frz f [.inl sz rows] [] = afun T (acall T p k) p k frz f [.inl sz rows] [] := by
  simp only [acall, hI]
  cases p.Z f <;> rfl
theorem acall_run (T : Nat → Option TI) (p : Prg) (k : Nat) (frz : Bool) (f : Nat) (args : List AV) (h : List Blk) {fn : Func} {c : Code} (hI : p.I f = none) (hZ : p.Z f = none) (hF : p.F f = some fn) (hb : fn.body = some c) :
    acall T p (k + 1) frz f args h = finish T fn.results.toList h.length frz (exec T (acall T p k) (p.C f) (norm h.length (p.N f)) k c (begin args fn.ntmps h)) := by
  rw [acall_fun T p k frz f args h hI hZ, afun_run T _ p k frz f args h hF hb]

theorem ba_eq (a b : ByteArray) : (a == b) = decide (a = b) := by
  cases a with | mk a => cases b with | mk b =>
  show (a == b) = _
  rw [Bool.eq_iff_iff]
  simp
end Go.Ws

namespace Go.Ws
set_option linter.unusedVariables false
set_option linter.unusedSimpArgs false

def CallLe (c c' : CallT) : Prop := ∀ frz f args h r, c frz f args h = some r → c' frz f args h = some r

theorem run_bind_some {α β : Type} {h : Nat → Option Blk} : ∀ {m : AM α} {k : α → AM β} {r : β × List Nat}, (m.bind k).run h = some r → ∃ a l l', m.run h = some (a, l) ∧ (k a).run h = some (r.1, l') ∧ r.2 = l ++ l'
  | .ret a, k, r, e => ⟨a, [], r.2, rfl, e, rfl⟩
  | .fail, k, r, e => by cases e
  | .rd b f, k, r, e => by
    simp only [AM.bind, AM.run] at e
    split at e
    · cases e
    · rename_i x hx
      split at e
      · cases e
      · rename_i a l he
        cases e
        obtain ⟨a', l1, l2, h1, h2, h3⟩ := run_bind_some he
        refine ⟨a', b :: l1, l2, ?_, h2, by simp at h3; simp [h3]⟩
        simp only [AM.run, hx, h1]

theorem run_bind_mk {α β : Type} {h : Nat → Option Blk} : ∀ {m : AM α} {k : α → AM β} {a : α} {l l' : List Nat} {b : β}, m.run h = some (a, l) → (k a).run h = some (b, l') → (m.bind k).run h = some (b, l ++ l')
  | .ret a0, k, a, l, l', b, h1, h2 => by cases h1; exact h2
  | .fail, _, _, _, _, _, h1, _ => by cases h1
  | .rd c f, k, a, l, l', b, h1, h2 => by
    simp only [AM.run] at h1
    split at h1
    · cases h1
    · rename_i x hx
      split at h1
      · cases h1
      · rename_i a' l1 he
        cases h1
        simp only [AM.bind, AM.run, hx, run_bind_mk he h2]
        rfl

theorem run_bind_mono {α β : Type} {h : Nat → Option Blk} {m : AM α} {k k' : α → AM β} (hk : ∀ a r, (k a).run h = some r → (k' a).run h = some r) {r : β × List Nat} (e : (m.bind k).run h = some r) : (m.bind k').run h = some r := by
  obtain ⟨a, l, l', h1, h2, h3⟩ := run_bind_some e
  have := run_bind_mk (k := k') h1 (hk a _ h2)
  obtain ⟨r1, r2⟩ := r
  simp only at h3
  rw [h3]
  exact this

theorem callOp_mono {c c' : CallT} (hc : CallLe c c') {brw frz : Bool} {n f : Nat} {args : List AV} {h : Nat → Option Blk} {r : Delta × List Nat} (e : (callOp c brw frz n f args).run h = some r) : (callOp c' brw frz n f args).run h = some r := by
  unfold callOp at e ⊢
  refine run_bind_mono (fun a r e => ?_) e
  obtain ⟨args', bw⟩ := a
  refine run_bind_mono (fun bs r e => ?_) e
  simp only at e ⊢
  split at e
  · cases e
  · rename_i hne
    rw [if_neg hne]
    split at e
    · cases e
    · rename_i v h' hcall
      rw [hc _ _ _ _ _ hcall]
      exact e

theorem aop_mono {T : Nat → Option TI} {c c' : CallT} (hc : CallLe c c') {cfg : Nat → Bool × Bool} {n : Nat} {t : List AV} {o : Op} {h : Nat → Option Blk} {r : Delta × List Nat} (e : (aop T c cfg n t o).run h = some r) : (aop T c' cfg n t o).run h = some r := by
  cases o <;> try exact e
  case makeFunc fn _ _ => cases fn <;> exact e
  case makeMap _ r => cases r <;> exact e
  case call k =>
    simp only [aop] at e ⊢
    split at e
    · rename_i b hb; exact e
    · rename_i f hf
      split at e
      · rename_i v hv
        split at e
        · rename_i f' cs args hargs
          exact callOp_mono hc e
        · exact e
      · exact e
    · exact e

theorem stepF_mono {T : Nat → Option TI} {c c' : CallT} (hc : CallLe c c') {cfg : Nat → Bool × Bool} {ops : List Oper} {n : Nat} {t : List AV} {h : Nat → Option Blk} {o : Oper} {r : Delta × List Nat} (e : stepF T c cfg ops n t h o = some r) : stepF T c' cfg ops n t h o = some r := by
  unfold stepF at e ⊢
  split at e
  · exact aop_mono hc e
  · exact e
  · cases e

theorem runOps_mono {T : Nat → Option TI} {c c' : CallT} (hc : CallLe c c') {cfg : Nat → Bool × Bool} {ops : List Oper} : ∀ {l : List Oper} {st st' : St}, runOps T c cfg ops l st = some st' → runOps T c' cfg ops l st = some st'
  | [], _, _, e => e
  | o :: l, st, st', e => by
    simp only [runOps] at e ⊢
    split at e
    · rename_i δ L hs
      rw [stepF_mono hc hs]
      simp only
      split at e
      · rename_i hu; rw [if_pos hu]; exact runOps_mono hc e
      · cases e
    · cases e

theorem runOpsD_mono {T : Nat → Option TI} {c c' : CallT} (hc : CallLe c c') {cfg : Nat → Bool × Bool} {ops : List Oper} : ∀ {l : List Oper} {st : St} {r : St × List Rec}, runOpsD T c cfg ops l st = some r → runOpsD T c' cfg ops l st = some r
  | [], _, _, e => e
  | o :: l, st, r, e => by
    simp only [runOpsD] at e ⊢
    split at e
    · rename_i δ L hs
      rw [stepF_mono hc hs]
      simp only
      split at e
      · rename_i hu
        rw [if_pos hu]
        split at e
        · rename_i st2 rs hr
          rw [runOpsD_mono hc hr]
          exact e
        · cases e
      · cases e
    · cases e

theorem runRegion_mono {T : Nat → Option TI} {c c' : CallT} (hc : CallLe c c') {cfg : Nat → Bool × Bool} {ops : Array Oper} {draw : Bool} {st st' : St} (e : runRegion T c cfg ops draw st = some st') : runRegion T c' cfg ops draw st = some st' := by
  unfold runRegion at e ⊢
  split at e
  · rename_i hd
    rw [if_pos hd]
    split at e
    · rename_i st2 rs hr
      rw [runOpsD_mono hc hr]
      exact e
    · cases e
  · rename_i hd
    rw [if_neg hd]
    exact runOps_mono hc e

theorem iter_mono {f g : St → Option (AX × St)} (hf : ∀ st r, f st = some r → g st = some r) : ∀ {n m : Nat} {st : St} {r : AX × St}, n ≤ m → iter n f st = some r → iter m g st = some r
  | 0, _, _, _, _, e => by cases e
  | n + 1, 0, _, _, h, _ => by omega
  | n + 1, m + 1, st, r, h, e => by
    simp only [iter] at e ⊢
    split at e
    · rename_i st' hs
      rw [hf _ _ hs]
      exact iter_mono hf (by omega) e
    · rename_i hne
      have := hf _ _ e
      rw [this]
      split
      · rename_i st' heq
        cases heq
        exact absurd e (hne _)
      · rfl

theorem exec_mono {T : Nat → Option TI} {c c' : CallT} (hc : CallLe c c') {cfg : Nat → Bool × Bool} {nz : Nat → St → Option St} {i j : Nat} (hij : i ≤ j) : ∀ (d : Code) (st : St) (r : AX × St), exec T c cfg nz i d st = some r → exec T c' cfg nz j d st = some r := by
  intro d
  induction d with
  | region id ops draw =>
    intro st r e
    simp only [exec] at e ⊢
    split at e
    · rename_i st1 hn
      split at e
      · rename_i st' hr; rw [runRegion_mono hc hr]; exact e
      · cases e
    · cases e
  | seq a b iha ihb =>
    intro st r e
    simp only [exec] at e ⊢
    split at e
    · rename_i st' hr; rw [iha _ _ hr]; exact ihb _ _ e
    · rename_i hne
      rw [iha _ _ e]
      split
      · rename_i st' heq; cases heq; exact absurd e (hne _)
      · rfl
  | cond o a b iha ihb =>
    intro st r e
    simp only [exec] at e ⊢
    split at e
    · rename_i x hx
      cases x with
      | true => simpa using iha _ _ (by simpa using e)
      | false => simpa using ihb _ _ (by simpa using e)
    · cases e
  | block id a iha =>
    intro st r e
    simp only [exec] at e ⊢
    split at e
    · rename_i k st' hr; rw [iha _ _ hr]; exact e
    · rename_i hne
      rw [iha _ _ e]
      split
      · rename_i k st' heq; cases heq; exact absurd e (hne _ _)
      · rfl
  | loop a iha =>
    intro st r e
    simp only [exec] at e ⊢
    exact iter_mono iha hij e
  | _ => intro st r e; exact e

theorem finish_mono {T : Nat → Option TI} {rs : List ResultVar} {m : Nat} {frz : Bool} {x y : Option (AX × St)} (h : ∀ r, x = some r → y = some r) {r : AV × List Blk} (e : finish T rs m frz x = some r) : finish T rs m frz y = some r := by
  cases x with
  | none => cases e
  | some x => rw [h x rfl]; exact e

theorem afun_mono (T : Nat → Option TI) (p : Prg) {c c' : CallT} (hc : CallLe c c') (k : Nat) : CallLe (afun T c p k) (afun T c' p (k + 1)) := by
  intro frz f args h r e
  cases hF : p.F f with
  | none => simp only [afun, hF] at e; cases e
  | some fn =>
    cases hb : fn.body with
    | none => simp only [afun, hF, hb] at e; cases e
    | some d =>
      rw [afun_run T _ p _ frz f args h hF hb] at e ⊢
      exact finish_mono (fun r hr => exec_mono hc (Nat.le_succ k) d _ r hr) e

theorem bothE_mono {frz : Bool} {a b a' b' : Option (AV × List Blk)} (ha : ∀ r, a = some r → a' = some r) (hb : ∀ r, b = some r → b' = some r) {r : AV × List Blk} (e : bothE frz a b = some r) : bothE frz a' b' = some r := by
  cases a with
  | none => cases e
  | some a =>
    cases b with
    | none => obtain ⟨v, h⟩ := a; cases h <;> cases e
    | some b => rw [ha a rfl, hb b rfl]; exact e

theorem acall_mono1 (T : Nat → Option TI) (p : Prg) : ∀ k, CallLe (acall T p k) (acall T p (k + 1)) := by
  intro k
  induction k with
  | zero => intro frz f args h r e; cases e
  | succ k ih =>
    intro frz f args h r e
    rw [acall_succ] at e ⊢
    split at e
    · exact e
    · split at e
      · exact bothE_mono (fun r hr => afun_mono T p ih k _ _ _ _ r hr) (fun r hr => afun_mono T p ih k _ _ _ _ r hr) e
      · exact afun_mono T p ih k _ _ _ _ r e

/-- MORE FUEL. -/
theorem acall_mono (T : Nat → Option TI) (p : Prg) {k m : Nat} (h : k ≤ m) {frz : Bool} {f : Nat} {args : List AV} {hp : List Blk} {r : AV × List Blk} (e : acall T p k frz f args hp = some r) : acall T p m frz f args hp = some r := by
  induction h with
  | refl => exact e
  | step _ ih => exact acall_mono1 T p _ _ _ _ _ _ ih

end Go.Ws

namespace Go.Ws

/-- The bodies of the loops, from the first one on. -/
def loops : Code → List Code
  | .seq a b => loops a ++ loops b
  | .cond _ a b => loops a ++ loops b
  | .block _ c => loops c
  | .loop c => c :: loops c
  | _ => []

def loopOf (fn : Func) (i : Nat) : Code := (loops (fn.body.getD .skip)).getD i .skip

theorem get_app {α : Type} (g l : List α) (k : Nat) : (g ++ l)[g.length + k]? = l[k]? := by
  rw [List.getElem?_append_right (by omega), Nat.add_sub_cancel_left]
theorem get_app0 {α : Type} (g l : List α) : (g ++ l)[g.length]? = l[0]? := get_app g l 0
theorem set_app {α : Type} (g l : List α) (k : Nat) (x : α) : (g ++ l).set (g.length + k) x = g ++ l.set k x := by
  rw [List.set_append_right _ _ (by omega), Nat.add_sub_cancel_left]
theorem set_app0 {α : Type} (g l : List α) (x : α) : (g ++ l).set g.length x = g ++ l.set 0 x := set_app g l 0 x
theorem get_set_lt {t : List AV} {n i : Nat} (v : AV) (hl : t.length = n) (hi : i < n) : (t.set i v)[i]? = some v := by
  rw [List.getElem?_set]; simp; omega

/-- A temporary. -/
def tget (t : List AV) (n : Nat) : AV := t.getD n undefA
theorem tget_cons0 (x : AV) (t : List AV) : tget (x :: t) 0 = x := rfl
theorem tget_cons (x : AV) (t : List AV) (n : Nat) : tget (x :: t) (n + 1) = tget t n := by simp [tget]
theorem tget_set_ne (t : List AV) (v : AV) {i j : Nat} (h : i ≠ j) : tget (t.set i v) j = tget t j := by
  simp [tget, List.getElem?_set_ne h]
theorem tget_set (t : List AV) (v : AV) {i : Nat} (h : i < t.length) : tget (t.set i v) i = v := by
  simp [tget, h]
theorem evA_tmp (t : List AV) (n : Nat) : evA t (.tmp n) = some (tget t n) := rfl
theorem evA_const (t : List AV) (v : Value) : evA t (.const v) = ofVal v := rfl
theorem evA_func (t : List AV) (f : Nat) : evA t (.func f) = some (.fn f []) := rfl
theorem wantedA_none (ops : List Oper) (t : List AV) (d : Option Nat) (o : Op) (ty : Nat) (pos : String) (af : Array Edge) : wantedA ops t ⟨d, o, ty, pos, af, none⟩ = some true := rfl
def isB (want : Bool) : AV → Option Bool
  | .bool b => some (b == want)
  | .any => none
  | _ => some false
theorem wantedA_some (ops : List Oper) (t : List AV) (d : Option Nat) (o : Op) (ty : Nat) (pos : String) (af : Array Edge) (j : Nat) (want : Bool) :
    wantedA ops t ⟨d, o, ty, pos, af, some (j, want)⟩ = match (ops[j]?).bind (·.dst) with | some d => isB want (tget t d) | none => some false := by
  unfold wantedA
  simp only
  cases hd : (ops[j]?).bind (·.dst) with
  | none => rfl
  | some d' =>
    simp only
    rcases Nat.lt_or_ge d' t.length with h | h
    · rw [List.getElem?_eq_getElem h]
      have : tget t d' = t[d'] := by simp [tget, h]
      rw [this]
      cases t[d'] <;> rfl
    · rw [List.getElem?_eq_none h]
      have : tget t d' = undefA := by simp [tget, List.getElem?_eq_none h]
      rw [this]
      rfl
theorem resVal_tmp (T : Nat → Option TI) (st : St) (n : Nat) : resVal T st (.tmp n) = some (tget st.t n) := rfl
theorem resVal_cell (T : Nat → Option TI) (st : St) (a ty : Nat) : resVal T st (.cell a ty) = match T ty, tget st.t a with
    | some i, .hp b o => match st.h[b]? with
      | some (.row c) => if o + i.sz ≤ c.length then mkVal i.isAgg ((c.drop o).take i.sz) else none
      | _ => none
    | _, _ => none := rfl

/-- One round. -/
theorem iter_next {f : St → Option (AX × St)} {n : Nat} {st st' : St} (h : f st = some (.normal, st')) : iter (n + 1) f st = iter n f st' := by
  simp only [iter, h]
theorem iter_exit {f : St → Option (AX × St)} {n : Nat} {st st' : St} {x : AX} (h : f st = some (x, st')) (hx : x ≠ .normal) : iter (n + 1) f st = some (x, st') := by
  cases x with
  | normal => exact absurd rfl hx
  | _ => simp only [iter, h]

/-! ### Statements in a row -/
def spine : Code → List Code
  | .seq a b => spine a ++ spine b
  | c => [c]

def execL (T : Nat → Option TI) (call : CallT) (cfg : Nat → Bool × Bool) (nz : Nat → St → Option St) (it : Nat) : List Code → St → Option (AX × St)
  | [], st => some (.normal, st)
  | c :: l, st => match exec T call cfg nz it c st with
    | some (.normal, st') => execL T call cfg nz it l st'
    | r => r

theorem execL_append (T : Nat → Option TI) (call : CallT) (cfg : Nat → Bool × Bool) (nz : Nat → St → Option St) (it : Nat) : ∀ (l m : List Code) (st : St), execL T call cfg nz it (l ++ m) st = match execL T call cfg nz it l st with | some (.normal, st') => execL T call cfg nz it m st' | r => r
  | [], m, st => rfl
  | c :: l, m, st => by
    simp only [List.cons_append, execL]
    rcases exec T call cfg nz it c st with _ | ⟨x, st'⟩
    · rfl
    · cases x with
      | normal => exact execL_append T call cfg nz it l m st'
      | _ => rfl

theorem exec_spine (T : Nat → Option TI) (call : CallT) (cfg : Nat → Bool × Bool) (nz : Nat → St → Option St) (it : Nat) : ∀ (c : Code) (st : St), exec T call cfg nz it c st = execL T call cfg nz it (spine c) st := by
  have one : ∀ (c : Code) (st : St), spine c = [c] → exec T call cfg nz it c st = execL T call cfg nz it (spine c) st := by
    intro c st h
    rw [h]
    simp only [execL]
    rcases exec T call cfg nz it c st with _ | ⟨x, st'⟩
    · rfl
    · cases x <;> rfl
  intro c
  induction c with
  | seq a b iha ihb =>
    intro st
    simp only [spine, execL_append, exec, iha, ihb]
    rcases execL T call cfg nz it (spine a) st with _ | ⟨x, st'⟩
    · rfl
    · cases x <;> rfl
  | _ => intro st; exact one _ _ rfl

/-- A function's statements. -/
def body (fn : Func) : List Code := spine (fn.body.getD .skip)

/-- n statements, and those behind. -/
theorem execL_split {T : Nat → Option TI} {call : CallT} {cfg : Nat → Bool × Bool} {nz : Nat → St → Option St} {it : Nat} {l : List Code} (n : Nat) {st st1 : St} (h : execL T call cfg nz it (l.take n) st = some (.normal, st1)) : execL T call cfg nz it l st = execL T call cfg nz it (l.drop n) st1 := by
  have := execL_append T call cfg nz it (l.take n) (l.drop n) st
  rw [List.take_append_drop, h] at this
  exact this
theorem execL_stop {T : Nat → Option TI} {call : CallT} {cfg : Nat → Bool × Bool} {nz : Nat → St → Option St} {it : Nat} {l : List Code} (n : Nat) {st st1 : St} {x : AX} (h : execL T call cfg nz it (l.take n) st = some (x, st1)) (hx : x ≠ .normal) : execL T call cfg nz it l st = some (x, st1) := by
  have := execL_append T call cfg nz it (l.take n) (l.drop n) st
  rw [List.take_append_drop, h] at this
  rw [this]
  cases x with
  | normal => exact absurd rfl hx
  | _ => rfl

/-- A loop in its block. -/
theorem block_exit {T : Nat → Option TI} {call : CallT} {cfg : Nat → Bool × Bool} {nz : Nat → St → Option St} {it : Nat} {id : Nat} {c : Code} {st st' : St} (h : iter it (exec T call cfg nz it c) st = some (.exit id, st')) {st2 : St} (hn : nz (2 * id + 1) st' = some st2) : exec T call cfg nz it (.block id (.loop c)) st = some (.normal, st2) := by
  simp [exec, h, hn]
theorem block_ret {T : Nat → Option TI} {call : CallT} {cfg : Nat → Bool × Bool} {nz : Nat → St → Option St} {it : Nat} {id : Nat} {c : Code} {st st' : St} (h : iter it (exec T call cfg nz it c) st = some (.ret, st')) : exec T call cfg nz it (.block id (.loop c)) st = some (.ret, st') := by
  simp [exec, h]
theorem execL_cons {T : Nat → Option TI} {call : CallT} {cfg : Nat → Bool × Bool} {nz : Nat → St → Option St} {it : Nat} {c : Code} {l : List Code} {st st' : St} (h : exec T call cfg nz it c st = some (.normal, st')) : execL T call cfg nz it (c :: l) st = execL T call cfg nz it l st' := by
  simp only [execL, h]
theorem execL_ret {T : Nat → Option TI} {call : CallT} {cfg : Nat → Bool × Bool} {nz : Nat → St → Option St} {it : Nat} {c : Code} {l : List Code} {st st' : St} (h : exec T call cfg nz it c st = some (.ret, st')) : execL T call cfg nz it (c :: l) st = some (.ret, st') := by
  simp only [execL, h]

theorem afun_body (T : Nat → Option TI) (call : CallT) (p : Prg) (k : Nat) (frz : Bool) (f : Nat) (args : List AV) (h : List Blk) {fn : Func} (hF : p.F f = some fn) (hb : fn.body.isSome = true) :
    afun T call p k frz f args h = finish T fn.results.toList h.length frz (execL T call (p.C f) (norm h.length (p.N f)) k (body fn) (begin args fn.ntmps h)) := by
  cases hc : fn.body with
  | none => rw [hc] at hb; cases hb
  | some c => rw [afun_run T call p k frz f args h hF hc, exec_spine]; simp [body, hc]
theorem acall_body (T : Nat → Option TI) (p : Prg) (k : Nat) (frz : Bool) (f : Nat) (args : List AV) (h : List Blk) {fn : Func} (hI : p.I f = none) (hZ : p.Z f = none) (hF : p.F f = some fn) (hb : fn.body.isSome = true) :
    acall T p (k + 1) frz f args h = finish T fn.results.toList h.length frz (execL T (acall T p k) (p.C f) (norm h.length (p.N f)) k (body fn) (begin args fn.ntmps h)) := by
  rw [acall_fun T p k frz f args h hI hZ, afun_body T _ p k frz f args h hF hb]

end Go.Ws

namespace Go.Ws
set_option linter.unusedVariables false

section
variable {T : Nat → Option TI} {p : Prg} {f m : Nat}

/-- With some fuel the statements come to an end of which Q holds. -/
def Rn (T : Nat → Option TI) (p : Prg) (f m : Nat) (cs : List Code) (st : St) (Q : AX → St → Prop) : Prop :=
  ∃ k x st', execL T (acall T p k) (p.C f) (norm m (p.N f)) k cs st = some (x, st') ∧ Q x st'

/-- With some fuel a call comes to this. -/
def CallR (T : Nat → Option TI) (p : Prg) (frz : Bool) (f : Nat) (args : List AV) (h : List Blk) (v : AV) (h' : List Blk) : Prop :=
  ∃ k, acall T p k frz f args h = some (v, h')

theorem callLe {k j : Nat} (h : k ≤ j) : CallLe (acall T p k) (acall T p j) := fun _ _ _ _ _ e => acall_mono T p h e

theorem execL_mono {c c' : CallT} (hc : CallLe c c') {cfg : Nat → Bool × Bool} {nz : Nat → St → Option St} {i j : Nat} (hij : i ≤ j) : ∀ (l : List Code) (st : St) (r : AX × St), execL T c cfg nz i l st = some r → execL T c' cfg nz j l st = some r
  | [], st, r, e => e
  | d :: l, st, r, e => by
    simp only [execL] at e ⊢
    split at e
    · rename_i st' hr
      rw [exec_mono hc hij d st _ hr]
      exact execL_mono hc hij l st' r e
    · rename_i hne
      rw [exec_mono hc hij d st r e]
      split
      · rename_i st' heq; cases heq; exact absurd e (hne _)
      · rfl

theorem up {k j : Nat} (h : k ≤ j) {cs : List Code} {st : St} {r : AX × St} (e : execL T (acall T p k) (p.C f) (norm m (p.N f)) k cs st = some r) : execL T (acall T p j) (p.C f) (norm m (p.N f)) j cs st = some r :=
  execL_mono (callLe h) h cs st r e

theorem Rn.mono {cs : List Code} {st : St} {Q Q' : AX → St → Prop} (h : Rn T p f m cs st Q) (hq : ∀ x st', Q x st' → Q' x st') : Rn T p f m cs st Q' :=
  let ⟨k, x, st', e, q⟩ := h; ⟨k, x, st', e, hq x st' q⟩

theorem Rn.fin {cs : List Code} {st : St} {Q : AX → St → Prop} {k : Nat} {x : AX} {st' : St} (e : execL T (acall T p k) (p.C f) (norm m (p.N f)) k cs st = some (x, st')) (q : Q x st') : Rn T p f m cs st Q := ⟨k, x, st', e, q⟩

theorem Rn.seg (n : Nat) {cs : List Code} {st st1 : St} {Q : AX → St → Prop} {k : Nat} (e : execL T (acall T p k) (p.C f) (norm m (p.N f)) k (cs.take n) st = some (.normal, st1)) (h : Rn T p f m (cs.drop n) st1 Q) : Rn T p f m cs st Q := by
  obtain ⟨j, x, st', e', q⟩ := h
  refine ⟨max k j, x, st', ?_, q⟩
  rw [execL_split n (up (Nat.le_max_left k j) e)]
  exact up (Nat.le_max_right k j) e'

theorem Rn.stop (n : Nat) {cs : List Code} {st st1 : St} {Q : AX → St → Prop} {k : Nat} {x : AX} (e : execL T (acall T p k) (p.C f) (norm m (p.N f)) k (cs.take n) st = some (x, st1)) (hx : x ≠ .normal) (q : Q x st1) : Rn T p f m cs st Q :=
  ⟨k, x, st1, execL_stop n e hx, q⟩

theorem Rn.cond {o : Operand} {a b : Code} {rest : List Code} {st : St} {Q : AX → St → Prop} {x : Bool} (e : evA st.t o = some (.bool x)) (h : Rn T p f m (spine (if x then a else b) ++ rest) st Q) : Rn T p f m (.cond o a b :: rest) st Q := by
  obtain ⟨k, y, st', e', q⟩ := h
  refine ⟨k, y, st', ?_, q⟩
  rw [execL_append, ← exec_spine] at e'
  simp only [execL, exec, e]
  cases x <;> simpa using e'

/-- How a block's end is taken. -/
def BlkQ (T : Nat → Option TI) (p : Prg) (f m id : Nat) (rest : List Code) (Q : AX → St → Prop) (x : AX) (st : St) : Prop :=
  match x with
  | .exit i => if i = id then ∃ st2, norm m (p.N f) (2 * id + 1) st = some st2 ∧ Rn T p f m rest st2 Q else Q (.exit i) st
  | .normal => Rn T p f m rest st Q
  | .ret => Q .ret st

theorem Rn.block {id : Nat} {c : Code} {rest : List Code} {st : St} {Q : AX → St → Prop} (h : Rn T p f m (spine c) st (BlkQ T p f m id rest Q)) : Rn T p f m (.block id c :: rest) st Q := by
  obtain ⟨k, x, st', e, q⟩ := h
  rw [← exec_spine] at e
  cases x with
  | normal =>
    obtain ⟨j, y, st2, e2, q2⟩ := q
    refine ⟨max k j, y, st2, ?_, q2⟩
    have e' := exec_mono (callLe (p := p) (T := T) (Nat.le_max_left k j)) (Nat.le_max_left k j) c st _ e
    simp only [execL, exec, e']
    exact up (Nat.le_max_right k j) e2
  | exit i =>
    simp only [BlkQ] at q
    split at q
    · rename_i hi
      subst hi
      obtain ⟨st2, hn, j, y, st3, e2, q2⟩ := q
      refine ⟨max k j, y, st3, ?_, q2⟩
      have e' := exec_mono (callLe (p := p) (T := T) (Nat.le_max_left k j)) (Nat.le_max_left k j) c st _ e
      simp only [execL, exec, e', if_true, hn]
      exact up (Nat.le_max_right k j) e2
    · rename_i hi
      exact ⟨k, .exit i, st', by simp only [execL, exec, e, if_neg hi], q⟩
  | ret => exact ⟨k, .ret, st', by simp only [execL, exec, e], q⟩

/-- How a round's end is taken. -/
def LoopQ (T : Nat → Option TI) (p : Prg) (f m : Nat) (c : Code) (Q : AX → St → Prop) (x : AX) (st : St) : Prop :=
  match x with
  | .normal => Rn T p f m [.loop c] st Q
  | x => Q x st

theorem BlkQ.normal {id : Nat} {rest : List Code} {Q : AX → St → Prop} {st : St} (h : Rn T p f m rest st Q) : BlkQ T p f m id rest Q .normal st := h
theorem BlkQ.exit {id : Nat} {rest : List Code} {Q : AX → St → Prop} {st st2 : St} (hn : norm m (p.N f) (2 * id + 1) st = some st2) (h : Rn T p f m rest st2 Q) : BlkQ T p f m id rest Q (.exit id) st := by
  simp only [BlkQ, if_true]
  exact ⟨st2, hn, h⟩
theorem BlkQ.other {id i : Nat} {rest : List Code} {Q : AX → St → Prop} {st : St} (hi : i ≠ id) (q : Q (.exit i) st) : BlkQ T p f m id rest Q (.exit i) st := by
  simp only [BlkQ, if_neg hi]
  exact q
theorem BlkQ.ret {id : Nat} {rest : List Code} {Q : AX → St → Prop} {st : St} (q : Q .ret st) : BlkQ T p f m id rest Q .ret st := q
theorem LoopQ.normal {c : Code} {Q : AX → St → Prop} {st : St} (h : Rn T p f m [.loop c] st Q) : LoopQ T p f m c Q .normal st := h
theorem LoopQ.exit {c : Code} {Q : AX → St → Prop} {st : St} {i : Nat} (h : Q (.exit i) st) : LoopQ T p f m c Q (.exit i) st := h
theorem LoopQ.ret {c : Code} {Q : AX → St → Prop} {st : St} (h : Q .ret st) : LoopQ T p f m c Q .ret st := h
theorem name_it {α β : Type} {o : Option (α × β)} {x : α} {s : β} (h : o = some (x, s)) : ∃ s', s' = s ∧ o = some (x, s') := ⟨s, rfl, h⟩
theorem name_it1 {β : Type} {o : Option β} {s : β} (h : o = some s) : ∃ s', s' = s ∧ o = some s' := ⟨s, rfl, h⟩

theorem exec_loop1 {k : Nat} {c : Code} {st : St} {r : AX × St} (e : execL T (acall T p k) (p.C f) (norm m (p.N f)) k [.loop c] st = some r) : exec T (acall T p k) (p.C f) (norm m (p.N f)) k (.loop c) st = some r := by
  simp only [execL] at e
  split at e
  · rename_i st' h; rw [h, ← e]
  · exact e

theorem Rn.loop {c : Code} {st : St} {Q : AX → St → Prop} (h : Rn T p f m (spine c) st (LoopQ T p f m c Q)) : Rn T p f m [.loop c] st Q := by
  obtain ⟨k, x, st', e, q⟩ := h
  rw [← exec_spine] at e
  have fin : x ≠ .normal → Q x st' → Rn T p f m [.loop c] st Q := by
    intro hx hq
    refine ⟨k + 1, x, st', ?_, hq⟩
    have e' := exec_mono (callLe (p := p) (T := T) (Nat.le_succ k)) (Nat.le_succ k) c st _ e
    have h1 : exec T (acall T p (k + 1)) (p.C f) (norm m (p.N f)) (k + 1) (.loop c) st = some (x, st') := by
      simp only [exec]
      exact iter_exit e' hx
    simp only [execL, h1]
    cases x with
    | normal => exact absurd rfl hx
    | _ => rfl
  cases x with
  | normal =>
    obtain ⟨j, y, st2, e2, q2⟩ := q
    refine ⟨max k j + 1, y, st2, ?_, q2⟩
    have e' := exec_mono (callLe (p := p) (T := T) (show k ≤ max k j + 1 by omega)) (show k ≤ max k j + 1 by omega) c st _ e
    have h2 := exec_loop1 e2
    simp only [exec] at h2
    have h3 := iter_mono (fun st r h => exec_mono (callLe (p := p) (T := T) (show j ≤ max k j + 1 by omega)) (show j ≤ max k j + 1 by omega) c st r h) (show j ≤ max k j by omega) h2
    have h1 : exec T (acall T p (max k j + 1)) (p.C f) (norm m (p.N f)) (max k j + 1) (.loop c) st = some (y, st2) := by
      simp only [exec]
      rw [iter_next e', h3]
    simp only [execL, h1]
    cases y <;> rfl
  | exit i => exact fin (by simp) q
  | ret => exact fin (by simp) q

theorem CallR.of {frz : Bool} {args : List AV} {h h' : List Blk} {v : AV} {fn : Func} (hI : p.I f = none) (hZ : p.Z f = none) (hF : p.F f = some fn) (hb : fn.body.isSome = true)
    (r : Rn T p f h.length (body fn) (begin args fn.ntmps h) (fun x st' => finish T fn.results.toList h.length frz (some (x, st')) = some (v, h'))) : CallR T p frz f args h v h' := by
  obtain ⟨k, x, st', e, q⟩ := r
  exact ⟨k + 1, by rw [acall_body T p k frz f args h hI hZ hF hb, e]; exact q⟩
end

/-- A part of a function's text: the way to it (0, 1: of two in a row; 2, 3: of a condition; 4: of a block; 5: of a loop). -/
def sub : Code → List Nat → Code
  | c, [] => c
  | .seq a _, 0 :: l => sub a l
  | .seq _ b, 1 :: l => sub b l
  | .cond _ a _, 2 :: l => sub a l
  | .cond _ _ b, 3 :: l => sub b l
  | .block _ c, 4 :: l => sub c l
  | .loop c, 5 :: l => sub c l
  | c, _ => c

def at_ (fn : Func) (l : List Nat) : Code := sub (fn.body.getD .skip) l
end Go.Ws
