/-
  Arguments of plain data, as abstract values; the bridge from the abstract machine to a law's row.
  Conditions: none.
-/
import Derived.Test.YtpfhlkhdmikdaaaZFn
import Derived.WalkKit
import Derived.ProofKit
import Derived.OpenShut
import Derived.ReadAgain
import Derived.ChangeBears
import Derived.ChangeArms
namespace Go.Ws
set_option linter.unusedVariables false
set_option linter.unusedSimpArgs false
open Go.ChangeShapes Go.WideShapes Go.ChangeAt Go.RowKit

variable {P : Program}

/-- Types of plain data: numbers, strings, bools; slices and structs of these. -/
def plainT (P : Program) : Nat → Nat → Bool
  | 0, _ => false
  | n + 1, t => match P.underlying t with
    | some .bool => true
    | some (.int _) => true
    | some .string => true
    | some (.slice e) => decide (0 < P.cellsOf e) && plainT P n e
    | some (.struct fs) => fs.toList.all fun f => plainT P n f.type
    | _ => false

/-- The cells of an argument of a plain type. -/
def ArgC (P : Program) : Nat → Nat → List AV → Prop
  | 0, _, _ => False
  | n + 1, t, c => match P.underlying t with
    | some .bool => ∃ b, c = [.bool b]
    | some (.int k) => ∃ i, c = [.int k i] ∧ k.min ≤ i ∧ i ≤ k.max
    | some .string => ∃ s, c = [.str s] ∧ s.size ≤ maxLen
    | some (.slice e) => c = [.nils] ∨ ∃ rows, c = [.inl (P.cellsOf e) rows] ∧ rows.length ≤ maxLen ∧ ∀ row ∈ rows, row.length = P.cellsOf e ∧ ArgC P n e row
    | some (.struct fs) => c.length = P.cellsOf t ∧ ∀ f ∈ fs.toList, ArgC P n f.type ((c.drop f.offset).take (P.cellsOf f.type))
    | _ => False

/-- An argument. -/
def ArgV (P : Program) (n t : Nat) (v : AV) : Prop :=
  match P.underlying t with
  | some (.struct _) => ∃ c, v = .agg c ∧ ArgC P n t c
  | _ => ArgC P n t [v]

def ArgVs (P : Program) (n : Nat) : List Nat → List AV → Prop
  | [], vs => vs = []
  | t :: ts, vs => ∃ v r, vs = v :: r ∧ ArgV P n t v ∧ ArgVs P n ts r

/-- Nothing is one's own yet; all that is there is protected. -/
def sig0 : Sig := fun _ _ => none
def prot0 (w : World) : Prot := fun B _ => B < w.heap.size

theorem vrs_append {σ : Sig} {π : Prot} {w : World} {a b : List AV} {c d : List Value} (h1 : VRs σ π w a c.toArray) (h2 : VRs σ π w b d.toArray) : VRs σ π w (a ++ b) (c ++ d).toArray := by
  have l1 := h1.1
  have l2 := h2.1
  simp only [List.size_toArray] at l1 l2
  refine ⟨by simp [l1, l2], fun i v u hi hu => ?_⟩
  simp only [List.getElem?_toArray] at hu
  rcases Nat.lt_or_ge i a.length with hlt | hge
  · rw [List.getElem?_append_left hlt] at hi
    rw [List.getElem?_append_left (by omega)] at hu
    exact h1.2 i v u hi (by simpa using hu)
  · rw [List.getElem?_append_right hge] at hi
    rw [List.getElem?_append_right (by omega)] at hu
    exact h2.2 _ v u hi (by rw [← l1]; simpa using hu)

/-- Pieces that stand side by side. -/
theorem glue {σ : Sig} {π : Prot} {w : World} : ∀ (sizes : List Nat) (Q : Nat → List AV → Prop) (cs : List Value), cs.length = sizes.sum →
    (∀ (j : Nat) s, sizes[j]? = some s → ∃ l, l.length = s ∧ VRs σ π w l ((cs.drop (sizes.take j).sum).take s).toArray ∧ (∀ v ∈ l, v.flat) ∧ Q j l) →
    ∃ l, l.length = cs.length ∧ VRs σ π w l cs.toArray ∧ (∀ v ∈ l, v.flat) ∧ ∀ (j : Nat) s, sizes[j]? = some s → Q j ((l.drop (sizes.take j).sum).take s)
  | [], Q, cs, hl, h => by
    simp at hl
    subst hl
    exact ⟨[], rfl, ⟨rfl, fun i v u h => by simp at h⟩, by simp, by simp⟩
  | s :: sizes, Q, cs, hl, h => by
    simp only [List.sum_cons] at hl
    obtain ⟨l0, k1, k2, k3, k4⟩ := h 0 s rfl
    obtain ⟨l1, m1, m2, m3, m4⟩ := glue sizes (fun j l => Q (j + 1) l) (cs.drop s) (by simp; omega) (fun j s' hj => by
      obtain ⟨l, a1, a2, a3, a4⟩ := h (j + 1) s' (by simpa using hj)
      refine ⟨l, a1, ?_, a3, a4⟩
      simpa [List.drop_drop] using a2)
    simp only [List.take_zero, List.sum_nil, List.drop_zero] at k2
    refine ⟨l0 ++ l1, by simp at m1; simp; omega, ?_, fun v hv => (List.mem_append.1 hv).elim (k3 v) (m3 v), fun j s' hj => ?_⟩
    · have := vrs_append k2 m2
      rwa [List.take_append_drop] at this
    · cases j with
      | zero =>
        simp at hj; subst hj
        simp only [List.take_zero, List.sum_nil, List.drop_zero, List.take_append_of_le_length (Nat.le_of_eq k1.symm)]
        rw [List.take_of_length_le (Nat.le_of_eq k1)]
        exact k4
      | succ j =>
        have := m4 j s' (by simpa using hj)
        simp only [List.take_succ_cons, List.sum_cons]
        rw [List.drop_append, List.drop_eq_nil_of_le (by omega), List.nil_append, k1, Nat.add_sub_cancel_left]
        exact this

theorem kmin_of_wf {k : IntKind} {n : Int} (h : (Lit.int k n).wf = true) : k.min ≤ n ∧ n ≤ k.max := by
  simpa [Lit.wf] using h

/-- Cells that read as plain data are abstract cells. -/
theorem open_cells {H : Type} {enc : TypeId × Value → H} {T : TypeId → Prop} (K : Kids P T) {w : World} : ∀ (m t n : Nat) (cs : List Value) (x : DataW H × List MemPlace), T t → plainT P m t = true →
    DataW.trod enc P w 0 (fun _ => true) true n t cs = some x → ∃ c, c.length = cs.length ∧ VRs sig0 (prot0 w) w c cs.toArray ∧ (∀ v ∈ c, v.flat) ∧ ArgC P m t c
  | 0, _, _, _, _, _, hp, _ => by cases hp
  | m + 1, t, n, cs, x, hT, hp, h => by
    have one : ∀ (v : AV) (u : Value), VR sig0 (prot0 w) w v u → VRs sig0 (prot0 w) w [v] [u].toArray := fun v u hv => .cons hv ⟨rfl, fun i v u h => by simp at h⟩
    simp only [plainT] at hp
    split at hp
    · rename_i hu
      obtain ⟨b, rfl, _⟩ := DataW.trod_bool hu h
      refine ⟨[.bool b], rfl, one _ _ (.bool b), by simp [AV.flat, AV.one, AV.refs], ?_⟩
      simp only [ArgC, hu]; exact ⟨b, rfl⟩
    · rename_i k hu
      obtain ⟨i, rfl, _, hw⟩ := DataW.trod_int hu h
      refine ⟨[.int k i], rfl, one _ _ (.int k i), by simp [AV.flat, AV.one, AV.refs], ?_⟩
      simp only [ArgC, hu]; exact ⟨i, rfl, kmin_of_wf hw⟩
    · rename_i hu
      obtain ⟨s, rfl, _, hs⟩ := DataW.trod_string hu h
      refine ⟨[.str s], rfl, one _ _ (.str s), by simp [AV.flat, AV.one, AV.refs], ?_⟩
      simp only [ArgC, hu]; exact ⟨s, rfl, hs⟩
    · rename_i e hu
      rcases DataW.trod_slice hu h with ⟨rfl, _⟩ | ⟨a, len, cap, elems, rest, n', rfl, rfl, _, hb, hlc, hcm, hel, hread, _⟩
      · refine ⟨[.nils], rfl, one _ _ .nils, by simp [AV.flat, AV.one, AV.refs], ?_⟩
        simp only [ArgC, hu]; exact .inl trivial
      · have hTe := K.slice hT hu
        have hpe : plainT P m e = true := (by simpa using hp : 0 < P.cellsOf e ∧ plainT P m e = true).2
        have hrow : ∀ r, r < len → ∃ (row : List AV) (cs' : List Value), w.cells? 0 (a.add (r * P.cellsOf e)) (P.cellsOf e) = some cs' ∧ row.length = P.cellsOf e ∧ VRs sig0 (prot0 w) w row cs'.toArray ∧ (∀ v ∈ row, v.flat) ∧ ArgC P m e row := by
          intro r hr
          have h1 := hread r hr
          rw [List.getElem?_eq_getElem (by omega), Option.bind_eq_some_iff] at h1
          obtain ⟨cs', h2, h3⟩ := h1
          obtain ⟨row, q1, q2, q3, q4⟩ := open_cells K m e n' cs' _ hTe hpe h3
          exact ⟨row, cs', h2, by rw [q1]; exact (World.cells?_some h2).2.1, q2, q3, q4⟩
        have hex : ∃ rows : List (List AV), rows.length = len ∧ ∀ (r : Nat) row, rows[r]? = some row → ∃ cs' : List Value, w.cells? 0 (a.add (r * P.cellsOf e)) (P.cellsOf e) = some cs' ∧ row.length = P.cellsOf e ∧ VRs sig0 (prot0 w) w row cs'.toArray ∧ (∀ v ∈ row, v.flat) ∧ ArgC P m e row := by
          clear hread hel hlc h
          rename_i hcond
          clear hcond
          induction len with
          | zero => exact ⟨[], rfl, fun r row h => by simp at h⟩
          | succ len ih =>
            obtain ⟨rows, i1, i2⟩ := ih (fun r hr => hrow r (by omega))
            obtain ⟨row, hrow'⟩ := hrow len (by omega)
            refine ⟨rows ++ [row], by simp [i1], fun r row' hr => ?_⟩
            rcases Nat.lt_or_ge r rows.length with hlt | hge
            · rw [List.getElem?_append_left hlt] at hr
              exact i2 r row' hr
            · rw [List.getElem?_append_right hge] at hr
              have hr0 : r = len := by
                have := (List.getElem?_eq_some_iff.1 hr).1
                simp at this
                omega
              subst hr0
              rw [i1, Nat.sub_self] at hr
              simp at hr
              subst hr
              exact hrow'
        obtain ⟨rows, hlen, hrows⟩ := hex
        have hArg : ArgC P (m + 1) t [.inl (P.cellsOf e) rows] := by
          simp only [ArgC, hu]
          refine .inr ⟨rows, rfl, by omega, fun row hm => ?_⟩
          obtain ⟨r, hr⟩ := List.getElem?_of_mem hm
          obtain ⟨cs', _, q1, _, _, q4⟩ := hrows r row hr
          exact ⟨q1, q4⟩
        refine ⟨[.inl (P.cellsOf e) rows], rfl, one _ _ ?_, by simp [AV.flat, AV.one, AV.refs], hArg⟩
        cases rows with
        | nil =>
          simp at hlen
          subst hlen
          exact .inl0 _ _ _
        | cons row0 rows =>
          have hf : FlatRows (P.cellsOf e) (row0 :: rows) := fun row hm => by
            obtain ⟨r, hr⟩ := List.getElem?_of_mem hm
            obtain ⟨cs', _, q1, _, q3, _⟩ := hrows r row hr
            exact ⟨q1, q3⟩
          have cellAt : ∀ (r q : Nat) row v, (row0 :: rows)[r]? = some row → row[q]? = some v → ∃ u, w.cell? ((a.add (r * P.cellsOf e)).add q) = some u ∧ VR sig0 (prot0 w) w v u := by
            intro r q row v hr hq
            obtain ⟨cs', q0, q1, q2, _, _⟩ := hrows r row hr
            obtain ⟨_, hl, hc⟩ := World.cells?_some q0
            have hql := (List.getElem?_eq_some_iff.1 hq).1
            have hq2 : q < cs'.length := by omega
            refine ⟨cs'[q], ?_, q2.2 q v _ hq (by simp [hq2])⟩
            rw [hc q (by omega)]
            simp [hq2]
          obtain ⟨h0, hp⟩ : 0 < P.cellsOf e ∧ plainT P m e = true := by simpa using hp
          have hpos : 0 < row0.length := by rw [(hf row0 (by simp)).1]; omega
          obtain ⟨u0, hu0, _⟩ := cellAt 0 0 row0 row0[0] rfl (by simp [hpos])
          have hsp : a.spot = none := by
            have := World.cell?_spot hu0
            simpa [Addr.add] using this
          obtain ⟨B, o, sp⟩ := a
          simp only at hsp
          subst hsp
          have hcell2 : ∀ (r q : Nat) row v, (row0 :: rows)[r]? = some row → row[q]? = some v → ∃ u, w.cell? ⟨B, o + r * P.cellsOf e + q, none⟩ = some u ∧ VR sig0 (prot0 w) w v u := by
            intro r q row v hr hq
            have := cellAt r q row v hr hq
            rwa [WideShapes.add_plain, WideShapes.add_plain] at this
          have hB : B < w.heap.size := by
            rw [WideShapes.add_plain, WideShapes.add_plain] at hu0
            unfold World.cell? at hu0
            split at hu0
            · rename_i hh; exact (Array.getElem?_eq_some_iff.1 hh).1
            · cases hu0
          have := VR.inl (σ := sig0) (π := prot0 w) (w := w) (P.cellsOf e) (row0 :: rows) B o cap (fun r q => (w.cell? ⟨B, o + r * P.cellsOf e + q, none⟩).getD undef) hf (by omega)
            (fun r q row v hr hq => by
              obtain ⟨u, hu, _⟩ := hcell2 r q row v hr hq
              exact ⟨by rw [hu]; rfl, hB⟩)
            (fun r q row v hr hq => by
              obtain ⟨u, hu, hvu⟩ := hcell2 r q row v hr hq
              rw [hu]
              exact hvu)
          rwa [hlen] at this
    · rename_i fs hu
      obtain ⟨xs, n', rfl, _, hcl, hxl, hread⟩ := DataW.trod_struct hu h
      obtain ⟨K1, K2, K3⟩ := K.struct hT hu
      have hp' := List.all_eq_true.1 hp
      obtain ⟨l, a1, a2, a3, a4⟩ := glue (σ := sig0) (π := prot0 w) (w := w) (fs.toList.map fun f => P.cellsOf f.type) (fun j l => ∀ f, fs.toList[j]? = some f → ArgC P m f.type l) cs (by rw [hcl, K2]) (fun j s hj => by
        simp only [List.getElem?_map, Option.map_eq_some_iff] at hj
        obtain ⟨f, hf, rfl⟩ := hj
        have hf' : fs[j]? = some f := by simpa using hf
        have h1 := hread j f hf'
        have hjx : j < xs.length := by rw [hxl]; exact (Array.getElem?_eq_some_iff.1 hf').1
        rw [List.getElem?_eq_getElem hjx] at h1
        have hmem := List.mem_of_getElem? hf
        obtain ⟨l, b1, b2, b3, b4⟩ := open_cells K m f.type n' _ _ (K1 f hmem) (hp' f hmem) h1
        rw [K3 j f hf, List.map_take] at b1 b2
        refine ⟨l, ?_, b2, b3, fun f' hf'' => by rw [hf] at hf''; cases hf''; exact b4⟩
        have hle : ((fs.toList.map fun f => P.cellsOf f.type).take j).sum + P.cellsOf f.type ≤ cs.length := by
          rw [hcl, K2]
          have hsplit : (fs.toList.map fun f => P.cellsOf f.type) = (fs.toList.map fun f => P.cellsOf f.type).take j ++ (fs.toList.map fun f => P.cellsOf f.type).drop j := (List.take_append_drop ..).symm
          have hd : (fs.toList.map fun f => P.cellsOf f.type).drop j = P.cellsOf f.type :: (fs.toList.map fun f => P.cellsOf f.type).drop (j + 1) := by
            have hj2 : j < (fs.toList.map fun f => P.cellsOf f.type).length := by simp; exact (Array.getElem?_eq_some_iff.1 hf').1
            rw [List.drop_eq_getElem_cons hj2]
            congr 1
            have := (List.getElem?_eq_some_iff.1 hf).2
            simp [← this]
          conv => rhs; rw [hsplit, hd, List.sum_append, List.sum_cons]
          omega
        rw [b1, List.length_take, List.length_drop]
        omega)
      refine ⟨l, a1, a2, a3, ?_⟩
      simp only [ArgC, hu]
      refine ⟨by rw [a1, hcl], fun f hf => ?_⟩
      obtain ⟨j, hj⟩ := List.getElem?_of_mem hf
      have := a4 j (P.cellsOf f.type) (by simp [hj]) f hj
      rw [K3 j f hj, List.map_take]
      exact this
    · cases hp

/-- All arguments. -/
theorem open_args {H : Type} {enc : TypeId × Value → H} {T : TypeId → Prop} (K : Kids P T) {w : World} {base m : Nat} : ∀ (ts : List TypeId) (vs : List Value) (ds : List (DataW H)) (ps : List MemPlace), (∀ t ∈ ts, T t) → (ts.all fun t => plainT P m t) = true →
    (∀ (j : Nat) t v, ts[j]? = some t → vs[j]? = some v → Value.okWide P w .any base t v) → DataW.TrodAll enc P w 0 (fun _ => true) true ts vs ds ps →
    ∃ as, VRs sig0 (prot0 w) w as vs.toArray ∧ ArgVs P m ts as
  | [], vs, ds, ps, _, _, _, h => by
    obtain ⟨rfl, rfl, rfl⟩ := trodAll_nil h
    exact ⟨[], ⟨rfl, fun i v u h => by simp at h⟩, rfl⟩
  | t :: ts, vs, ds, ps, hT, hp, hv, h => by
    obtain ⟨v, vs', d, ds', p, q, rfl, rfl, rfl, ⟨n, h0⟩, hr⟩ := trodAll_cons h
    simp only [List.all_cons, Bool.and_eq_true] at hp
    obtain ⟨as, k1, k2⟩ := open_args K ts vs' ds' q (fun t ht => hT t (by simp [ht])) hp.2 (fun j t v hj hv' => hv (j + 1) t v (by simpa using hj) (by simpa using hv')) hr
    obtain ⟨c, c1, c2, c3, c4⟩ := open_cells K m t n _ _ (hT t (by simp)) hp.1 h0
    have hok := hv 0 t v rfl rfl
    have single : ∀ u : Value, v = u → u.cells = #[u] → ∃ a, c = [a] ∧ VR sig0 (prot0 w) w a v := by
      intro u hvu hu
      subst hvu
      rw [hu] at c1 c2
      match c, c1 with
      | [a], _ => exact ⟨a, rfl, c2.2 0 a v rfl rfl⟩
    have fin : ∀ a, VR sig0 (prot0 w) w a v → ArgV P m t a → ∃ as, VRs sig0 (prot0 w) w as (v :: vs').toArray ∧ ArgVs P m (t :: ts) as := fun a h1 h2 => ⟨a :: as, .cons h1 k1, a, as, rfl, h2, k2⟩
    cases m with
    | zero => cases hp.1
    | succ m =>
    have hp1 := hp.1
    simp only [plainT] at hp1
    split at hp1
    · rename_i hu
      obtain ⟨b, rfl⟩ := okWide_bool hu hok
      obtain ⟨a, rfl, ha⟩ := single _ rfl rfl
      exact fin a ha (by simp only [ArgV, hu]; exact c4)
    · rename_i k hu
      obtain ⟨i, rfl⟩ := okWide_int hu hok
      obtain ⟨a, rfl, ha⟩ := single _ rfl rfl
      exact fin a ha (by simp only [ArgV, hu]; exact c4)
    · rename_i hu
      obtain ⟨s, rfl⟩ := okWide_string hu hok
      obtain ⟨a, rfl, ha⟩ := single _ rfl rfl
      exact fin a ha (by simp only [ArgV, hu]; exact c4)
    · rename_i e hu
      obtain ⟨x, l, cp, rfl⟩ := okWide_slice hu hok
      obtain ⟨a, rfl, ha⟩ := single _ rfl rfl
      exact fin a ha (by simp only [ArgV, hu]; exact c4)
    · rename_i fs hu
      obtain ⟨cs, rfl, hsz⟩ := okWide_struct hu hok
      refine fin (.agg c) (.agg c cs ?_ fun i v u hi hu => c2.2 i v u hi (by simpa [Value.cells] using hu)) (by simp only [ArgV, hu]; exact ⟨c, rfl, c4⟩)
      have := c2.1
      simpa [Value.cells] using this
    · cases hp1

/-- What the world keeps. -/
theorem kept_of_frm {w w' : World} {σ' : Sig} {π' : Prot} (F : Frm sig0 (prot0 w) w σ' π' w') : w.keptBut w' (fun _ => False) ∧ ∀ B, B < w.heap.size → w'.heap[B]? = w.heap[B]? := by
  have hs : ∀ B, B < w.heap.size → w'.heap[B]? = w.heap[B]? := fun B hB => F.same B hB (fun b g l h => by cases h)
  refine ⟨⟨F.os, F.output, fun i hi => ?_⟩, hs⟩
  rw [hs i hi, Array.getElem?_eq_getElem hi]
  cases w.heap[i] <;> simp

theorem rel_start (w : World) : Rel sig0 (prot0 w) w (([] : List Blk)[·]?) :=
  ⟨fun b x h => (by simp at h), fun _ _ _ => rfl, fun b g b' g' l l' h => (by cases h), fun b g l h => (by cases h), fun B o h => h⟩

theorem trodAll_length {H : Type} {enc : TypeId × Value → H} {w : World} {base : Nat} {sp : Nat → Bool} {held : Bool} : ∀ {ts : List TypeId} {vs : List Value} {ds : List (DataW H)} {ps : List MemPlace}, DataW.TrodAll enc P w base sp held ts vs ds ps → ds.length = ts.length
  | [], _, _, _, h => by obtain ⟨_, rfl, _⟩ := trodAll_nil h; rfl
  | _ :: _, _, _, _, h => by
    obtain ⟨v, vs1, d, ds1, a, b, rfl, rfl, rfl, h1, h2⟩ := trodAll_cons h
    simp [trodAll_length h2]

theorem trodAll_carry {H : Type} {enc : TypeId × Value → H} {w w' : World} {base : Nat} {sp : Nat → Bool} {held : Bool} : ∀ {ts : List TypeId} {vs : List Value} {ds : List (DataW H)} {ps : List MemPlace}, DataW.TrodAll enc P w base sp held ts vs ds ps → (∀ p ∈ ps, w.sameAt w' p) →
    DataW.TrodAll enc P w' base sp held ts vs ds ps
  | [], _, _, _, h, _ => by obtain ⟨rfl, rfl, rfl⟩ := trodAll_nil h; exact trodAll_mk0
  | _ :: _, _, _, _, h, hs => by
    obtain ⟨v, vs1, d, ds1, a, b, rfl, rfl, rfl, ⟨n, h1⟩, h2⟩ := trodAll_cons h
    exact ⟨a, b, ⟨n, DataW.trod_carry n _ _ _ h1 (fun p hp => hs p (List.mem_append_left _ hp))⟩, trodAll_carry h2 (fun p hp => hs p (List.mem_append_right _ hp)), rfl⟩

theorem params_lt (hl : laidOutB P = true) {f : Nat} {fn : Func} (hfn : P.funcs[f]? = some fn) : ∀ t ∈ fn.params.toList, t < P.types.size := by
  intro t ht
  simp only [laidOutB, Bool.and_eq_true] at hl
  have h1 := Array.all_eq_true_iff_forall_mem.1 hl.2 fn (Array.mem_of_getElem? hfn)
  have h2 := Array.all_eq_true_iff_forall_mem.1 h1 t (by simpa using ht)
  simpa using h2

/-- A LAW's CONTRACT, out of the abstract machine's answer. -/
theorem contract {prg : Prg} (HP : PrgOK P prg) (hl : laidOutB P = true) (hm : mapsRowed P = true)
    (hz : ((List.range P.types.size).all fun t => match P.underlying t with | some (.slice e) => decide (0 < P.cellsOf e) | _ => true) = true)
    {f : Nat} {fn : Func} (hfn : P.funcs[f]? = some fn) {tb : TypeId} (hres : fn.resultTypes = #[tb]) (hub : P.underlying tb = some .bool) {m : Nat} (hp : (fn.params.toList.all fun t => plainT P m t) = true)
    {s : ChangeSpec} (hvars : s.vars = []) (hspec : ∀ (H : Type) (ds : List (DataW H)), ds.length = fn.params.size → s.fn H ds = { results := [.lit (.bool true)], args := ds })
    (law : ∀ as, ArgVs P m fn.params.toList as → ∃ k, acall (tiOf P) prg k true f as [] = some (.bool true, []))
    {H : Type} {enc : TypeId × Value → H} {W : World} {base : Nat} {args : Array Value} {ds gs : List (DataW H)} {before : List MemPlace} {apart fresh handsOn again : Bool}
    (hval : ∀ (j : Nat) t v, fn.params[j]? = some t → args[j]? = some v → Value.okWide P W .any base t v)
    (hW : DataW.Whole enc P fn.params.toList s.vars apart W args.toList ds gs before) :
    Calls P f args W fun e W' => ∃ v, e = .returned v ∧ s.post enc P fn apart fresh handsOn again W args v W' := by
  have K := kids_rows (P := P) hl hm
  have hT := params_lt hl hfn
  have hW0 := hW
  obtain ⟨p, q, hA, hV, rfl, hfz, hnd⟩ := hW
  rw [hvars] at hV
  obtain ⟨rfl, rfl⟩ := trodVars_none hV
  obtain ⟨as, hvr, has⟩ := open_args K (w := W) (base := base) (m := m) _ _ _ _ hT hp (fun j t v hj hv => hval j t v (by simpa using hj) (by simpa using hv)) hA
  obtain ⟨k, hk⟩ := law as has
  obtain ⟨_, _, hcalls⟩ := acall_ok HP k true f as [] _ _ hk
  refine (hcalls sig0 (prot0 W) W args (rel_start W) (by simpa using hvr)).mono fun e W' ⟨u, σ', π', he, hu, D⟩ => ?_
  have hu' : u = .bool true := by cases hu; rfl
  subst hu' he
  obtain ⟨hkept, hsame⟩ := kept_of_frm D.frm
  simp only [List.append_nil] at hW0 hfz hnd
  have hlt := hW0.lt
  have hcarry : DataW.TrodAll enc P W' 0 (fun _ => true) true fn.params.toList args.toList ds p := trodAll_carry hA fun x hx => by
    have hb := hlt x hx
    cases x with
    | cell b off => simp only [World.sameAt, World.cell?]; rw [hsame b hb]
    | map b => exact hsame b hb
  have hlen : ds.length = fn.params.size := by
    have := trodAll_length hA
    simpa using this
  have hfn' : s.fn H (ds ++ []) = { results := [.lit (.bool true)], args := ds } := by rw [List.append_nil]; exact hspec H ds hlen
  have hresT : ∀ (b : Nat) (sp : Nat → Bool) (hd : Bool), DataW.TrodAll enc P W' b sp hd fn.resultTypes.toList ((Value.bool true).resultList fn.resultTypes.size) [.lit (.bool true)] [] := by
    intro b sp hd
    rw [hres]
    exact trodAll_cons_mk (shut_bool hub true) trodAll_mk0
  have hresp : ∀ sp : Nat → Bool, (∀ x ∈ p, sp x.block = true) → DataW.TrodAll enc P W' 0 sp true fn.params.toList args.toList ds p := fun sp hsp =>
    DataW.TrodAll.respare K (slices_full_of P hz) hT hcarry hsp
  refine ⟨_, rfl, ds, [], p, [], p, [], by simpa using hW0, ?_, ?_, ?_, World.keptBut_mono (fun x hx => hx.elim) hkept, fun _ => ⟨?_, ?_⟩⟩
  · rw [hfn']; exact hresT _ _ _
  · rw [hfn']; exact hresp _ fun x hx => by simpa using hlt x hx
  · rw [hfn', hvars]; rfl
  · exact ok_one hres rfl (okWide_bool_mk hub true)
  · refine ⟨_, [], ([] ++ p) ++ [], ⟨[] ++ p, [], trodAll_append hcarry (hresT _ _ _), by rw [hvars]; rfl, rfl, ?_, ?_⟩, ?_⟩
    · intro b off hx
      have hx' : MemPlace.cell b off ∈ p := by simpa using hx
      have := hfz b off hx'
      have hb := hlt _ hx'
      unfold World.frozen? at this ⊢
      rw [hsame b hb]
      exact this
    · intro ha
      simpa using hnd ha
    · intro x hx _
      simpa using hx

end Go.Ws
