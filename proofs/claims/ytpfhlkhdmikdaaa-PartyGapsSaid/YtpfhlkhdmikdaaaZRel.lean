/-
  How an abstract state reads in the model's world, and that this reading outlives what leaves its cells alone.
  Conditions: none.
-/
import Derived.Test.YtpfhlkhdmikdaaaZAbs
import Derived.Laws.AppendOwn
import Derived.Laws.Cells
namespace Go.Ws

structure Loc where
  blk : Nat
  m : Nat

abbrev Sig := Nat → Nat → Option Loc
abbrev Prot := Nat → Nat → Prop

/-- A cell that may stand in a row: of one cell, without references to the small heap. -/
def AV.flat (v : AV) : Prop := v.one = true ∧ v.refs = []

def FlatRows (sz : Nat) (rows : List (List AV)) : Prop := ∀ row ∈ rows, row.length = sz ∧ ∀ v ∈ row, v.flat

inductive VR (σ : Sig) (π : Prot) (w : World) : AV → Value → Prop
  | bool (b : Bool) : VR σ π w (.bool b) (.bool b)
  | int (k : IntKind) (n : Int) : VR σ π w (.int k n) (.int k n)
  | str (s : ByteArray) : VR σ π w (.str s) (.string s)
  | nilp : VR σ π w .nilp (.pointer none)
  | hp (b o : Nat) (l : Loc) (h : σ b 0 = some l) : VR σ π w (.hp b o) (.pointer (some ⟨l.blk, o, none⟩))
  | ep (sz b g i j : Nat) (l : Loc) (h : σ b g = some l) (hi : i < l.m) : VR σ π w (.ep sz b g i j) (.pointer (some ⟨l.blk, i * sz + j, none⟩))
  | ip (sz : Nat) (rows : List (List AV)) (i j B o : Nat) (u : Nat → Nat → Value) (hf : FlatRows sz rows) (hi : i < rows.length)
      (hc : ∀ r q row v, rows[r]? = some row → row[q]? = some v → w.cell? ⟨B, o + r * sz + q, none⟩ = some (u r q) ∧ π B (o + r * sz + q))
      (hv : ∀ r q row v, rows[r]? = some row → row[q]? = some v → VR σ π w v (u r q)) :
      VR σ π w (.ip sz rows i j) (.pointer (some ⟨B, o + i * sz + j, none⟩))
  | nils : VR σ π w .nils (.slice none 0 0)
  | emps (a : Addr) : VR σ π w .emps (.slice (some a) 0 0)
  | inl0 (sz : Nat) (a : Addr) (c : Nat) : VR σ π w (.inl sz []) (.slice (some a) 0 c)
  | inl (sz : Nat) (rows : List (List AV)) (B o c : Nat) (u : Nat → Nat → Value) (hf : FlatRows sz rows) (hl : rows.length ≤ c)
      (hc : ∀ r q row v, rows[r]? = some row → row[q]? = some v → w.cell? ⟨B, o + r * sz + q, none⟩ = some (u r q) ∧ π B (o + r * sz + q))
      (hv : ∀ r q row v, rows[r]? = some row → row[q]? = some v → VR σ π w v (u r q)) :
      VR σ π w (.inl sz rows) (.slice (some ⟨B, o, none⟩) rows.length c)
  | ref (sz b g i n : Nat) (full : Bool) (a : Addr) (c : Nat) (l : Loc) (h : σ b g = some l) (hi : i + n ≤ l.m) (hn : n ≤ c) (ha : 0 < c → a = ⟨l.blk, i * sz, none⟩) (hf : full = true → l.m ≤ i + c)
      (C : Array Value) (e : TypeId) (hC : w.heap[l.blk]? = some (.cells C e (0, 0))) (hs : (i + c) * sz ≤ C.size) :
      VR σ π w (.ref sz b g i n full) (.slice (some a) n c)
  | mapn : VR σ π w .mapn (.map none)
  | mp (b : Nat) (l : Loc) (h : σ b 0 = some l) : VR σ π w (.mp b) (.map (some l.blk))
  | fn (f : Nat) (c : List AV) (d : Array Value) (hl : d.size = c.length) (hv : ∀ (i : Nat) v u, c[i]? = some v → d[i]? = some u → VR σ π w v u) : VR σ π w (.fn f c) (.func (.func f) #[] d)
  | nilf : VR σ π w .nilf .nilFunc
  | agg (c : List AV) (d : Array Value) (hl : d.size = c.length) (hv : ∀ (i : Nat) v u, c[i]? = some v → d[i]? = some u → VR σ π w v u) : VR σ π w (.agg c) (.agg d)
  | tup (c : List AV) (d : Array Value) (hl : d.size = c.length) (hv : ∀ (i : Nat) v u, c[i]? = some v → d[i]? = some u → VR σ π w v u) : VR σ π w (.tup c) (.tuple d)

/-- The same for lists. -/
def VRs (σ : Sig) (π : Prot) (w : World) (c : List AV) (d : Array Value) : Prop :=
  d.size = c.length ∧ ∀ (i : Nat) v u, c[i]? = some v → d[i]? = some u → VR σ π w v u

structure Ext (σ : Sig) (π : Prot) (w : World) (σ' : Sig) (π' : Prot) (w' : World) : Prop where
  sig : ∀ b g l, σ b g = some l → σ' b g = some l
  prot : ∀ B o, π B o → π' B o
  cell : ∀ B o, π B o → w'.cell? ⟨B, o, none⟩ = w.cell? ⟨B, o, none⟩
  size : ∀ b g l C e fr, σ b g = some l → w.heap[l.blk]? = some (.cells C e fr) → ∃ C', w'.heap[l.blk]? = some (.cells C' e fr) ∧ C'.size = C.size

theorem Ext.refl (σ : Sig) (π : Prot) (w : World) : Ext σ π w σ π w :=
  ⟨fun _ _ _ h => h, fun _ _ h => h, fun _ _ _ => rfl, fun _ _ _ C _ _ _ h => ⟨C, h, rfl⟩⟩

theorem Ext.trans {σ σ' σ'' : Sig} {π π' π'' : Prot} {w w' w'' : World} (h : Ext σ π w σ' π' w') (k : Ext σ' π' w' σ'' π'' w'') : Ext σ π w σ'' π'' w'' :=
  ⟨fun b g l x => k.sig b g l (h.sig b g l x), fun B o x => k.prot B o (h.prot B o x), fun B o x => (k.cell B o (h.prot B o x)).trans (h.cell B o x),
   fun b g l C e fr x y => by
    obtain ⟨C', h1, h2⟩ := h.size b g l C e fr x y
    obtain ⟨C'', h3, h4⟩ := k.size b g l C' e fr (h.sig b g l x) h1
    exact ⟨C'', h3, h4.trans h2⟩⟩

theorem VR.mono {σ σ' : Sig} {π π' : Prot} {w w' : World} (h : Ext σ π w σ' π' w') {v : AV} {u : Value} (hv : VR σ π w v u) : VR σ' π' w' v u := by
  induction hv with
  | bool b => exact .bool b
  | int k n => exact .int k n
  | str s => exact .str s
  | nilp => exact .nilp
  | hp b o l hl => exact .hp b o l (h.sig _ _ _ hl)
  | ep sz b g i j l hl hi => exact .ep sz b g i j l (h.sig _ _ _ hl) hi
  | ip sz rows i j B o u hf hi hc hv ih =>
    exact .ip sz rows i j B o u hf hi (fun r q row v hr hq => ⟨(h.cell _ _ (hc r q row v hr hq).2).trans (hc r q row v hr hq).1, h.prot _ _ (hc r q row v hr hq).2⟩) ih
  | nils => exact .nils
  | emps a => exact .emps a
  | inl0 sz a c => exact .inl0 sz a c
  | inl sz rows B o c u hf hl hc hv ih =>
    exact .inl sz rows B o c u hf hl (fun r q row v hr hq => ⟨(h.cell _ _ (hc r q row v hr hq).2).trans (hc r q row v hr hq).1, h.prot _ _ (hc r q row v hr hq).2⟩) ih
  | ref sz b g i n full a c l hl hi hn ha hf C e hC hs =>
    obtain ⟨C', h1, h2⟩ := h.size b g l C e _ hl hC
    exact .ref sz b g i n full a c l (h.sig _ _ _ hl) hi hn ha hf C' e h1 (by omega)
  | mapn => exact .mapn
  | mp b l hl => exact .mp b l (h.sig _ _ _ hl)
  | fn f c d hl hv ih => exact .fn f c d hl ih
  | nilf => exact .nilf
  | agg c d hl hv ih => exact .agg c d hl ih
  | tup c d hl hv ih => exact .tup c d hl ih

theorem VRs.mono {σ σ' : Sig} {π π' : Prot} {w w' : World} (h : Ext σ π w σ' π' w') {c : List AV} {d : Array Value} (hv : VRs σ π w c d) : VRs σ' π' w' c d :=
  ⟨hv.1, fun i v u h1 h2 => (hv.2 i v u h1 h2).mono h⟩

theorem VRs.at_ {σ : Sig} {π : Prot} {w : World} {c : List AV} {d : Array Value} (h : VRs σ π w c d) {i : Nat} {v : AV} (hi : c[i]? = some v) : ∃ u, d[i]? = some u ∧ VR σ π w v u := by
  have hlt : i < d.size := by
    rw [h.1]
    exact (List.getElem?_eq_some_iff.1 hi).1
  exact ⟨d[i], by simp [hlt], h.2 i v _ hi (by simp [hlt])⟩

theorem VR.one {σ : Sig} {π : Prot} {w : World} {v : AV} {u : Value} (h : VR σ π w v u) (h1 : v.one = true) : u.oneCell' = true := by
  cases h <;> first | rfl | cases h1

theorem undef_vr (σ : Sig) (π : Prot) (w : World) : VR σ π w undefA undef := .tup [] #[] rfl (fun i v u h => by simp at h)

/-! ### Blocks -/
def RowAt (σ : Sig) (π : Prot) (w : World) (c : List AV) (C : Array Value) (o : Nat) : Prop := ∀ (i : Nat) v, c[i]? = some v → ∃ u, C[o + i]? = some u ∧ VR σ π w v u

/-- Block b's abstract contents, in the world. -/
def BR (σ : Sig) (π : Prot) (w : World) (b : Nat) : Blk → Prop
  | .row c => ∃ l C e, σ b 0 = some l ∧ w.heap[l.blk]? = some (.cells C e (0, 0)) ∧ C.size = c.length ∧ RowAt σ π w c C 0 ∧ (∀ o, ¬ π l.blk o)
  | .arr sz rows gen wgen ro => 0 < sz ∧ wgen ≤ gen ∧ FlatRows sz rows ∧ (∀ g, gen < g → σ b g = none) ∧
      (∃ l, σ b gen = some l ∧ l.m = rows.length ∧ (ro = false → ∀ o, ¬ π l.blk o) ∧ (∀ o, rows.length * sz ≤ o → ¬ π l.blk o)) ∧
      (∀ g, wgen ≤ g → g ≤ gen → ∃ l C e, σ b g = some l ∧ l.m ≤ rows.length ∧ w.heap[l.blk]? = some (.cells C e (0, 0)) ∧ l.m * sz ≤ C.size ∧
        ∀ r row, r < l.m → rows[r]? = some row → RowAt σ π w row C (r * sz))
  | .map es clock => ∃ l C, σ b 0 = some l ∧ w.heap[l.blk]? = some (.map C clock) ∧ C.size = es.length ∧ (∀ o, ¬ π l.blk o) ∧
      ∀ (i : Nat) k v born e, es[i]? = some (k, v, born) → C[i]? = some e → VR σ π w k e.key ∧ VR σ π w v e.val ∧ e.born = born ∧ v.refs = [] ∧ k.refs = []

structure Rel (σ : Sig) (π : Prot) (w : World) (h : Nat → Option Blk) : Prop where
  blk : ∀ b x, h b = some x → BR σ π w b x
  non : ∀ b, h b = none → ∀ g, σ b g = none
  inj : ∀ b g b' g' l l', σ b g = some l → σ b' g' = some l' → l.blk = l'.blk → b = b'
  lt : ∀ b g l, σ b g = some l → l.blk < w.heap.size
  prot : ∀ B o, π B o → B < w.heap.size

/-- What one or many steps do to the world, seen from outside: only own blocks and new ones change. -/
structure Frm (σ : Sig) (π : Prot) (w : World) (σ' : Sig) (π' : Prot) (w' : World) : Prop where
  size : w.heap.size ≤ w'.heap.size
  os : w'.os = w.os
  tape : w'.tape = w.tape
  output : w'.output = w.output
  same : ∀ B, B < w.heap.size → (∀ b g l, σ b g = some l → l.blk ≠ B) → w'.heap[B]? = w.heap[B]?
  own : ∀ b g l, σ' b g = some l → w.heap.size ≤ l.blk ∨ ∃ b0 g0 l0, σ b0 g0 = some l0 ∧ l0.blk = l.blk
  pro : ∀ B o, π' B o → π B o ∨ w.heap.size ≤ B ∨ ∃ b0 g0 l0, σ b0 g0 = some l0 ∧ l0.blk = B

theorem Frm.refl (σ : Sig) (π : Prot) (w : World) : Frm σ π w σ π w :=
  ⟨Nat.le_refl _, rfl, rfl, rfl, fun _ _ _ => rfl, fun b g l h => .inr ⟨b, g, l, h, rfl⟩, fun _ _ h => .inl h⟩

theorem Frm.trans {σ σ' σ'' : Sig} {π π' π'' : Prot} {w w' w'' : World} (h : Frm σ π w σ' π' w') (k : Frm σ' π' w' σ'' π'' w'') : Frm σ π w σ'' π'' w'' where
  size := Nat.le_trans h.size k.size
  os := k.os.trans h.os
  tape := k.tape.trans h.tape
  output := k.output.trans h.output
  same := fun B hB hn => by
    rw [k.same B (Nat.lt_of_lt_of_le hB h.size) ?_, h.same B hB hn]
    intro b g l hl e
    rcases h.own b g l hl with h1 | ⟨b0, g0, l0, h1, h2⟩
    · omega
    · exact hn b0 g0 l0 h1 (h2.trans e)
  own := fun b g l hl => by
    rcases k.own b g l hl with h1 | ⟨b0, g0, l0, h1, h2⟩
    · exact .inl (Nat.le_trans h.size h1)
    · rcases h.own b0 g0 l0 h1 with h3 | ⟨b1, g1, l1, h3, h4⟩
      · exact .inl (by omega)
      · exact .inr ⟨b1, g1, l1, h3, h4.trans h2⟩
  pro := fun B o hp => by
    rcases k.pro B o hp with h1 | h1 | ⟨b0, g0, l0, h1, h2⟩
    · exact h.pro B o h1
    · exact .inr (.inl (Nat.le_trans h.size h1))
    · rcases h.own b0 g0 l0 h1 with h3 | ⟨b1, g1, l1, h3, h4⟩
      · exact .inr (.inl (by omega))
      · exact .inr (.inr ⟨b1, g1, l1, h3, h4.trans h2⟩)

theorem RowAt.mono {σ σ' : Sig} {π π' : Prot} {w w' : World} (h : Ext σ π w σ' π' w') {c : List AV} {C : Array Value} {o : Nat} (k : RowAt σ π w c C o) : RowAt σ' π' w' c C o :=
  fun i v hi => let ⟨u, h1, h2⟩ := k i v hi; ⟨u, h1, h2.mono h⟩

/-- A block that was not touched stays what it was. -/
theorem BR.mono {σ σ' : Sig} {π π' : Prot} {w w' : World} (h : Ext σ π w σ' π' w') {b : Nat} {x : Blk} (k : BR σ π w b x)
    (hs : ∀ g, σ' b g = σ b g) (hw : ∀ g l, σ b g = some l → w'.heap[l.blk]? = w.heap[l.blk]?)
    (hp : ∀ g l o, σ b g = some l → π' l.blk o → π l.blk o) : BR σ' π' w' b x := by
  cases x with
  | row c =>
    obtain ⟨l, C, e, h1, h2, h3, h4, h5⟩ := k
    exact ⟨l, C, e, (hs 0).trans h1, (hw 0 l h1).trans h2, h3, h4.mono h, fun o ho => h5 o (hp 0 l o h1 ho)⟩
  | arr sz rows gen wgen ro =>
    obtain ⟨h1, h2, h3, h4, ⟨l, h5, h6, h7, h8⟩, h9⟩ := k
    refine ⟨h1, h2, h3, fun g hg => (hs g).trans (h4 g hg), ⟨l, (hs _).trans h5, h6, fun hr o ho => h7 hr o (hp _ l o h5 ho), fun o ho hh => h8 o ho (hp _ l o h5 hh)⟩, fun g hg hg' => ?_⟩
    obtain ⟨l', C, e, q1, q2, q3, q4, q5⟩ := h9 g hg hg'
    exact ⟨l', C, e, (hs g).trans q1, q2, (hw g l' q1).trans q3, q4, fun r row hr hrow => (q5 r row hr hrow).mono h⟩
  | map es clock =>
    obtain ⟨l, C, h1, h2, h3, h4, h5⟩ := k
    refine ⟨l, C, (hs 0).trans h1, (hw 0 l h1).trans h2, h3, fun o ho => h4 o (hp 0 l o h1 ho), fun i kk v born e hi he => ?_⟩
    obtain ⟨q1, q2, q3⟩ := h5 i kk v born e hi he
    exact ⟨q1.mono h, q2.mono h, q3⟩

/-- What an operation leaves: the small heap with its updates and its new blocks from n on. -/
def updF1 (h : Nat → Option Blk) : List (Nat × Blk) → Nat → Option Blk
  | [] => h
  | (b, x) :: l => updF1 (fun c => if c = b then some x else h c) l

def updF (h : Nat → Option Blk) (n : Nat) (δ : Delta) : Nat → Option Blk :=
  fun b => if n ≤ b ∧ b < n + δ.nw.length then δ.nw[b - n]? else updF1 h δ.up b

end Go.Ws
