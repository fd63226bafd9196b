/-
  Single operations of the abstract machine are the model's: addresses, loads, stores, what makes a block.
  Conditions: none.
-/
import Derived.Test.YtpfhlkhdmikdaaaZStep
namespace Go.Ws

/-! ### Inversion -/
theorem am_val {v : AV} {h : Nat → Option Blk} {δ : Delta} {L : List Nat} (e : (AM.val v).run h = some (δ, L)) : δ = ⟨v, [], []⟩ := by
  simp only [AM.val, AM.run, Option.some.injEq, Prod.mk.injEq] at e
  exact e.1.symm
theorem am_ret {α : Type} {v : α} {h : Nat → Option Blk} {δ : α} {L : List Nat} (e : (AM.ret v).run h = some (δ, L)) : δ = v := by
  simp only [AM.run, Option.some.injEq, Prod.mk.injEq] at e
  exact e.1.symm
theorem am_fail {α : Type} {h : Nat → Option Blk} {r : α × List Nat} (e : (AM.fail : AM α).run h = some r) : False := by simp [AM.run] at e
theorem am_of {α β : Type} {x : Option α} {f : α → AM β} {h : Nat → Option Blk} {r : β × List Nat} (e : ((AM.of x).bind f).run h = some r) : ∃ a, x = some a ∧ (f a).run h = some r := by
  cases x with
  | none => simp [AM.of, AM.bind, AM.run] at e
  | some a => exact ⟨a, rfl, e⟩
theorem am_rd {α : Type} {b : Nat} {k : Blk → AM α} {h : Nat → Option Blk} {a : α} {L : List Nat} (e : (AM.rd b k).run h = some (a, L)) : ∃ x L', h b = some x ∧ (k x).run h = some (a, L') ∧ L = b :: L' := by
  simp only [AM.run] at e
  split at e
  · cases e
  · rename_i x hx
    split at e
    · cases e
    · rename_i a' l' hk
      simp only [Option.some.injEq, Prod.mk.injEq] at e
      exact ⟨x, l', hx, by rw [hk, e.1], e.2.symm⟩
theorem am_bind {α β : Type} {m : AM α} {f : α → AM β} {h : Nat → Option Blk} {r : β} {L : List Nat} (e : (m.bind f).run h = some (r, L)) : ∃ a L1 L2, m.run h = some (a, L1) ∧ (f a).run h = some (r, L2) ∧ L = L1 ++ L2 := by
  induction m generalizing L with
  | ret a => exact ⟨a, [], L, rfl, e, rfl⟩
  | fail => simp [AM.bind, AM.run] at e
  | rd b k ih =>
    simp only [AM.bind] at e
    obtain ⟨x, L', hx, hk, hL⟩ := am_rd e
    obtain ⟨a, L1, L2, h1, h2, h3⟩ := ih x hk
    exact ⟨a, b :: L1, L2, by simp [AM.run, hx, h1], h2, by simp [hL, h3]⟩

theorem ti_spec {P : Program} {t : Nat} {i : TI} (h : tiOf P t = some i) : ∃ d inf, P.underlying t = some d ∧ P.info? t = some inf ∧ i = ⟨tkOf d, inf.size, inf.bytes, inf.zero.bind ofVal, !P.eqGuardType P.depth t && !P.stoodInHeld t && namesOk d⟩ := by
  unfold tiOf at h
  split at h
  · rename_i d inf hd hi
    exact ⟨d, inf, hd, hi, (Option.some.inj h).symm⟩
  · cases h

theorem tk_slice {d : TypeDesc} {e : Nat} (h : tkOf d = .slice e) : d = .slice e := by cases d <;> simp [tkOf] at h; subst h; rfl
theorem tk_array {d : TypeDesc} {n e : Nat} (h : tkOf d = .array n e) : d = .array n e := by cases d <;> simp [tkOf] at h; obtain ⟨rfl, rfl⟩ := h; rfl
theorem tk_map {d : TypeDesc} {n e : Nat} (h : tkOf d = .map n e) : d = .map n e := by cases d <;> simp [tkOf] at h; obtain ⟨rfl, rfl⟩ := h; rfl
theorem tk_ptr {d : TypeDesc} {e : Nat} (h : tkOf d = .ptr e) : d = .pointer e := by cases d <;> simp [tkOf] at h; subst h; rfl
theorem tk_str {d : TypeDesc} (h : tkOf d = .str) : d = .string := by cases d <;> simp [tkOf] at h; rfl
theorem tk_bool {d : TypeDesc} (h : tkOf d = .bool) : d = .bool := by cases d <;> simp [tkOf] at h; rfl
theorem tk_int {d : TypeDesc} {k : IntKind} (h : tkOf d = .int k) : d = .int k := by cases d <;> simp [tkOf] at h; subst h; rfl
theorem tk_struct {d : TypeDesc} {fs : List (Nat × Nat)} (h : tkOf d = .struct fs) : ∃ f, d = .struct f ∧ fs = f.toList.map fun f => (f.offset, f.type) := by cases d <;> simp [tkOf] at h; exact ⟨_, rfl, h.symm⟩
theorem tk_func {d : TypeDesc} (h : tkOf d = .func) : ∃ a b c, d = .func a b c := by cases d <;> simp [tkOf] at h; exact ⟨_, _, _, rfl⟩

def aggB (d : TypeDesc) : Bool := match tkOf d with | .struct _ | .array _ _ => true | _ => false

theorem ti_agg {P : Program} {t : Nat} {d : TypeDesc} (h : P.underlying t = some d) (w : World) : (isAgg t).run P w = .ok (aggB d) w := by
  unfold isAgg
  simp only [Sem.run_bind, run_underlying h, Result.andThen_ok]
  cases d <;> rfl

theorem ti_size {P : Program} {t : Nat} {inf : TypeInfo} (h : P.info? t = some inf) (w : World) : (sizeOf t).run P w = .ok inf.size w := by
  simp [sizeOf, typeInfo, h]

theorem ofScalar_vr {u : Value} {v : AV} (h : ofScalar u = some v) (σ : Sig) (π : Prot) (w : World) : VR σ π w v u := by
  unfold ofScalar at h
  split at h <;> first | (cases h; done) | (cases h; constructor)

theorem mapM_vrs {l : List Value} {c : List AV} (h : l.mapM ofScalar = some c) (σ : Sig) (π : Prot) (w : World) : VRs σ π w c l.toArray := by
  induction l generalizing c with
  | nil => simp at h; subst h; exact ⟨rfl, fun i v u h => by simp at h⟩
  | cons u l ih =>
    simp only [List.mapM_cons, Option.bind_eq_bind, Option.bind_eq_some_iff, Option.pure_def, Option.some.injEq] at h
    obtain ⟨v, hv, c', hc, rfl⟩ := h
    obtain ⟨h1, h2⟩ := ih hc
    refine ⟨by simpa using h1, fun i x y hx hy => ?_⟩
    cases i with
    | zero => simp at hx hy; subst hx; subst hy; exact ofScalar_vr hv σ π w
    | succ i => simp at hx hy; exact h2 i x y hx (by simpa using hy)

theorem ofVal_vr {u : Value} {v : AV} (h : ofVal u = some v) (σ : Sig) (π : Prot) (w : World) : VR σ π w v u := by
  unfold ofVal at h
  split at h
  · rename_i cs
    obtain ⟨c, hc, rfl⟩ := Option.map_eq_some_iff.1 h
    obtain ⟨h1, h2⟩ := mapM_vrs hc σ π w
    exact .agg c cs (by simpa using h1) (fun i x y hx hy => h2 i x y hx (by simpa using hy))
  · rename_i cs
    obtain ⟨c, hc, rfl⟩ := Option.map_eq_some_iff.1 h
    obtain ⟨h1, h2⟩ := mapM_vrs hc σ π w
    exact .tup c cs (by simpa using h1) (fun i x y hx hy => h2 i x y hx (by simpa using hy))
  · exact ofScalar_vr h σ π w

theorem VR.cells {σ : Sig} {π : Prot} {w : World} {v : AV} {u : Value} (h : VR σ π w v u) : VRs σ π w v.cells u.cells := by
  cases h with
  | agg c d hl hv => exact ⟨hl, hv⟩
  | _ =>
    refine ⟨rfl, fun i x y hx hy => ?_⟩
    cases i with
    | zero => simp [AV.cells, Value.cells] at hx hy; subst hx; subst hy; first | assumption | (constructor <;> assumption) | constructor
    | succ i => simp [AV.cells] at hx

/-! ### The outcome of an operation -/
def OpDone (P : Program) (s : Sem Next) (σ : Sig) (π : Prot) (w : World) (h : Nat → Option Blk) (n : Nat) (δ : Delta) : Prop :=
  ∃ r u w' σ' π', s.run P w = .ok r w' ∧ (r = .value u ∨ (r = .skip ∧ u = undef)) ∧ VR σ' π' w' δ.v u ∧ Done σ π w σ' π' w' (updF h n δ)

section
variable {P : Program} {σ : Sig} {π : Prot} {w : World} {h : Nat → Option Blk} {n : Nat} {δ : Delta} {L : List Nat}

theorem run_v {s : Sem Value} {u : Value} {w' : World} (hr : s.run P w = .ok u w') : (do pure (.value (← s)) : Sem Next).run P w = .ok (.value u) w' := by
  simp [hr]
theorem run_u {s : Sem Unit} {w' : World} (hr : s.run P w = .ok () w') : (do s; pure .skip : Sem Next).run P w = .ok .skip w' := by
  simp [hr]

theorem opdone_pure (R : Rel σ π w h) {s : Sem Value} {u : Value} {v : AV} (hr : s.run P w = .ok u w) (hv : VR σ π w v u) : OpDone P (do pure (.value (← s))) σ π w h n ⟨v, [], []⟩ :=
  ⟨_, u, w, σ, π, run_v hr, .inl rfl, hv, by rw [updF_none]; exact .refl R⟩

theorem add_none (B o k : Nat) : (⟨B, o, none⟩ : Addr).add k = ⟨B, o + k, none⟩ := Addr.add_lit B o k

/-! alloc, box -/
theorem br_new_row {σ : Sig} {π : Prot} {w' : World} {n : Nat} {l : Loc} {c : List AV} {d : Array Value} {e : TypeId} (hs : σ n 0 = some l) (hh : w'.heap[l.blk]? = some (.cells d e (0, 0)))
    (hv : VRs σ π w' c d) (hp : ∀ o, ¬ π l.blk o) : BR σ π w' n (.row c) :=
  ⟨l, d, e, hs, hh, hv.1, fun i v hi => by simpa using hv.at_ hi, hp⟩

theorem op_newVar (R : Rel σ π w h) (hn : h n = none) (e : TypeId) (v : AV) (u : Value) (hv : VR σ π w v u) :
    ∃ w' σ', (newVar e u).run P w = .ok ⟨w.heap.size, 0, none⟩ w' ∧ VR σ' π w' (.hp n 0) (.pointer (some ⟨w.heap.size, 0, none⟩)) ∧ Done σ π w σ' π w' (updF h n ⟨.hp n 0, [], [.row v.cells]⟩) := by
  refine ⟨w.alloc (.cells u.cells e), σ.set n 0 ⟨w.heap.size, 0⟩, rfl, .hp n 0 ⟨w.heap.size, 0⟩ (Sig.set_same ..), ?_⟩
  have hnon := R.non n hn
  have E : Ext σ π w (σ.set n 0 ⟨w.heap.size, 0⟩) π (w.alloc (.cells u.cells e)) := Ext.of_old (fun b g l hl => Sig.set_old (hnon 0) hl) R.prot R.lt (fun B hB => alloc_old w _ hB)
  exact rel_new R hn _ _ 0 _ (.cells u.cells e) (fun B hB => alloc_old w _ hB) (alloc_size ..) (alloc_new ..) rfl rfl rfl
    (br_new_row (Sig.set_same ..) (alloc_new w _) (hv.cells.mono E) (fun o ho => Nat.lt_irrefl _ (R.prot _ _ ho)))

theorem op_alloc (R : Rel σ π w h) (hn : δ.nw ≠ [] → h n = none) (t : Nat) (e : (aAlloc (tiOf P) n t).run h = some (δ, L)) :
    OpDone P (do pure (.value (← Instr.alloc t true (.tuple #[])))) σ π w h n δ := by
  unfold aAlloc at e
  split at e
  · rename_i i hi
    split at e
    · rename_i z hz
      have hδ := am_ret e
      subst hδ
      obtain ⟨d, inf, h1, h2, rfl⟩ := ti_spec hi
      simp only [Option.bind_eq_some_iff] at hz
      obtain ⟨u, hu, hz⟩ := hz
      obtain ⟨w', σ', hr, hv, hd⟩ := op_newVar (P := P) R (hn (by simp)) t z u (ofVal_vr hz σ π w)
      refine ⟨_, _, w', σ', π, run_v ?_, .inl rfl, hv, hd⟩
      simp [Instr.alloc, zeroValue, typeInfo, h2, hu, hr]
    · exact (am_fail e).elim
  · exact (am_fail e).elim

theorem op_box (R : Rel σ π w h) (hn : δ.nw ≠ [] → h n = none) (t : Nat) (v : AV) (u : Value) (hv : VR σ π w v u) (e : (aBox n v).run h = some (δ, L)) :
    OpDone P (do pure (.value (← Instr.box t u))) σ π w h n δ := by
  have hδ := am_ret e
  subst hδ
  obtain ⟨w', σ', hr, hv', hd⟩ := op_newVar (P := P) R (hn (by simp)) t v u hv
  exact ⟨_, _, w', σ', π, run_v (by simp [Instr.box, hr]), .inl rfl, hv', hd⟩

/-! loads -/
theorem mkVal_vr {agg : Bool} {l : List AV} {v : AV} (e : mkVal agg l = some v) {d : List Value} (hv : VRs σ π w l d.toArray) :
    (agg = true ∧ VR σ π w v (.agg d.toArray)) ∨ (agg = false ∧ ∃ u, d = [u] ∧ VR σ π w v u) := by
  unfold mkVal at e
  split at e
  · rename_i ha
    cases e
    exact .inl ⟨ha, .agg l _ hv.1 hv.2⟩
  · rename_i ha
    split at e
    · cases e
      have hl := hv.1
      simp at hl
      obtain ⟨u, rfl⟩ := List.length_eq_one_iff.1 hl
      exact .inr ⟨by simpa using ha, u, rfl, hv.2 0 _ _ rfl rfl⟩
    · cases e

theorem run_loadVar {t : Nat} {d : TypeDesc} {inf : TypeInfo} (h1 : P.underlying t = some d) (h2 : P.info? t = some inf) (B o : Nat) (cs : List Value) (hl : cs.length = inf.size)
    (hc : ∀ j v, cs[j]? = some v → w.cell? ⟨B, o + j, none⟩ = some v) {l : List AV} {v : AV} (hv : VRs σ π w l cs.toArray)
    (e : mkVal (TI.isAgg ⟨tkOf d, inf.size, inf.bytes, inf.zero.bind ofVal, !P.eqGuardType P.depth t && !P.stoodInHeld t && namesOk d⟩) l = some v) :
    ∃ u, (loadVar t ⟨B, o, none⟩).run P w = .ok u w ∧ VR σ π w v u := by
  have hld := run_loadCells_list (P := P) w ⟨B, o, none⟩ cs (fun j v hj => by rw [add_none]; exact hc j v hj)
  rw [hl] at hld
  rcases mkVal_vr e hv with ⟨ha, hv'⟩ | ⟨ha, u, rfl, hv'⟩
  · refine ⟨.agg cs.toArray, ?_, hv'⟩
    have ha' : aggB d = true := ha
    simp only [loadVar, Sem.run_bind, ti_agg h1, Result.andThen_ok, ha', if_true, ti_size h2, hld, Sem.run_pure]
  · refine ⟨u, ?_, hv'⟩
    have ha' : aggB d = false := ha
    have h0 := hc 0 u rfl
    simp only [Nat.add_zero] at h0
    simp [loadVar, ti_agg h1, ha', h0]

theorem vrs_slice {c : List AV} {C : Array Value} {o k : Nat} {s : Nat} (hr : RowAt σ π w c C s) (hk : o + k ≤ c.length) :
    ∃ cs : List Value, cs.length = k ∧ (∀ (j : Nat) v, cs[j]? = some v → C[s + o + j]? = some v) ∧ VRs σ π w ((c.drop o).take k) cs.toArray := by
  refine ⟨(List.range k).map fun j => C[s + o + j]?.getD undef, by simp, fun j v hj => ?_, by simp; omega, fun j v u hv hu => ?_⟩
  · simp only [List.getElem?_map] at hj
    rcases Nat.lt_or_ge j k with hlt | hge
    · simp only [List.getElem?_range hlt, Option.map_some, Option.some.injEq] at hj
      obtain ⟨x, hx⟩ : ∃ x, c[o + j]? = some x := ⟨c[o + j]'(by omega), List.getElem?_eq_getElem (by omega)⟩
      obtain ⟨u, hu, _⟩ := hr (o + j) x hx
      rw [← Nat.add_assoc] at hu
      rw [hu] at hj ⊢
      simpa using hj
    · simp [List.getElem?_eq_none (show (List.range k).length ≤ j by simpa using hge)] at hj
  · have hlt : j < k := by
      have := (List.getElem?_eq_some_iff.1 hv).1
      simp at this
      omega
    simp only [List.getElem?_take, List.getElem?_drop, hlt, if_true] at hv
    obtain ⟨u', hu', hv'⟩ := hr (o + j) v hv
    rw [← Nat.add_assoc] at hu'
    simp [List.getElem?_range hlt, hu'] at hu
    subst hu
    exact hv'

end
end Go.Ws
