/-
  Operators and conversions: what the abstract machine makes of them is the model's.
  Conditions: none.
-/
import Derived.Test.YtpfhlkhdmikdaaaZOps12
namespace Go.Ws
set_option linter.unusedVariables false
set_option linter.unusedSimpArgs false

section
variable {P : Program} {σ : Sig} {π : Prot} {w : World} {h : Nat → Option Blk} {n : Nat} {δ : Delta} {L : List Nat}

theorem op_un (R : Rel σ π w h) (op : UnOp) (x : AV) (xu : Value) (hx : VR σ π w x xu) {v : AV} (e : aUn op x = some v) : OpDone P (do pure (.value (← Op.unary op xu))) σ π w h n ⟨v, [], []⟩ := by
  unfold aUn at e
  split at e
  · cases hx; cases e
    exact opdone_pure R (u := .int _ _) (by simp [Op.unary, Op.intArith]) (.int _ _)
  · cases hx; cases e
    exact opdone_pure R (u := .bool _) (by simp [Op.unary]) (.bool _)
  · cases hx; cases e
    exact opdone_pure R (u := .int _ _) (by simp [Op.unary, Op.intBits]) (.int _ _)
  · cases e

theorem int_bin {t : Nat} {op : BinOp} {k : IntKind} {a b : Int} {v : AV} (e : aIntOp op k a b = some v) : ∃ u, (binOp op t (.int k a) (.int k b)).run P w = .ok u w ∧ VR σ π w v u := by
  unfold aIntOp at e
  split at e
  · cases e; exact ⟨_, by simp [binOp, Op.intArith], .int _ _⟩
  · cases e; exact ⟨_, by simp [binOp, Op.intArith], .int _ _⟩
  · cases e; exact ⟨_, by simp [binOp, Op.intArith], .int _ _⟩
  · split at e
    · cases e
    · rename_i hb; cases e; exact ⟨_, by simp [binOp, Op.intDiv, hb], .int _ _⟩
  · split at e
    · cases e
    · rename_i hb; cases e; exact ⟨_, by simp [binOp, Op.intDiv, hb], .int _ _⟩
  · cases e; exact ⟨_, by simp [binOp, Op.intBits], .int _ _⟩
  · cases e; exact ⟨_, by simp [binOp, Op.intBits], .int _ _⟩
  · cases e; exact ⟨_, by simp [binOp, Op.intBits], .int _ _⟩
  · cases e; exact ⟨_, by simp [binOp, Op.intBits], .int _ _⟩
  · cases e; exact ⟨_, by simp [binOp, Op.intCmp], .bool _⟩
  · cases e; exact ⟨_, by simp [binOp, Op.intCmp], .bool _⟩
  · cases e; exact ⟨_, by simp [binOp, Op.intCmp], .bool _⟩
  · cases e; exact ⟨_, by simp [binOp, Op.intCmp], .bool _⟩
  · cases e; exact ⟨_, by simp [binOp, Op.intCmp], .bool _⟩
  · cases e; exact ⟨_, by simp [binOp, Op.intCmp], .bool _⟩
  · cases e

theorem sc_eq {t : Nat} {x y : AV} {b : Bool} {xu yu : Value} (hx : VR σ π w x xu) (hy : VR σ π w y yu) (e : scEq (tiOf P) t x y = some b) (d : Nat) : (Op.equalIn (d + 1) t xu yu).run P w = .ok b w := by
  unfold scEq at e
  split at e
  · cases hx; cases hy
    split at e
    · rename_i kk sz bts z cmp hst
      obtain ⟨dd, inf, h1, h2, he⟩ := ti_spec hst
      simp only [TI.mk.injEq] at he
      obtain rfl := tk_int he.1.symm
      split at e
      · rename_i hk
        subst hk
        cases e
        exact run_equalIn_int w d t _ _ _ _ h1
      · cases e
    · cases e
  · cases hx; cases hy
    split at e
    · rename_i sz bts z cmp hst
      obtain ⟨dd, inf, h1, h2, he⟩ := ti_spec hst
      simp only [TI.mk.injEq] at he
      obtain rfl := tk_str he.1.symm
      cases e
      rw [run_equalIn_string w d t _ _ h1, beq_toListBytes]
    · cases e
  · cases hx; cases hy
    split at e
    · rename_i sz bts z cmp hst
      obtain ⟨dd, inf, h1, h2, he⟩ := ti_spec hst
      simp only [TI.mk.injEq] at he
      obtain rfl := tk_bool he.1.symm
      cases e
      exact run_equalIn_bool' w d t _ _ h1
    · cases e
  · cases e

theorem sc_notAgg {t : Nat} {x y : AV} {b : Bool} (e : scEq (tiOf P) t x y = some b) : ∃ dd, P.underlying t = some dd ∧ aggB dd = false := by
  unfold scEq at e
  split at e
  · split at e
    · rename_i kk sz bts z cmp hst
      obtain ⟨dd, inf, h1, h2, he⟩ := ti_spec hst
      simp only [TI.mk.injEq] at he
      obtain rfl := tk_int he.1.symm
      exact ⟨_, h1, rfl⟩
    · cases e
  · split at e
    · rename_i sz bts z cmp hst
      obtain ⟨dd, inf, h1, h2, he⟩ := ti_spec hst
      simp only [TI.mk.injEq] at he
      obtain rfl := tk_str he.1.symm
      exact ⟨_, h1, rfl⟩
    · cases e
  · split at e
    · rename_i sz bts z cmp hst
      obtain ⟨dd, inf, h1, h2, he⟩ := ti_spec hst
      simp only [TI.mk.injEq] at he
      obtain rfl := tk_bool he.1.symm
      exact ⟨_, h1, rfl⟩
    · cases e
  · cases e

theorem part_sc {t : Nat} {dd : TypeDesc} (h1 : P.underlying t = some dd) (ha : aggB dd = false) {d : Array Value} {o : Nat} {u : Value} (hu : d[o]? = some u) : (part t d o).run P w = .ok u w := by
  unfold part
  simp only [Sem.run_bind, ti_agg h1, Result.andThen_ok, ha, Bool.false_eq_true, if_false, hu, Sem.run_pure]

theorem fields_eq (d : Nat) : ∀ (fs : List Field) {a b : List AV} {au bu : Array Value} {r : Bool}, VRs σ π w a au → VRs σ π w b bu → (fs.all fun f => f.name != "_") = true →
    fieldsEq (tiOf P) (fs.map fun f => (f.offset, f.type)) a b = some r → (Op.eqFields (d + 1) au bu fs).run P w = .ok r w
  | [], a, b, au, bu, r, _, _, _, e => by simp [fieldsEq] at e; subst e; simp [Op.eqFields]
  | f :: fs, a, b, au, bu, r, ha, hb, hn, e => by
    simp only [List.all_cons, Bool.and_eq_true] at hn
    have hf : f.name ≠ "_" := by simpa using hn.1
    simp only [List.map_cons, fieldsEq] at e
    split at e
    · rename_i x y hx hy
      obtain ⟨xu, hxu, hvx⟩ := ha.at_ hx
      obtain ⟨yu, hyu, hvy⟩ := hb.at_ hy
      split at e
      · rename_i hs
        obtain ⟨dd, h1, h2⟩ := sc_notAgg hs
        have ih := fields_eq d fs ha hb hn.2 e
        simp [Op.eqFields, hf, part_sc h1 h2 hxu, part_sc h1 h2 hyu, sc_eq hvx hvy hs d, ih]
      · rename_i hs
        cases e
        obtain ⟨dd, h1, h2⟩ := sc_notAgg hs
        simp [Op.eqFields, hf, part_sc h1 h2 hxu, part_sc h1 h2 hyu, sc_eq hvx hvy hs d]
      · cases e
    · cases e

/-- '==' of arrays, as a recursion. -/
def eqElems (P : Program) (d e m : Nat) (xs ys : Array Value) : List Nat → Sem Bool
  | [] => pure true
  | i :: is => do
    let a ← part e xs (i * m)
    let b ← part e ys (i * m)
    let r ← Op.equalIn d e a b
    if (!r) = true then pure false else eqElems P d e m xs ys is

theorem run_equalIn_array (d t len e : Nat) (xs ys : Array Value) (ht : P.underlying t = some (.array len e)) {inf : TypeInfo} (hi : P.info? e = some inf) :
    (Op.equalIn (d + 1) t (.agg xs) (.agg ys)).run P w = (eqElems P d e inf.size xs ys (List.range' 0 len)).run P w := by
  simp only [Op.equalIn, Sem.run_bind, run_underlying ht, Result.andThen_ok, ti_size hi]
  simp only [Std.Legacy.Range.forIn_eq_forIn_range', Std.Legacy.Range.size]
  simp only [Nat.sub_zero, Nat.add_sub_cancel, Nat.div_one]
  generalize List.range' 0 len = is
  induction is generalizing w with
  | nil => simp [eqElems]
  | cons i is ih =>
    simp only [List.forIn_cons, eqElems, Sem.run_bind]
    generalize (part e xs (i * inf.size)).run P w = r1
    cases r1 with
    | halt x w1 => simp [Result.andThen]
    | ok a w1 =>
      simp only [Result.andThen_ok]
      generalize (part e ys (i * inf.size)).run P w1 = r2
      cases r2 with
      | halt x w2 => simp [Result.andThen]
      | ok b w2 =>
        simp only [Result.andThen_ok]
        generalize (Op.equalIn d e a b).run P w2 = r3
        cases r3 with
        | halt x w3 => simp [Result.andThen]
        | ok r w3 =>
          cases r
          · simp
          · simp only [Result.andThen_ok, Bool.not_true, Bool.false_eq_true, if_false, Sem.run_pure]
            exact ih

theorem elems_eq (d e m : Nat) : ∀ (is : List Nat) {a b : List AV} {au bu : Array Value} {r : Bool}, VRs σ π w a au → VRs σ π w b bu →
    fieldsEq (tiOf P) (is.map fun i => (i * m, e)) a b = some r → (eqElems P (d + 1) e m au bu is).run P w = .ok r w
  | [], a, b, au, bu, r, _, _, e => by simp [fieldsEq] at e; subst e; simp [eqElems]
  | i :: is, a, b, au, bu, r, ha, hb, e => by
    simp only [List.map_cons, fieldsEq] at e
    split at e
    · rename_i x y hx hy
      obtain ⟨xu, hxu, hvx⟩ := ha.at_ hx
      obtain ⟨yu, hyu, hvy⟩ := hb.at_ hy
      split at e
      · rename_i hs
        obtain ⟨dd, h1, h2⟩ := sc_notAgg hs
        have ih := elems_eq d _ m is ha hb e
        simp [eqElems, part_sc h1 h2 hxu, part_sc h1 h2 hyu, sc_eq hvx hvy hs d, ih]
      · rename_i hs
        cases e
        obtain ⟨dd, h1, h2⟩ := sc_notAgg hs
        simp [eqElems, part_sc h1 h2 hxu, part_sc h1 h2 hyu, sc_eq hvx hvy hs d]
      · cases e
    · cases e

/-- What may be nil, in the model. -/
def NilV (d : TypeDesc) (u : Value) (b : Bool) : Prop :=
  (∃ e base n c, d = .slice e ∧ u = .slice base n c ∧ base.isNone = b) ∨ (∃ e a, d = .pointer e ∧ u = .pointer a ∧ a.isNone = b) ∨ (∃ k e m, d = .map k e ∧ u = .map m ∧ m.isNone = b) ∨
  (∃ p q r, d = .func p q r ∧ ((b = true ∧ u = .nilFunc) ∨ (b = false ∧ ∃ f x y, u = .func f x y)))

theorem nilK_val {d : TypeDesc} {x : AV} {xu : Value} (hx : VR σ π w x xu) {b : Bool} (e : nilK (tkOf d) x = some b) : NilV d xu b := by
  unfold nilK at e
  split at e
  · rename_i q hk; cases e; cases hx; obtain rfl := tk_slice hk; exact .inl ⟨_, _, _, _, rfl, rfl, rfl⟩
  · rename_i q hk; cases e; cases hx; obtain rfl := tk_slice hk; exact .inl ⟨_, _, _, _, rfl, rfl, rfl⟩
  · rename_i q s r hk; cases e; obtain rfl := tk_slice hk; cases hx <;> exact .inl ⟨_, _, _, _, rfl, rfl, rfl⟩
  · rename_i hk; cases e; obtain rfl := tk_slice hk; cases hx <;> exact .inl ⟨_, _, _, _, rfl, rfl, rfl⟩
  · rename_i q hk; cases e; cases hx; obtain rfl := tk_ptr hk; exact .inr (.inl ⟨_, _, rfl, rfl, rfl⟩)
  · rename_i hk; cases e; cases hx; obtain rfl := tk_ptr hk; exact .inr (.inl ⟨_, _, rfl, rfl, rfl⟩)
  · rename_i hk; cases e; cases hx; obtain rfl := tk_map hk; exact .inr (.inr (.inl ⟨_, _, _, rfl, rfl, rfl⟩))
  · rename_i hk; cases e; cases hx; obtain rfl := tk_map hk; exact .inr (.inr (.inl ⟨_, _, _, rfl, rfl, rfl⟩))
  · rename_i hk; cases e; cases hx; obtain ⟨p, q, r, rfl⟩ := tk_func hk; exact .inr (.inr (.inr ⟨p, q, r, rfl, .inl ⟨rfl, rfl⟩⟩))
  · rename_i hk; cases e; cases hx; obtain ⟨p, q, r, rfl⟩ := tk_func hk; exact .inr (.inr (.inr ⟨p, q, r, rfl, .inr ⟨rfl, _, _, _, rfl⟩⟩))
  · cases e

theorem eq_slices {t e : Nat} (h1 : P.underlying t = some (.slice e)) (m : Nat) (b c : Option Addr) (n1 c1 n2 c2 : Nat) (hn : b.isNone = true ∨ c.isNone = true) : (Op.equalIn (m + 1) t (.slice b n1 c1) (.slice c n2 c2)).run P w = .ok (b.isNone && c.isNone) w := by
  cases b <;> cases c <;> simp_all [Op.equalIn, run_underlying h1]
theorem eq_ptrs {t e : Nat} (h1 : P.underlying t = some (.pointer e)) (m : Nat) (b c : Option Addr) (hn : b.isNone = true ∨ c.isNone = true) : (Op.equalIn (m + 1) t (.pointer b) (.pointer c)).run P w = .ok (b.isNone && c.isNone) w := by
  cases b <;> cases c <;> simp_all [Op.equalIn, run_underlying h1]
theorem eq_maps {t k e : Nat} (h1 : P.underlying t = some (.map k e)) (m : Nat) (b c : Option Nat) (hn : b.isNone = true ∨ c.isNone = true) : (Op.equalIn (m + 1) t (.map b) (.map c)).run P w = .ok (b.isNone && c.isNone) w := by
  cases b <;> cases c <;> simp_all [Op.equalIn, run_underlying h1]

theorem nil_eq {d : TypeDesc} {t : Nat} (h1 : P.underlying t = some d) {x y : AV} {xu yu : Value} (hx : VR σ π w x xu) (hy : VR σ π w y yu) {b : Bool} (e : nilEq (tkOf d) x y = some b) (m : Nat) :
    (Op.equalIn (m + 1) t xu yu).run P w = .ok b w ∧ (∃ bx, NilV d xu bx) := by
  have key : ∀ bx by', NilV d xu bx → NilV d yu by' → (bx = true ∨ by' = true) → (Op.equalIn (m + 1) t xu yu).run P w = .ok (bx && by') w := by
    intro bx by' hbx hby hor
    rcases hbx with ⟨e, base, n, c, rfl, rfl, rfl⟩ | ⟨e, a, rfl, rfl, rfl⟩ | ⟨k, e, mm, rfl, rfl, rfl⟩ | ⟨p, q, r, rfl, hf⟩
    · rcases hby with ⟨e', base', n', c', hd, rfl, rfl⟩ | ⟨e', a', hd, _, _⟩ | ⟨_, _, _, hd, _, _⟩ | ⟨_, _, _, hd, _⟩ <;> first | cases hd | exact eq_slices h1 m _ _ _ _ _ _ hor
      exact eq_slices h1 m _ _ _ _ _ _ hor
    · rcases hby with ⟨_, _, _, _, hd, _, _⟩ | ⟨e', a', hd, rfl, rfl⟩ | ⟨_, _, _, hd, _, _⟩ | ⟨_, _, _, hd, _⟩ <;> first | cases hd | exact eq_ptrs h1 m _ _ hor
      exact eq_ptrs h1 m _ _ hor
    · rcases hby with ⟨_, _, _, _, hd, _, _⟩ | ⟨_, _, hd, _, _⟩ | ⟨_, _, _, hd, rfl, rfl⟩ | ⟨_, _, _, hd, _⟩ <;> first | cases hd | exact eq_maps h1 m _ _ hor
      exact eq_maps h1 m _ _ hor
    · rcases hby with ⟨_, _, _, _, hd, _, _⟩ | ⟨_, _, hd, _, _⟩ | ⟨_, _, _, hd, _, _⟩ | ⟨_, _, _, hd, hg⟩
      · cases hd
      · cases hd
      · cases hd
      · rcases hf with ⟨rfl, rfl⟩ | ⟨rfl, f, x, y, rfl⟩ <;> rcases hg with ⟨rfl, rfl⟩ | ⟨rfl, f', x', y', rfl⟩ <;> first | (simp at hor; done) | simp [Op.equalIn, run_underlying h1]
  unfold nilEq at e
  split at e
  · rename_i b' hxn hyn
    cases e
    exact ⟨by simpa using key true b (nilK_val hx hxn) (nilK_val hy hyn) (.inl rfl), _, nilK_val hx hxn⟩
  · rename_i hxn hyn
    cases e
    exact ⟨by simpa using key false true (nilK_val hx hxn) (nilK_val hy hyn) (.inr rfl), _, nilK_val hx hxn⟩
  · cases e

end
end Go.Ws
