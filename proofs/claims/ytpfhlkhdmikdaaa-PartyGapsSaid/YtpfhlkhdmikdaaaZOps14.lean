/-
  Binary operators, conversions, maps: what the abstract machine makes of them is the model's.
  Conditions: none.
-/
import Derived.Test.YtpfhlkhdmikdaaaZOps13
import Derived.MapKept
namespace Go.Ws
set_option linter.unusedVariables false
set_option linter.unusedSimpArgs false

section
variable {P : Program} {σ : Sig} {π : Prot} {w : World} {h : Nat → Option Blk} {n : Nat} {δ : Delta} {L : List Nat}

theorem str_eq (s t : ByteArray) : (s.toList == t.toList) = (s == t) := (beq_toListBytes s t).symm

theorem run_two {op : BinOp} {t : Nat} {xo yo : Operand} {xu yu u : Value} (h1 : (eqGuard op t xo yo xu yu).run P w = .ok () w) (h2 : (binOp op t xu yu).run P w = .ok u w) :
    (do eqGuard op t xo yo xu yu; binOp op t xu yu : Sem Value).run P w = .ok u w := by
  simp [h1, h2]

theorem eq_val {t : Nat} {x y : AV} {xu yu : Value} (hx : VR σ π w x xu) (hy : VR σ π w y yu) {b : Bool} (e : aEq (tiOf P) t x y = some b) (xo yo : Operand) (op : BinOp) :
    (Op.equalIn 10000 t xu yu).run P w = .ok b w ∧ (eqGuard op t xo yo xu yu).run P w = .ok () w ∧ (∀ k a, xu ≠ .int k a) ∧ (∀ s, xu ≠ .string s) ∧ (∀ k a, xu ≠ .float k a) ∧ (∀ k a b, xu ≠ .complex k a b) := by
  unfold aEq at e
  split at e
  · cases e
  · rename_i i hi
    obtain ⟨d, inf, h1, h2, rfl⟩ := ti_spec hi
    split at e
    · cases hx; cases hy
      split at e
      · rename_i hk
        cases e
        obtain rfl := tk_bool hk
        refine ⟨run_equalIn_bool' w 9999 t _ _ h1, ?_, by simp, by simp, by simp, by simp⟩
        rw [eqGuard_at_bool]; rfl
      · cases e
    · rename_i a b
      cases hx with
      | agg _ da hla hva =>
        cases hy with
        | agg _ db hlb hvb =>
          split at e
          · rename_i hcmp
            simp only [Bool.and_eq_true, Bool.not_eq_true'] at hcmp
            obtain ⟨⟨hg, hs⟩, hn⟩ := hcmp
            refine ⟨?_, run_eqGuard_agg w op t xo yo da db hg, by simp, by simp, by simp, by simp⟩
            split at e
            · rename_i fs hk
              obtain ⟨f', rfl, rfl⟩ := tk_struct hk
              have hfs : P.fieldsOf t = f' := by simp [Program.fieldsOf, h1]
              rw [run_equalIn_struct w 9999 t da db (by rw [hfs]; exact h1) hs, hfs]
              exact fields_eq 9998 f'.toList ⟨hla, hva⟩ ⟨hlb, hvb⟩ hn e
            · rename_i len el hk
              obtain rfl := tk_array hk
              split at e
              · rename_i ei hei
                obtain ⟨de, infe, e1, e2, rfl⟩ := ti_spec hei
                rw [run_equalIn_array 9999 t len el da db h1 e2]
                exact elems_eq 9998 el infe.size _ ⟨hla, hva⟩ ⟨hlb, hvb⟩ e
              · cases e
            · cases e
          · cases e
    · obtain ⟨k1, bx, hnv⟩ := nil_eq h1 hx hy e 9999
      refine ⟨k1, ?_⟩
      rcases hnv with ⟨e, base, n, c, rfl, rfl, rfl⟩ | ⟨e, a, rfl, rfl, rfl⟩ | ⟨k, e, mm, rfl, rfl, rfl⟩ | ⟨p, q, r, rfl, ⟨_, rfl⟩ | ⟨_, f, x', y', rfl⟩⟩
      · exact ⟨by rw [eqGuard_at_slice]; rfl, by simp, by simp, by simp, by simp⟩
      · exact ⟨by rw [eqGuard_at_pointer]; rfl, by simp, by simp, by simp, by simp⟩
      · exact ⟨by rw [eqGuard_at_map]; rfl, by simp, by simp, by simp, by simp⟩
      · exact ⟨by rw [eqGuard_at_nilFunc]; rfl, by simp, by simp, by simp, by simp⟩
      · exact ⟨by rw [eqGuard_at_func]; rfl, by simp, by simp, by simp, by simp⟩

theorem bin_eql {t : Nat} {xu yu : Value} {b : Bool} (h1 : (Op.equalIn 10000 t xu yu).run P w = .ok b w) (a1 : ∀ k a, xu ≠ .int k a) (a2 : ∀ s, xu ≠ .string s) (a3 : ∀ k a, xu ≠ .float k a) (a4 : ∀ k a b, xu ≠ .complex k a b) :
    (binOp .eql t xu yu).run P w = .ok (.bool b) w ∧ (binOp .neq t xu yu).run P w = .ok (.bool !b) w := by
  have e1 : binOp .eql t xu yu = (do let b ← Op.equal t xu yu; pure (.bool b) : Sem Value) := by
    cases xu <;> first | rfl | exact absurd rfl (a1 _ _) | exact absurd rfl (a2 _) | exact absurd rfl (a3 _ _) | exact absurd rfl (a4 _ _ _)
  have e2 : binOp .neq t xu yu = (do let b ← Op.equal t xu yu; pure (.bool !b) : Sem Value) := by
    cases xu <;> first | rfl | exact absurd rfl (a1 _ _) | exact absurd rfl (a2 _) | exact absurd rfl (a3 _ _) | exact absurd rfl (a4 _ _ _)
  have e3 : (Op.equal t xu yu).run P w = .ok b w := h1
  rw [e1, e2]
  simp [e3]

theorem op_bin (R : Rel σ π w h) (op : BinOp) (t : Nat) (xo yo : Operand) (x y : AV) (xu yu : Value) (hx : VR σ π w x xu) (hy : VR σ π w y yu) {v : AV} (e : aBin (tiOf P) op t x y = some v) :
    OpDone P (do pure (.value (← (do eqGuard op t xo yo xu yu; binOp op t xu yu)))) σ π w h n ⟨v, [], []⟩ := by
  unfold aBin at e
  split at e
  · rename_i k a k' b
    cases hx; cases hy
    have hg : (eqGuard op t xo yo (.int k a) (.int k' b)).run P w = .ok () w := by rw [eqGuard_at_int]; rfl
    split at e
    · split at e
      · rename_i hb
        cases e
        exact opdone_pure R (run_two hg (by simp [binOp, Op.shift, show ¬ b < 0 by omega])) (.int _ _)
      · cases e
    · split at e
      · rename_i hb
        cases e
        exact opdone_pure R (run_two hg (by simp [binOp, Op.shift, show ¬ b < 0 by omega])) (.int _ _)
      · cases e
    · split at e
      · rename_i hk
        subst hk
        obtain ⟨u, hu, hvu⟩ := int_bin (P := P) (σ := σ) (π := π) (w := w) (t := t) e
        exact opdone_pure R (run_two hg hu) hvu
      · cases e
  · rename_i a b
    cases hx; cases hy
    have hg : (eqGuard op t xo yo (.string a) (.string b)).run P w = .ok () w := by rw [eqGuard_at_string]; rfl
    split at e
    · split at e
      · rename_i hb
        cases e
        exact opdone_pure R (run_two hg (by
          have : ¬ (9223372036854775807 < ((a.size : Int) + (b.size : Int))) := by omega
          simp [binOp, Op.stringOp, this])) (.str _)
      · cases e
    · cases e
      exact opdone_pure R (run_two hg (by simp only [binOp, Op.stringOp, str_eq]; rfl)) (.bool _)
    · cases e
      exact opdone_pure R (run_two hg (by simp only [binOp, Op.stringOp, str_eq]; rfl)) (.bool _)
    · cases e
  · split at e
    · obtain ⟨b, hb, rfl⟩ := Option.map_eq_some_iff.1 e
      obtain ⟨k1, k2, k3, k4, k5, k6⟩ := eq_val hx hy hb xo yo .eql
      exact opdone_pure R (run_two k2 (bin_eql k1 k3 k4 k5 k6).1) (.bool _)
    · obtain ⟨b, hb, rfl⟩ := Option.map_eq_some_iff.1 e
      obtain ⟨k1, k2, k3, k4, k5, k6⟩ := eq_val hx hy hb xo yo .neq
      exact opdone_pure R (run_two k2 (bin_eql k1 k3 k4 k5 k6).2) (.bool _)
    · cases e

/-! conversions -/
theorem u8s_spec : ∀ {rows : List (List AV)} {bs : List UInt8}, u8s rows = some bs → ∃ ns : List Int, rows = ns.map (fun n => [AV.int .u8 n]) ∧ bs = ns.map fun n => UInt8.ofNat n.toNat := by
  intro rows
  induction rows with
  | nil => intro bs e; simp [u8s] at e; subst e; exact ⟨[], rfl, rfl⟩
  | cons r rows ih =>
    intro bs e
    have hr : ∃ n, r = [.int .u8 n] := by
      unfold u8s at e
      split at e
      · rename_i hh; cases hh
      · rename_i n r' hr; cases hr; exact ⟨n, rfl⟩
      · cases e
    obtain ⟨n, rfl⟩ := hr
    simp only [u8s] at e
    obtain ⟨bs', h1, rfl⟩ := Option.map_eq_some_iff.1 e
    obtain ⟨ns, rfl, rfl⟩ := ih h1
    exact ⟨n :: ns, rfl, rfl⟩

theorem to_str (R : Rel σ π w h) {s d : Nat} {si : TI} (hsi : tiOf P s = some si) (hd : P.underlying d = some .string) (x : AV) (xu : Value) (hx : VR σ π w x xu) (hns : ∀ s', x ≠ .str s') (e : (aToStr (tiOf P) si x).run h = some (δ, L)) :
    OpDone P (do pure (.value (← convert s d xu))) σ π w h n δ := by
  obtain ⟨ds, infs, s1, s2, rfl⟩ := ti_spec hsi
  unfold aToStr at e
  split at e
  · rename_i el hks
    obtain rfl := tk_slice hks
    split at e
    · rename_i szz btss zz cmpp hel
      obtain ⟨de, infe, e1, e2, he⟩ := ti_spec hel
      simp only [TI.mk.injEq] at he
      obtain rfl := tk_int he.1.symm
      obtain ⟨rows, L1, L2, hrows, e4, _⟩ := am_bind e
      obtain ⟨hf, news, n1, n2, n3, n4⟩ := src_of (P := P) R hx hrows
      split at e4
      · rename_i bs hbs
        obtain ⟨ns, rfl, rfl⟩ := u8s_spec hbs
        have hδ := am_val e4; subst hδ
        obtain ⟨m1, m2⟩ := n4 w (same_refl w)
        have hnews : news = ns.map (Value.int .u8) := by
          apply List.ext_getElem?
          intro i
          rcases Nat.lt_or_ge i ns.length with hlt | hge
          · obtain ⟨u, hu, hv⟩ := n2 i [.int .u8 ns[i]] (by simp [hlt]) 0 _ rfl
            cases hv
            simp only [Nat.mul_one, Nat.add_zero, List.getElem?_toArray] at hu
            rw [hu]
            simp [hlt]
          · rw [List.getElem?_eq_none (by rw [n1]; simpa using hge), List.getElem?_eq_none (by simpa using hge)]
        have hsl : ∃ a l c, xu = .slice a l c := by
          cases hx <;> first | exact ⟨_, _, _, rfl⟩ | (exfalso; simp [rowsOf, AM.run] at hrows; done) | exact absurd rfl (hns _)
        obtain ⟨a, l, c, rfl⟩ := hsl
        have hll : l = ns.length := by
          simp [Builtin.lenOf] at m1
          exact m1
        subst hll
        refine opdone_pure R (u := .string ⟨(ns.map fun n => UInt8.ofNat n.toNat).toArray⟩) ?_ (.str _)
        rw [run_convert_bytes_string w s d el a ns.length c s1 e1 hd]
        cases a with
        | none =>
          have hz := m2 ns.length (by simp)
          simp [Builtin.firstCells] at hz
          rw [hnews] at hz
          have : ns = [] := by simpa using hz
          subst this
          simp [Conv.bytesToString]
          rfl
        | some a =>
          have hl := m2 ns.length (by simp)
          rw [show news.take (ns.length * 1) = ns.map (Value.int .u8) by rw [hnews]; exact List.take_of_length_le (by simp)] at hl
          simp only [Builtin.firstCells, Nat.mul_one] at hl
          rw [run_bytesToString w a ns.length c ns hl, foldl_push_bytes]
          simp [ByteArray.empty, ByteArray.emptyWithCapacity]
          rfl
      · exact (am_fail e4).elim
    · exact (am_fail e).elim
  · exact (am_fail e).elim

/-- A new block that is never written: it is protected. -/
theorem done_prot (R : Rel σ π w h) (w' : World) (hw : ∀ B, B < w.heap.size → w'.heap[B]? = w.heap[B]?) (hsz : w'.heap.size = w.heap.size + 1) (hos : w'.os = w.os) (htp : w'.tape = w.tape) (hout : w'.output = w.output) :
    Done σ π w σ (fun B o => π B o ∨ B = w.heap.size) w' h := by
  have E : Ext σ π w σ (fun B o => π B o ∨ B = w.heap.size) w' :=
    ⟨fun _ _ _ h => h, fun _ _ h => .inl h, fun B o h => cell_of_heap (hw B (R.prot B o h)), fun b g l C e fr h1 h2 => ⟨C, (hw _ (R.lt b g l h1)).trans h2, rfl⟩⟩
  refine ⟨E, ⟨by omega, hos, htp, hout, fun B hB _ => hw B hB, fun b g l hl => .inr ⟨b, g, l, hl, rfl⟩, fun B o h => ?_⟩, ⟨fun b x hx => (R.blk b x hx).mono E (fun _ => rfl) (fun g l hl => hw _ (R.lt _ _ _ hl)) (fun g l o hl h => ?_), R.non, R.inj, fun b g l hl => by have := R.lt _ _ _ hl; omega, fun B o h => ?_⟩⟩
  · rcases h with h | rfl
    · exact .inl h
    · exact .inr (.inl (Nat.le_refl _))
  · rcases h with h | h
    · exact h
    · have := R.lt _ _ _ hl
      omega
  · rcases h with h | rfl
    · have := R.prot _ _ h
      omega
    · omega

def strCells (w : World) (e : TypeId) (s : ByteArray) : Array Value := s.data.map (fun b => Value.int .u8 (b.toNat : Int)) ++ Array.replicate (grownCap w s.size 0 e - s.size) (Value.int .u8 0)

theorem run_stringToBytes (e : TypeId) (s : ByteArray) : ∃ w' cap C fr, (Conv.stringToBytes e s).run P w = .ok (.slice (some ⟨w.heap.size, 0, none⟩) s.size cap) w' ∧ s.size ≤ cap ∧
    (∀ B, B < w.heap.size → w'.heap[B]? = w.heap[B]?) ∧ w'.heap.size = w.heap.size + 1 ∧ w'.os = w.os ∧ w'.tape = w.tape ∧ w'.output = w.output ∧
    w'.heap[w.heap.size]? = some (.cells C e fr) ∧ ∀ (i : Nat) (b : UInt8), s.data.toList[i]? = some b → C[i]? = some (Value.int .u8 (b.toNat : Int)) := by
  have hge := grownCap_ge w s.size 0 e
  have hnew := alloc_new w.drew (.cells (strCells w e s) e)
  have hold : ∀ B, B < w.heap.size → (w.drew.alloc (.cells (strCells w e s) e)).heap[B]? = w.heap[B]? := fun B hB => alloc_old w.drew _ hB
  have hrun : (Conv.stringToBytes e s).run P w = .ok (.slice (some ⟨w.heap.size, 0, none⟩) s.size (grownCap w s.size 0 e))
      ((w.drew.alloc (.cells (strCells w e s) e)).freeze ⟨w.heap.size, (strCells w e s).size, none⟩ 1) := by
    have hsh : (w.drew.alloc (.cells (strCells w e s) e)).shape? w.heap.size = some (e, (strCells w e s).size) := by
      unfold World.shape?
      rw [show w.heap.size = w.drew.heap.size from rfl, hnew]
    simp only [Conv.stringToBytes, Sem.run_bind, run_choose, Question.forced, Bool.false_eq_true, if_false, Result.andThen_ok, newRow, run_newObj, Sem.run_pure, markStringish, run_shape]
    have e1 : (Question.appendCap s.size 0 e).cut (w.tape w.drawn (Question.appendCap s.size 0 e)) = grownCap w s.size 0 e := rfl
    rw [e1]
    show (Sem.run P (match (w.drew.alloc (.cells (strCells w e s) e)).shape? w.heap.size with | some (_, n) => freeze ⟨w.heap.size, n, none⟩ 1 | _ => pure ()) (w.drew.alloc (.cells (strCells w e s) e))).andThen _ = _
    rw [hsh]
    rfl
  generalize hW : w.drew.alloc (.cells (strCells w e s) e) = W at hrun hnew hold
  have hWs : W.heap.size = w.heap.size + 1 := by rw [← hW]; exact alloc_size w.drew _
  have hmod : ∀ (f : Obj → Obj) B, B ≠ w.heap.size → (W.heap.modify w.heap.size f)[B]? = W.heap[B]? := fun f B hne => by simp [Array.getElem?_modify, Ne.symm hne]
  refine ⟨_, _, strCells w e s, ((strCells w e s).size, (strCells w e s).size + 1), hrun, hge, fun B hB => ?_, by simp [World.freeze, hWs], by rw [← hW]; rfl, by rw [← hW]; rfl, by rw [← hW]; rfl, ?_, ?_⟩
  · simp only [World.freeze, Nat.one_ne_zero, if_false]
    rw [hmod _ _ (by omega)]
    exact hold B hB
  · simp only [World.freeze, Nat.one_ne_zero, if_false]
    rw [Array.getElem?_modify, if_pos rfl]
    rw [show w.heap.size = w.drew.heap.size from rfl, hnew]
    simp
  · intro i b hb
    unfold strCells
    rw [Array.getElem?_append_left (by simp; exact (List.getElem?_eq_some_iff.1 hb).1)]
    simp only [Array.getElem?_toList] at hb
    simp [hb]

theorem op_convert (R : Rel σ π w h) (s d : Nat) (x : AV) (xu : Value) (hx : VR σ π w x xu) (e : (aConvert (tiOf P) s d x).run h = some (δ, L)) :
    OpDone P (do pure (.value (← convert s d xu))) σ π w h n δ := by
  unfold aConvert at e
  split at e
  · rename_i si di hsi hdi
    have hsi' := hsi
    obtain ⟨ds, infs, s1, s2, rfl⟩ := ti_spec hsi
    obtain ⟨dd, infd, d1, d2, rfl⟩ := ti_spec hdi
    simp only at e
    split at e
    · rename_i k hk
      obtain rfl := tk_int hk
      split at e
      · have hδ := am_val e; subst hδ
        cases hx
        refine opdone_pure R (u := .int k (k.wrap _)) ?_ (.int _ _)
        unfold convert
        simp only [Sem.run_bind, run_underlying s1, run_underlying d1, Result.andThen_ok]
        rfl
      · exact (am_fail e).elim
    · rename_i hk
      obtain rfl := tk_str hk
      split at e
      · rename_i s'
        have hδ := am_val e; subst hδ
        cases hx
        refine opdone_pure R (u := .string s') ?_ (.str _)
        unfold convert
        simp only [Sem.run_bind, run_underlying s1, run_underlying d1, Result.andThen_ok]
        cases ds <;> rfl
      · rename_i hns
        exact to_str R hsi' d1 x xu hx (fun s' hh => hns s' hh) e
    · rename_i el hk
      obtain rfl := tk_slice hk
      split at e
      · rename_i str
        split at e
        · rename_i szz btss zz cmpp hel
          obtain ⟨de, infe, e1, e2, he⟩ := ti_spec hel
          simp only [TI.mk.injEq] at he
          obtain rfl := tk_int he.1.symm
          have hδ := am_val e; subst hδ
          cases hx
          obtain ⟨w', cap, C, fr, hr, hcap, hold, hsz, hos, htp, hout, hnew, hC⟩ := run_stringToBytes (P := P) (w := w) el str
          have hD := done_prot R w' hold hsz hos htp hout
          refine ⟨_, .slice (some ⟨w.heap.size, 0, none⟩) str.size cap, w', σ, _, run_v ?_, .inl rfl, ?_, by rw [updF_none]; exact hD⟩
          · unfold convert
            simp only [Sem.run_bind, run_underlying s1, run_underlying d1, Result.andThen_ok]
            cases ds <;> simp only [Sem.run_bind, run_underlying e1, Result.andThen_ok, hr]
          · have hl : (str.data.toList.map fun b => [AV.int .u8 b.toNat]).length = str.size := by simp
            have hrow : ∀ (r q : Nat) (row : List AV) (v : AV), (str.data.toList.map fun b => [AV.int .u8 b.toNat])[r]? = some row → row[q]? = some v → ∃ b : UInt8, str.data.toList[r]? = some b ∧ q = 0 ∧ v = .int .u8 b.toNat := by
              intro r q row v hr hq
              simp only [List.getElem?_map, Option.map_eq_some_iff] at hr
              obtain ⟨b, hb, rfl⟩ := hr
              cases q with
              | zero => simp at hq; exact ⟨b, hb, rfl, hq.symm⟩
              | succ q => simp at hq
            have := VR.inl (σ := σ) (π := fun B o => π B o ∨ B = w.heap.size) (w := w') 1 (str.data.toList.map fun b => [AV.int .u8 b.toNat]) w.heap.size 0 cap (fun r _ => .int .u8 ((str.data.toList.getD r 0).toNat : Nat)) (fun row hr => by
                simp only [List.mem_map] at hr
                obtain ⟨b, _, rfl⟩ := hr
                exact ⟨rfl, fun v hv => by simp at hv; subst hv; exact ⟨rfl, rfl⟩⟩) (by rw [hl]; exact hcap)
              (fun r q row v hr hq => by
                obtain ⟨b, hb, rfl, rfl⟩ := hrow r q row v hr hq
                refine ⟨?_, .inr rfl⟩
                simp only [World.cell?, hnew, Nat.zero_add, Nat.mul_one, Nat.add_zero, List.getD_eq_getElem?_getD, hb, Option.getD_some]
                simpa using hC r b hb)
              (fun r q row v hr hq => by
                obtain ⟨b, hb, rfl, rfl⟩ := hrow r q row v hr hq
                simp only [List.getD_eq_getElem?_getD, hb, Option.getD_some]
                exact .int _ _)
            rwa [hl] at this
        · exact (am_fail e).elim
      · exact (am_fail e).elim
    · exact (am_fail e).elim
  · exact (am_fail e).elim

end
end Go.Ws
