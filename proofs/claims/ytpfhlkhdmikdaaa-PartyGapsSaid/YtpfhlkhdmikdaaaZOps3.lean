/-
  Single operations of the abstract machine are the model's: stores, addresses of fields and elements.
  Conditions: none.
-/
import Derived.Test.YtpfhlkhdmikdaaaZOps2
namespace Go.Ws
set_option linter.unusedVariables false
set_option linter.unusedSimpArgs false

section
variable {P : Program} {σ : Sig} {π : Prot} {w : World} {h : Nat → Option Blk} {n : Nat} {δ : Delta} {L : List Nat}

theorem flat_of {l : List AV} (h : flatB l = true) : ∀ v ∈ l, v.flat := by
  unfold flatB at h
  simp only [Bool.and_eq_true, List.all_eq_true, List.isEmpty_iff] at h
  intro v hv
  refine ⟨h.1 v hv, ?_⟩
  have key : ∀ (l : List AV), AV.refsL l = [] → ∀ v ∈ l, v.refs = [] := by
    intro l
    induction l with
    | nil => intro _ v hv; cases hv
    | cons x l ih =>
      intro hl v hv
      simp only [AV.refsL, List.append_eq_nil_iff] at hl
      rcases List.mem_cons.1 hv with rfl | hv
      · exact hl.1
      · exact ih hl.2 v hv
  exact key l h.2 v hv

/-- One row of one own block is written; the block's one current reading is x'. -/
theorem change_row {b : Nat} {x x' : Blk} (R : Rel σ π w h) (hb : h b = some x) (v : AV) (l : Loc) (g : Nat) (hl : σ b g = some l) (C D : Array Value) (ty : TypeId) (hg : w.heap[l.blk]? = some (.cells C ty (0, 0))) (hs : D.size = C.size)
    (hp : ∀ o, π l.blk o → ∀ q, D[o]? = some q ↔ C[o]? = some q)
    (hx : Ext σ π w σ π (w.setRow l.blk D) → (w.setRow l.blk D).heap[l.blk]? = some (.cells D ty (0, 0)) → BR σ π (w.setRow l.blk D) b x') :
    Done σ π w σ π (w.setRow l.blk D) (updF h n ⟨v, [(b, x')], []⟩) := by
  have E := ext_setRow R l.blk C D ty hg hs hp
  exact rel_change R hb v E (fun _ _ _ => rfl) (fun g0 l0 h0 => .inl ⟨g0, l0, h0, rfl⟩) (fun B _ hn => setRow_other w l.blk B D (fun e => hn g l hl e.symm)) (by simp) rfl rfl rfl (hx E (setRow_heap w l.blk C D ty _ hg))

theorem op_store (R : Rel σ π w h) (t : Nat) (p v : AV) (pu u : Value) (hp : VR σ π w p pu) (hv : VR σ π w v u) (e : (aStore (tiOf P) t p v).run h = some (δ, L)) :
    OpDone P (do Instr.storeAt t pu u; pure .skip) σ π w h n δ := by
  unfold aStore at e
  split at e
  · exact (am_fail e).elim
  · rename_i i hi
    obtain ⟨d, inf, h1, h2, rfl⟩ := ti_spec hi
    split at e
    · rename_i hcond
      obtain ⟨hlen0, hone⟩ := hcond
      have hlen : v.cells.length = inf.size := hlen0
      clear hlen0
      have hvc := hv.cells
      have hus : u.cells.size = inf.size := hvc.1.trans hlen
      have h1c := one_cells hv hone
      split at e
      · rename_i b o
        obtain ⟨x, L', hx, e, _⟩ := am_rd e
        split at e
        · rename_i c
          split at e
          · rename_i hle
            have hδ := am_ret e
            subst hδ
            cases hp with
            | hp _ _ l hl =>
              obtain ⟨l', C, ty, q1, q2, q3, q4, q5⟩ := R.blk b _ hx
              rw [hl] at q1
              cases q1
              simp only at hle
              have hfit : o + inf.size ≤ C.size := by omega
              have hr := storeVar_run (P := P) (w := w) h2 l.blk o ty u C hus q2 hfit h1c
              have hul : u.cells.toList.length = inf.size := by rw [Array.length_toList, hus]
              rw [← hul] at hr hfit
              have hD := setArr_get hfit
              have hDs : (C.toList.take o ++ u.cells.toList ++ C.toList.drop (o + u.cells.toList.length)).toArray.size = C.size := by
                have := hfit
                simp only [List.size_toArray, List.length_append, List.length_take, List.length_drop, Array.length_toList] at this ⊢
                omega
              generalize (C.toList.take o ++ u.cells.toList ++ C.toList.drop (o + u.cells.toList.length)).toArray = D at hr hD hDs
              refine ⟨_, _, _, σ, π, run_u (by simp [Instr.storeAt, Instr.sureAddr, hr]), .inr ⟨rfl, rfl⟩, undef_vr _ _ _, change_row R hx undefA l 0 hl C D ty q2 hDs (fun o' ho' => absurd ho' (q5 o')) (fun E hw => ?_)⟩
              refine ⟨l, D, ty, hl, hw, by simp [setAt]; omega, fun i x hi => ?_, q5⟩
              rw [setAt_get (by omega)] at hi
              rw [Nat.zero_add, hD]
              rw [hul, ← hlen]
              split at hi
              · rename_i hr'
                rw [if_pos hr']
                obtain ⟨y, hy, hvy⟩ := hvc.at_ hi
                exact ⟨y, by simpa using hy, hvy.mono E⟩
              · rename_i hr'
                rw [if_neg hr']
                obtain ⟨y, hy, hvy⟩ := q4 i x hi
                exact ⟨y, by simpa using hy, hvy.mono E⟩
          · exact (am_fail e).elim
        · exact (am_fail e).elim
      · rename_i sz b g r j
        obtain ⟨x, L', hx, e, _⟩ := am_rd e
        split at e
        · rename_i s rows gen wgen ro
          split at e
          · rename_i hcd
            obtain ⟨rfl, rfl, rfl, hjs, hflat⟩ := hcd
            split at e
            · rename_i row hrow
              have hδ := am_ret e
              subst hδ
              cases hp with
              | ep _ _ _ _ _ l hl hi =>
                obtain ⟨q1, q2, q3, q4, ⟨lc, c1, c2, c3, c4⟩, q6⟩ := R.blk b _ hx
                rw [hl] at c1
                cases c1
                obtain ⟨l', C, ty, a1, a2, a3, a4, a5⟩ := q6 g q2 (Nat.le_refl _)
                rw [hl] at a1
                cases a1
                have hrl : row.length = s := (q3 row (List.mem_of_getElem? hrow)).1
                simp only at hjs
                have hrm : r * s + s ≤ l.m * s := by rw [← Nat.succ_mul]; exact Nat.mul_le_mul_right _ hi
                have hfit : (r * s + j) + inf.size ≤ C.size := by omega
                have hr := storeVar_run (P := P) (w := w) h2 l.blk (r * s + j) ty u C hus a3 hfit h1c
                have hul : u.cells.toList.length = inf.size := by rw [Array.length_toList, hus]
                rw [← hul] at hr hfit
                have hD := setArr_get hfit
                have hDs : (C.toList.take (r * s + j) ++ u.cells.toList ++ C.toList.drop ((r * s + j) + u.cells.toList.length)).toArray.size = C.size := by
                  have := hfit
                  simp only [List.size_toArray, List.length_append, List.length_take, List.length_drop, Array.length_toList] at this ⊢
                  omega
                generalize (C.toList.take (r * s + j) ++ u.cells.toList ++ C.toList.drop ((r * s + j) + u.cells.toList.length)).toArray = D at hr hD hDs
                refine ⟨_, _, _, σ, π, run_u (by simp [Instr.storeAt, Instr.sureAddr, hr]), .inr ⟨rfl, rfl⟩, undef_vr _ _ _, change_row R hx undefA l g hl C D ty a3 hDs (fun o' ho' => absurd ho' (c3 rfl o')) (fun E hw => ?_)⟩
                have hvl : v.cells.length = inf.size := hlen
                refine ⟨q1, Nat.le_refl _, ?_, q4, ⟨l, hl, by simpa using c2, fun _ => c3 rfl, by simpa using c4⟩, fun g' hg1 hg2 => ?_⟩
                · intro row' hr'
                  rcases List.mem_or_eq_of_mem_set hr' with hm | rfl
                  · exact q3 row' hm
                  · refine ⟨by simp [setAt]; omega, fun x hx => ?_⟩
                    unfold setAt at hx
                    rcases List.mem_append.1 hx with hx | hx
                    · rcases List.mem_append.1 hx with hx | hx
                      · exact (q3 row (List.mem_of_getElem? hrow)).2 x (List.mem_of_mem_take hx)
                      · exact flat_of hflat x hx
                    · exact (q3 row (List.mem_of_getElem? hrow)).2 x (List.mem_of_mem_drop hx)
                · obtain rfl : g' = g := by omega
                  refine ⟨l, D, ty, hl, by simp; omega, hw, by omega, fun r' row' hr1 hr2 i x hi' => ?_⟩
                  rw [hD, hul]
                  by_cases hrr : r' = r
                  · subst hrr
                    rw [List.getElem?_set_self (by omega)] at hr2
                    cases hr2
                    rw [setAt_get (by omega), hvl] at hi'
                    by_cases hin : j ≤ i ∧ i < j + inf.size
                    · rw [if_pos hin] at hi'
                      rw [if_pos (by omega)]
                      obtain ⟨y, hy, hvy⟩ := hvc.at_ hi'
                      exact ⟨y, by rw [show r' * s + i - (r' * s + j) = i - j by omega]; simpa using hy, hvy.mono E⟩
                    · rw [if_neg hin] at hi'
                      rw [if_neg (by omega)]
                      obtain ⟨y, hy, hvy⟩ := a5 r' row hi hrow i x hi'
                      exact ⟨y, hy, hvy.mono E⟩
                  · rw [List.getElem?_set_ne (by omega)] at hr2
                    obtain ⟨y, hy, hvy⟩ := a5 r' row' hr1 hr2 i x hi'
                    have hil : i < s := by
                      have := (List.getElem?_eq_some_iff.1 hi').1
                      rw [(q3 row' (List.mem_of_getElem? hr2)).1] at this
                      exact this
                    refine ⟨y, ?_, hvy.mono E⟩
                    rw [if_neg, hy]
                    intro hin
                    rcases Nat.lt_or_gt_of_ne hrr with hlt | hgt
                    · have : (r' + 1) * s ≤ r * s := Nat.mul_le_mul_right _ hlt
                      rw [Nat.succ_mul] at this
                      omega
                    · have : (r + 1) * s ≤ r' * s := Nat.mul_le_mul_right _ hgt
                      rw [Nat.succ_mul] at this
                      omega
            · exact (am_fail e).elim
          · exact (am_fail e).elim
        · exact (am_fail e).elim
      · exact (am_fail e).elim
    · exact (am_fail e).elim

/-! addresses -/
theorem op_fieldAddr (R : Rel σ π w h) (t : Nat) (p : AV) (f : Nat) (pu : Value) (hp : VR σ π w p pu) (e : (aFieldAddr (tiOf P) t p f).run h = some (δ, L)) :
    OpDone P (do pure (.value (← Instr.fieldAt t pu f))) σ π w h n δ := by
  unfold aFieldAddr at e
  split at e
  · rename_i fs sz bts z cmp hi
    obtain ⟨d, inf, h1, h2, he⟩ := ti_spec hi
    simp only [TI.mk.injEq] at he
    obtain ⟨hk, _⟩ := he
    obtain ⟨f', rfl, rfl⟩ := tk_struct hk.symm
    split at e
    · rename_i off ft hf
      simp only [List.getElem?_map, Option.map_eq_some_iff, Prod.mk.injEq, Array.getElem?_toList] at hf
      obtain ⟨fd, hfd, rfl, rfl⟩ := hf
      split at e
      · rename_i fi hfi
        obtain ⟨d', inf', h1', h2', rfl⟩ := ti_spec hfi
        split at e
        · exact (am_fail e).elim
        · rename_i hnz
          have hrun : ∀ a : Addr, (Instr.fieldAt t (.pointer (some a)) f).run P w = .ok (.pointer (some (a.add fd.offset))) w := by
            intro a
            simp [Instr.fieldAt, run_underlying h1, hfd, Instr.sureAddr, fieldPlace, ti_size h2', hnz]
          split at e
          · have hδ := am_val e
            subst hδ
            cases hp with
            | hp b o l hl => exact opdone_pure R (hrun _) (by rw [add_none]; exact .hp _ _ l hl)
          · have hδ := am_val e
            subst hδ
            cases hp with
            | ep sz b g i j l hl hi => exact opdone_pure R (hrun _) (by rw [add_none, Nat.add_assoc]; exact .ep _ _ _ _ _ l hl hi)
          · have hδ := am_val e
            subst hδ
            cases hp with
            | ip sz rows i j B o u hf hi hc hv => exact opdone_pure R (hrun _) (by rw [add_none, Nat.add_assoc]; exact .ip _ _ _ _ B o u hf hi hc hv)
          · exact (am_fail e).elim
      · exact (am_fail e).elim
    · exact (am_fail e).elim
  · exact (am_fail e).elim

theorem op_indexAddr (R : Rel σ π w h) (t : Nat) (x ix : AV) (xu iu : Value) (hx : VR σ π w x xu) (hix : VR σ π w ix iu) (e : (aIndexAddr (tiOf P) t x ix).run h = some (δ, L)) :
    OpDone P (do pure (.value (← Instr.indexAt t xu iu))) σ π w h n δ := by
  unfold aIndexAddr at e
  split at e
  · rename_i el sz bts z cmp k q hi
    obtain ⟨d, inf, h1, h2, he⟩ := ti_spec hi
    simp only [TI.mk.injEq] at he
    obtain rfl := tk_slice he.1.symm
    cases hix
    split at e
    · rename_i ei hei
      obtain ⟨d', inf', h1', h2', rfl⟩ := ti_spec hei
      split at e
      · rename_i s rows
        split at e
        · rename_i hc
          obtain ⟨rfl, hq0, hq1⟩ := hc
          have hδ := am_val e
          subst hδ
          cases hx with
          | inl0 => simp at hq1; omega
          | inl _ _ B o c u hf hl hc hv =>
            refine opdone_pure R (u := .pointer (some ⟨B, o + q.toNat * inf'.size, none⟩)) ?_ (.ip _ rows q.toNat 0 B o u hf (by omega) hc hv)
            simp [Instr.indexAt, asIntOf, run_underlying h1, ti_size h2', hq0, hq1, add_none]
        · exact (am_fail e).elim
      · rename_i s b g i m full
        split at e
        · rename_i hc
          obtain ⟨rfl, hq0, hq1⟩ := hc
          have hδ := am_val e
          subst hδ
          cases hx with
          | ref _ _ _ _ _ _ a c l hl hi hn ha hf C ty hC hs =>
            obtain rfl := ha (by omega)
            refine opdone_pure R (u := .pointer (some ⟨l.blk, (i + q.toNat) * inf'.size + 0, none⟩)) ?_ (.ep _ b g (i + q.toNat) 0 l hl (by omega))
            simp [Instr.indexAt, asIntOf, run_underlying h1, ti_size h2', hq0, hq1, add_none, Nat.add_mul]
        · exact (am_fail e).elim
      · exact (am_fail e).elim
    · exact (am_fail e).elim
  · rename_i len el sz bts z cmp k q hi
    obtain ⟨d, inf, h1, h2, he⟩ := ti_spec hi
    simp only [TI.mk.injEq] at he
    obtain rfl := tk_array he.1.symm
    cases hix
    split at e
    · rename_i ei hei
      obtain ⟨d', inf', h1', h2', rfl⟩ := ti_spec hei
      split at e
      · rename_i hq
        obtain ⟨hq0, hq1⟩ := hq
        have hrun : ∀ a : Addr, (Instr.indexAt t (.pointer (some a)) (.int k q)).run P w = .ok (.pointer (some (a.add (q.toNat * inf'.size)))) w := by
          intro a
          simp [Instr.indexAt, asIntOf, run_underlying h1, ti_size h2', hq0, hq1, Instr.sureAddr]
        split at e
        · have hδ := am_val e
          subst hδ
          cases hx with
          | hp b o l hl => exact opdone_pure R (hrun _) (by rw [add_none]; exact .hp _ _ l hl)
        · have hδ := am_val e
          subst hδ
          cases hx with
          | ep sz b g i j l hl hi => exact opdone_pure R (hrun _) (by rw [add_none, Nat.add_assoc]; exact .ep _ _ _ _ _ l hl hi)
        · have hδ := am_val e
          subst hδ
          cases hx with
          | ip sz rows i j B o u hf hi hc hv => exact opdone_pure R (hrun _) (by rw [add_none, Nat.add_assoc]; exact .ip _ _ _ _ B o u hf hi hc hv)
        · exact (am_fail e).elim
      · exact (am_fail e).elim
    · exact (am_fail e).elim
  · exact (am_fail e).elim

end
end Go.Ws
