/-
  append, copy, clear, make, literals: what the abstract machine makes of them is the model's.
  Conditions: none.
-/
import Derived.Test.YtpfhlkhdmikdaaaZOps6
namespace Go.Ws
set_option linter.unusedVariables false
set_option linter.unusedSimpArgs false

section
variable {P : Program} {σ : Sig} {π : Prot} {w : World} {h : Nat → Option Blk} {n : Nat} {δ : Delta} {L : List Nat}

theorem slice_of {σ : Sig} {π : Prot} {w : World} {x : AV} {u : Value} (hx : VR σ π w x u) (hs : (∃ m, lenOf x = some m) ∧ ∀ s, x ≠ .str s) : ∃ a s c, u = .slice a s c ∧ s ≤ c ∧ lenOf x = some s := by
  cases hx with
  | nils => exact ⟨_, _, _, rfl, Nat.le_refl _, rfl⟩
  | emps a => exact ⟨_, _, _, rfl, Nat.le_refl _, rfl⟩
  | inl0 sz a c => exact ⟨_, _, _, rfl, Nat.zero_le _, rfl⟩
  | inl sz rows B o c u hf hl hc hv => exact ⟨_, _, _, rfl, hl, rfl⟩
  | ref sz b g i n full a c l hl hi hn ha hf C e hC hs => exact ⟨_, _, _, rfl, hn, rfl⟩
  | str s => exact absurd rfl (hs.2 s)
  | _ => obtain ⟨⟨m, hm⟩, _⟩ := hs; simp [lenOf] at hm

set_option maxHeartbeats 1000000 in
theorem op_append (R : Rel σ π w h) (hn : δ.nw ≠ [] → h n = none) (st xt ty : Nat) (s x : AV) (su xu : Value) (hs : VR σ π w s su) (hx : VR σ π w x xu) (e : (aAppend (tiOf P) n st xt s x).run h = some (δ, L)) :
    OpDone P (do pure (.value (← Builtin.append_ #[st, xt] ty #[su, xu]))) σ π w h n δ := by
  unfold aAppend at e
  split at e
  · rename_i el sz bts z cmp hst
    obtain ⟨d, infs, h1, h2, he⟩ := ti_spec hst
    simp only [TI.mk.injEq] at he
    obtain rfl := tk_slice he.1.symm
    split at e
    · rename_i ei xi hei hxi
      split at e
      · rename_i hcond
        obtain ⟨hsz, hbt, hzl⟩ := hcond
        obtain ⟨ys, L1, L2, hys, e4, _⟩ := am_bind e
        clear e
        have e := e4
        clear e4
        obtain ⟨dx, inf, zv, news, hxt, hinf, hz, hzs, hsz', hbt', hyr, hsrc⟩ := ys_of R hei hxi hsz hbt hzl hx hys
        rw [hsz'] at hsz
        rw [hbt'] at hbt
        have hstay : ∀ a s' c, su = .slice a s' c → s' ≤ c → ys.length = 0 → OpDone P (do pure (.value (← Builtin.append_ #[st, xt] ty #[su, xu]))) σ π w h n ⟨s, [], []⟩ := by
          intro a s' c hsu hle h0
          subst hsu
          rw [h0] at hsrc
          exact opdone_pure R (app_stay (P := P) (ty := ty) h1 hxt hinf hz hbt hsrc a s' c hle) hs
        have hnew : h n = none → ∀ (a : Option Addr), su = .slice a 0 0 → 0 < ys.length → ys.length * inf.bytes ≤ 140737488355328 → OpDone P (do pure (.value (← Builtin.append_ #[st, xt] ty #[su, xu]))) σ π w h n ⟨.ref inf.size n 0 0 ys.length true, [], [.arr inf.size ys 0 0 false]⟩ := by
          intro hn a hsu h0 hb
          subst hsu
          have hr := app_grow (P := P) (ty := ty) h1 hxt hinf hz hbt hzs hsz hsrc hyr.1 a 0 0 [] (by cases a <;> simp [Builtin.firstCells, loadCells, loadCellsFrom]) (by omega) (by rw [Nat.zero_add]; exact hb)
          simp only [Nat.zero_add] at hr
          have hge : ys.length ≤ grownCap w ys.length 0 el := grownCap_ge w ys.length 0 el
          obtain ⟨σ', hv', hd'⟩ := op_newArr R hn hsz hyr (w.drew.alloc (.cells (news.toArray ++ Builtin.zeroCells zv.cells (grownCap w ys.length 0 el - ys.length)) el)) (Builtin.zeroCells zv.cells (grownCap w ys.length 0 el - ys.length)) el (grownCap w ys.length 0 el) h0
            (fun B hB => alloc_old w.drew _ hB) (alloc_size w.drew _) (alloc_new w.drew _) rfl rfl rfl hge (by
              simp only [Array.size_append, List.size_toArray, hyr.1, size_zeroCells, hzs, ← Nat.add_mul]
              exact Nat.mul_le_mul_right _ (by omega))
          refine ⟨_, _, _, σ', π, run_v (by simpa using hr), .inl rfl, hv', hd'⟩
        split at e
        · -- nil
          cases hs
          split at e
          · rename_i h0
            have hδ := am_val e; subst hδ
            exact hstay _ _ _ rfl (Nat.le_refl _) h0
          · rename_i h0
            split at e
            · rename_i hb
              have hδ := am_ret e; subst hδ
              rw [hsz']
              exact hnew (hn (by simp)) _ rfl (by omega) (by rw [← hbt']; exact hb)
            · exact (am_fail e).elim
        · cases hs
          split at e
          · rename_i h0
            have hδ := am_val e; subst hδ
            exact hstay _ _ _ rfl (Nat.le_refl _) h0
          · rename_i h0
            split at e
            · rename_i hb
              have hδ := am_ret e; subst hδ
              rw [hsz']
              exact hnew (hn (by simp)) _ rfl (by omega) (by rw [← hbt']; exact hb)
            · exact (am_fail e).elim
        · rename_i sz' rows
          split at e
          · rename_i h0
            have hδ := am_val e; subst hδ
            obtain ⟨a, s', c, hsu, hle, _⟩ := slice_of hs ⟨⟨_, rfl⟩, fun s hh => by cases hh⟩
            exact hstay a s' c hsu hle h0
          · exact (am_fail e).elim
        · rename_i sz' b g i k full
          split at e
          · rename_i h0
            have hδ := am_val e; subst hδ
            obtain ⟨a, s', c, hsu, hle, _⟩ := slice_of hs ⟨⟨_, rfl⟩, fun s hh => by cases hh⟩
            exact hstay a s' c hsu hle h0
          · rename_i h0
            split at e
            · rename_i hcd
              obtain ⟨hsze, hi0, hfull, hbytes⟩ := hcd
              obtain ⟨y, L', hy, e2, _⟩ := am_rd e
              clear e
              split at e2
              · rename_i s' rows gen wgen ro
                split at e2
                · rename_i hcd2
                  obtain ⟨hs', hg, hk⟩ := hcd2
                  subst hi0 hs' hg
                  have hfull' : full = true := hfull
                  subst hfull'
                  have hsz3 : s' = inf.size := hsze.trans hsz'
                  obtain ⟨a, s2, c, hsu, hle, hlen⟩ := slice_of hs ⟨⟨_, rfl⟩, fun s hh => by cases hh⟩
                  simp only [lenOf, Option.some.injEq] at hlen
                  subst hlen
                  subst hsu
                  have hsa : ∃ a', a = some a' := by cases hs; exact ⟨_, rfl⟩
                  obtain ⟨a, rfl⟩ := hsa
                  have key : ∀ (wg' : Nat) (ro' : Bool), ((k = rows.length ∧ wg' = wgen ∧ ro' = ro) ∨ (ro = false ∧ wg' = g + 1 ∧ ro' = false)) →
                      OpDone P (do pure (.value (← Builtin.append_ #[st, xt] ty #[.slice (some a) k c, xu]))) σ π w h n ⟨.ref s' b (g + 1) 0 (k + ys.length) true, [(b, .arr s' (rows.take k ++ ys ++ rows.drop (k + ys.length)) (g + 1) wg' ro')], []⟩ := by
                    intro wg' ro' hA
                    obtain ⟨v', w', σ', hr, hv', hd'⟩ := app_ref (P := P) (n := n) (ty := ty) R hy (by rw [← hsz3] at hyr; exact hs) hk (by rw [hsz3]; exact hyr) (by omega) hA h1 hxt hinf hz hbt hzs hsz3 hsrc (by rw [← hbt']; exact hbytes)
                    exact ⟨_, _, w', σ', π, run_v hr, .inl rfl, hv', hd'⟩
                  split at e2
                  · rename_i hkr
                    have hδ := am_ret e2; subst hδ
                    have := key wgen ro (.inl ⟨hkr, rfl, rfl⟩)
                    have e1 : rows.take k ++ ys ++ rows.drop (k + ys.length) = rows ++ ys := by
                      rw [List.take_of_length_le (by omega), List.drop_eq_nil_of_le (by omega), List.append_nil]
                    rwa [e1] at this
                  · split at e2
                    · exact (am_fail e2).elim
                    · rename_i hro
                      have hro' : ro = false := by simpa using hro
                      split at e2
                      · have hδ := am_ret e2; subst hδ
                        exact key (g + 1) false (.inr ⟨hro', rfl, rfl⟩)
                      · have hδ := am_ret e2; subst hδ
                        have := key (g + 1) false (.inr ⟨hro', rfl, rfl⟩)
                        have e1 : rows.take k ++ ys ++ rows.drop (k + ys.length) = rows.take k ++ ys := by
                          rw [List.drop_eq_nil_of_le (by omega), List.append_nil]
                        rwa [e1] at this
                · exact (am_fail e2).elim
              · exact (am_fail e2).elim
            · exact (am_fail e).elim
        · exact (am_fail e).elim
      · exact (am_fail e).elim
    · exact (am_fail e).elim
  · exact (am_fail e).elim

end
end Go.Ws
