/-
  Functions: what the abstract machine makes of a call is what the model makes of it.
  Conditions: none.
-/
import Derived.Test.YtpfhlkhdmikdaaaZFin
namespace Go.Ws
set_option linter.unusedVariables false
set_option linter.unusedSimpArgs false

variable {P : Program} {σ : Sig} {π : Prot} {w : World}

def resRun (tmps : Array Value) : ResultVar → Sem Value
  | .tmp t => pure (tmps.getD t undef)
  | .cell a t => do loadVar t (← asAddr (tmps.getD a undef))

theorem resVal_ok {st : St} {tmps : Array Value} (R : Rel σ π w (st.h[·]?)) (ht : VRs σ π w st.t tmps) {r : ResultVar} {v : AV} (e : resVal (tiOf P) st r = some v) :
    ∃ u, (resRun tmps r).run P w = .ok u w ∧ VR σ π w v u := by
  cases r with
  | tmp t =>
    simp only [resVal, Option.some.injEq] at e
    subst e
    exact ⟨_, rfl, vrs_getD ht t⟩
  | cell a ty =>
    simp only [resVal] at e
    split at e
    · rename_i i b o hi hb
      have hvr := vrs_getD ht a
      rw [hb] at hvr
      split at e
      · rename_i c hc
        split at e
        · rename_i hle
          obtain ⟨d, inf, h1, h2, rfl⟩ := ti_spec hi
          generalize hu0 : tmps.getD a undef = u at hvr
          cases hvr with
          | hp _ _ l hl =>
            obtain ⟨l', C, ty', q1, q2, q3, q4, q5⟩ := R.blk b _ hc
            rw [hl] at q1
            cases q1
            obtain ⟨cs, hcl, hcs, hvr⟩ := vrs_slice q4 hle
            obtain ⟨u, hr, hvu⟩ := run_loadVar (P := P) (w := w) h1 h2 l.blk o cs hcl (fun j v hj => by have := hcs j v hj; simp [World.cell?, q2]; simpa using this) hvr e
            exact ⟨u, by simp only [resRun, hu0, asAddr, pure_bind, hr], hvu⟩
        · cases e
      · cases e
    · cases e

theorem results_ok {st : St} {tmps : Array Value} (R : Rel σ π w (st.h[·]?)) (ht : VRs σ π w st.t tmps) {fn : Func} {vs : List AV} (e : resVals (tiOf P) st fn.results.toList = some vs) :
    ∃ u, (results fn tmps).run P w = .ok u w ∧ VR σ π w (resTup vs) u := by
  have key : ∀ (l : List ResultVar) (vs : List AV), resVals (tiOf P) st l = some vs →
      ∃ us : List Value, (l.mapM (resRun tmps)).run P w = .ok us w ∧ VRs σ π w vs us.toArray := by
    intro l
    induction l with
    | nil =>
      intro vs e
      simp only [resVals, Option.some.injEq] at e
      subst e
      exact ⟨[], rfl, ⟨rfl, fun i v u h => by simp at h⟩⟩
    | cons r l ih =>
      intro vs e
      simp only [resVals] at e
      split at e
      · rename_i v vs' hv hvs
        cases e
        obtain ⟨u, h1, h2⟩ := resVal_ok R ht hv
        obtain ⟨us, h3, h4⟩ := ih vs' hvs
        refine ⟨u :: us, ?_, .cons h2 h4⟩
        rw [List.mapM_cons]
        simp only [Sem.run_bind, h1, Result.andThen_ok, h3, Sem.run_pure]
      · cases e
  obtain ⟨us, h1, h2⟩ := key _ _ e
  have hsz := h2.1
  simp only [List.size_toArray] at hsz
  refine ⟨if h : us.toArray.size = 1 then us.toArray[0] else .tuple us.toArray, ?_, ?_⟩
  · have he : results fn tmps = (do let vs ← fn.results.mapM (resRun tmps); pure (if h : vs.size = 1 then vs[0] else .tuple vs)) := by
      have hf : (fun (r : ResultVar) => (match r with | .tmp t => (pure (tmps.getD t undef) : Sem Value) | .cell a t => (do loadVar t (← asAddr (tmps.getD a undef)) : Sem Value))) = resRun tmps := by
        funext r
        cases r <;> rfl
      rw [← hf]
      rfl
    rw [he, Array.mapM_eq_mapM_toList]
    simp only [bind_map_left, Sem.run_bind, h1, Result.andThen_ok, Sem.run_pure]
  · match vs, us, hsz, h2 with
    | [v], [u], _, h2 => exact h2.2 0 v u rfl rfl
    | [], [], _, h2 => exact .tup [] #[] rfl (fun i v u h => by simp at h)
    | v1 :: v2 :: vs, u1 :: u2 :: us, _, h2 =>
      have : ¬ (u1 :: u2 :: us).toArray.size = 1 := by simp
      rw [dif_neg this]
      exact .tup _ _ h2.1 h2.2

/-- The table is the program's, and what is taken by a law of its own holds. -/
structure PrgOK (P : Program) (p : Prg) : Prop where
  mixed : P.follows .mixedOrders = true
  fn : ∀ f fn, p.F f = some fn → P.funcs[f]? = some fn ∧ (fn.name == "runtime.NumGoroutine") = false
  intr : ∀ f g, p.I f = some g → ∀ frz args h v h', g frz args h = some (v, h') →
    (∀ cargs w, (callFunc f cargs).run P w = .ok (.enter f cargs) w) ∧ h.length ≤ h'.length ∧
    ∀ σ π w cargs, Rel σ π w (h[·]?) → VRs σ π w args cargs → Calls P f cargs w (Ret σ π w v h')

theorem enter_run {f : FuncId} {fn : Func} {c : Code} (hf : P.funcs[f]? = some fn) (hname : (fn.name == "runtime.NumGoroutine") = false) (hb : fn.body = some c) (args : Array Value) (w : World) :
    (callFunc f args).run P w = .ok (.enter f args) w := by
  unfold callFunc
  have hn : ¬ (fn.name = "runtime.NumGoroutine") := by simpa using hname
  simp [hf, hn, hb]

theorem pad_vrs {args : List AV} {cargs : Array Value} (h : VRs σ π w args cargs) (n : Nat) : VRs σ π w (args ++ List.replicate (n - args.length) undefA) (cargs ++ Array.replicate (n - cargs.size) undef) := by
  refine ⟨by simp [h.1], fun i v u hi hu => ?_⟩
  rcases Nat.lt_or_ge i args.length with hlt | hge
  · rw [List.getElem?_append_left hlt] at hi
    rw [Array.getElem?_append_left (by rw [h.1]; exact hlt)] at hu
    exact h.2 i v u hi hu
  · rw [List.getElem?_append_right hge] at hi
    rw [Array.getElem?_append_right (by rw [h.1]; exact hge)] at hu
    have h1 : v = undefA := by
      rw [List.getElem?_replicate] at hi
      split at hi
      · cases hi; rfl
      · cases hi
    have h2 : u = undef := by
      rw [Array.getElem?_replicate] at hu
      split at hu
      · cases hu; rfl
      · cases hu
    rw [h1, h2]
    exact undef_vr _ _ _

/-- SOUNDNESS. -/
theorem acall_ok {p : Prg} (H : PrgOK P p) : ∀ k, CallOK P (acall (tiOf P) p k) := by
  intro k
  induction k with
  | zero => intro frz f args h v h' e; cases e
  | succ k ih =>
    intro frz f args h v h' e
    simp only [acall] at e
    split at e
    · rename_i g hg
      exact H.intr f g hg frz args h v h' e
    · split at e
      · cases e
      · rename_i fn hfn
        obtain ⟨hf, hname⟩ := H.fn f fn hfn
        split at e
        · cases e
        · rename_i c hb
          split at e
          · cases e
          · rename_i x st hx hex
            split at e
            · rename_i vs hvs
              have hxx : x.out = .normal ∨ x.out = .ret := by
                cases x with
                | normal => exact .inl rfl
                | ret => exact .inr rfl
                | exit i => exact absurd rfl (hx i)
              refine ⟨enter_run hf hname hb, ?_, fun σ π w cargs R hv => ?_⟩
              · unfold final at e
                split at e
                · cases e
                rename_i hlen
                split at e
                · rename_i v1 kept h1 h2
                  split at e
                  · split at e
                    · cases e
                    · simp only [Option.some.injEq, Prod.mk.injEq] at e
                      obtain ⟨_, rfl⟩ := e
                      have : kept.length = h.length := by
                        cases frz with
                        | false =>
                          simp only [Bool.false_eq_true, if_false, Option.some.injEq] at h2
                          subst h2
                          simp; omega
                        | true =>
                          simp only [if_true] at h2
                          have := (frzBs_at _ _ _ _ h2).1
                          simp at this
                          omega
                      simp; omega
                  · cases e
                · cases e
              · refine calls_of_wp hf hb ?_
                refine exec_wp ih H.mixed k c _ x st _ _ w hex ⟨rfl, σ, π, ?_, .refl R⟩ fun a' w' N => ?_
                · exact pad_vrs hv fn.ntmps
                · obtain ⟨hd, σ', π', ht, D⟩ := N
                  obtain ⟨u, hu, hvu⟩ := results_ok D.rel ht hvs
                  have hfin := (final_ok R D hvu e).2
                  rcases hxx with hx | hx <;> rw [hx] <;> exact ⟨hd, u, hu, hfin⟩
            · cases e
          · cases e

end Go.Ws
