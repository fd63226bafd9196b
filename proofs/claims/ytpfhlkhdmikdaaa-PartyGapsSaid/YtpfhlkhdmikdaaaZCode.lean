/-
  Statements.
  Conditions: none.
-/
import Derived.Test.YtpfhlkhdmikdaaaZRegionE
import Derived.LoopN
namespace Go.Ws
set_option linter.unusedVariables false
set_option linter.unusedSimpArgs false

variable {P : Program} {σ : Sig} {π : Prot} {w : World} {call : CallT} {cfg : Nat → Bool × Bool}

def AX.out : AX → Exit
  | .normal => .normal
  | .exit id => .exit id
  | .ret => .ret

theorem exec_wp (hcall : CallOK P call) (hm : P.follows .mixedOrders = true) (it : Nat) : ∀ (c : Code) (st : St) (x : AX) (st' : St) (Q : Exit → Act → World → Prop) (a : Act) (w1 : World),
    exec (tiOf P) call cfg it c st = some (x, st') → Now σ π w st.t (st.h[·]?) a w1 → (∀ a' w', Now σ π w st'.t (st'.h[·]?) a' w' → Q x.out a' w') → c.wp P Q a w1 := by
  intro c
  induction c with
  | skip =>
    intro st x st' Q a w1 e N hQ
    simp only [exec, Option.some.injEq, Prod.mk.injEq] at e
    obtain ⟨rfl, rfl⟩ := e
    exact wp_skip (hQ _ _ N)
  | label l =>
    intro st x st' Q a w1 e N hQ
    simp only [exec, Option.some.injEq, Prod.mk.injEq] at e
    obtain ⟨rfl, rfl⟩ := e
    exact wp_label (hQ _ _ N)
  | region id ops draw =>
    intro st x st' Q a w1 e N hQ
    simp only [exec] at e
    split at e
    · rename_i st2 hr
      cases e
      exact region_all hcall hm hr N hQ
    · cases e
  | seq c1 c2 ih1 ih2 =>
    intro st x st' Q a w1 e N hQ
    simp only [exec] at e
    split at e
    · rename_i st2 hr
      exact wp_seq (ih1 st .normal st2 _ a w1 hr N fun a' w' N' => ih2 st2 x st' Q a' w' e N' hQ)
    · rename_i hne
      refine wp_seq (ih1 st x st' _ a w1 e N fun a' w' N' => ?_)
      cases x with
      | normal => exact absurd e (hne _)
      | _ => exact hQ _ _ N'
  | cond o c1 c2 ih1 ih2 =>
    intro st x st' Q a w1 e N hQ
    simp only [exec] at e
    split at e
    · rename_i b hb
      obtain ⟨hd, σ1, π1, ht, D⟩ := N
      have hv := ev_vr ht hb
      have hb' : a.eval o = .bool b := by generalize a.eval o = u at hv; cases hv; rfl
      cases b with
      | true =>
        refine wp_cond_true hb' (ih1 st x st' Q a w1 (by simpa using e) ⟨hd, σ1, π1, ht, D⟩ hQ)
      | false =>
        refine wp_cond_false hb' (ih2 st x st' Q a w1 (by simpa using e) ⟨hd, σ1, π1, ht, D⟩ hQ)
    · cases e
  | block id c ih =>
    intro st x st' Q a w1 e N hQ
    simp only [exec] at e
    split at e
    · rename_i i st2 hr
      refine wp_block (ih st (.exit i) st2 _ a w1 hr N fun a' w' N' => ?_)
      show if i = id then Q .normal a' w' else Q (.exit i) a' w'
      split at e
      · rename_i hi
        cases e
        rw [if_pos hi]
        exact hQ _ _ N'
      · rename_i hi
        cases e
        rw [if_neg hi]
        exact hQ _ _ N'
    · rename_i hne
      refine wp_block (ih st x st' _ a w1 e N fun a' w' N' => ?_)
      cases x with
      | exit i => exact absurd e (hne _ _)
      | normal => exact hQ _ _ N'
      | ret => exact hQ _ _ N'
  | loop c ih =>
    intro st x st' Q a w1 e N hQ
    simp only [exec] at e
    have key : ∀ (n : Nat) (st : St) (a : Act) (w1 : World), iter n (exec (tiOf P) call cfg it c) st = some (x, st') → Now σ π w st.t (st.h[·]?) a w1 → Code.rounds P c Q n a w1 := by
      intro n
      induction n with
      | zero => intro st a w1 e; cases e
      | succ n ihn =>
        intro st a w1 e N
        simp only [iter] at e
        rw [rounds_succ]
        split at e
        · rename_i st2 hr
          exact ih st .normal st2 _ a w1 hr N fun a' w' N' => ihn st2 a' w' e N'
        · rename_i hne
          refine ih st x st' _ a w1 e N fun a' w' N' => ?_
          cases x with
          | normal => exact absurd e (hne _)
          | _ => exact hQ _ _ N'
    exact wp_loop_rounds it (key it st a w1 e N)
  | exit id =>
    intro st x st' Q a w1 e N hQ
    simp only [exec, Option.some.injEq, Prod.mk.injEq] at e
    obtain ⟨rfl, rfl⟩ := e
    exact wp_exit (hQ _ _ N)
  | ret =>
    intro st x st' Q a w1 e N hQ
    simp only [exec, Option.some.injEq, Prod.mk.injEq] at e
    obtain ⟨rfl, rfl⟩ := e
    exact wp_ret (hQ _ _ N)
  | _ => intro st x st' Q a w1 e; simp [exec] at e

end Go.Ws
