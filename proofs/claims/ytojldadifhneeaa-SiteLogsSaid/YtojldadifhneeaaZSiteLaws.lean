/-
  SiteLogs, SiteOwn and SiteAlone, plainly.
  Conditions: none.
-/
import Derived.Test.YtojldadifhneeaaZSiteInv
import Derived.Test.YtojldadifhneeaaZSame
import Derived.Test.YtojldadifhneeaaZWf
import Derived.KernelRfl
set_option linter.unusedVariables false
set_option linter.unusedSimpArgs false
namespace Go.Ws.L10
open L7 L8 L9
set_option linter.unusedVariables false
set_option linter.unusedSimpArgs false
set_option maxHeartbeats 1000000
theorem alive_ok : P_law10_alive = some true := lm_law10_alive.le 80 true (by kernel_rfl)
theorem do_some {s : St} {n : Nat} (I : Inv s n) (hn : n ≤ 999) {r : Rec} (hr : RecOk r) : P_site_Site_Do_3 r.1 r.2.1 r.2.2.1 r.2.2.2 s.L s.K s.M s.G = some ((doF s r).1, (doF s r).2.1, (doF s r).2.2.L, (doF s r).2.2.K, (doF s r).2.2.M, (doF s r).2.2.G) ∧ Inv (doF s r).2.2 (n + 1) ∧ Step s r (doF s r) :=
  ⟨do_ok (I.wf (by omega)) hr, inv_step I hn hr, do_step I (by omega) hr⟩
abbrev RecsOk (l : List Rec) : Prop := l.length ≤ maxLen ∧ ∀ r ∈ l, RecOk r
theorem recs_of {l : List Rec} (h : w_t22 l) : RecsOk l := ⟨h.1, fun r hr => by
  obtain ⟨_, _, h3, h4⟩ := h.2 r hr
  exact ⟨h3, h4⟩⟩
theorem Step.log {s : St} {r : Rec} {q : Res} (h : Step s r q) : (q.1 = 0 ∧ q.2.2.G = s.G ++ [r]) ∨ (q.1 ≠ 0 ∧ q = (q.1, 0, s)) := by
  cases h with
  | err r e he => exact .inr ⟨he, rfl⟩
  | _ => exact .inl ⟨rfl, rfl⟩
theorem logs_l0 {x1 : List Rec} (hx : RecsOk x1) : ∀ (d i : Nat) (v : Int) (s : St), 120 - i = d → i ≤ 120 → v = (i : Int) → Inv s i → ∃ s', P_law10_SiteLogs_l0 x1 v s.L s.K s.G s.M s.G = some (s'.L, s'.K, s'.G, s'.M, s'.G) ∧ Inv s' 120 := by
  have hml := hx.1
  unfold maxLen at hml
  intro d
  induction d with
  | zero =>
    intro i v s hd hi hv I
    refine ⟨s, ?_, I.le hi⟩
    by_cases hlx : i < x1.length
    · rw [P_law10_SiteLogs_l0_eq]
      repeat (first | refine ip (by first | with_reducible rfl | assumption | (simp (disch := omega) only [ws, wl, wb] <;> omega) | omega) ?_ | refine jn (by first | with_reducible rfl | assumption | (simp (disch := omega) only [ws, wl, wb] <;> omega) | omega) ?_ | refine el ?_ | refine er ?_)
      rfl
    · rw [P_law10_SiteLogs_l0_eq]
      repeat (first | refine ip (by first | with_reducible rfl | assumption | (simp (disch := omega) only [ws, wl, wb] <;> omega) | omega) ?_ | refine jn (by first | with_reducible rfl | assumption | (simp (disch := omega) only [ws, wl, wb] <;> omega) | omega) ?_ | refine el ?_ | refine er ?_)
      rfl
  | succ d ih =>
    intro i v s hd hi hv I
    by_cases hlx : i < x1.length
    rotate_left
    · refine ⟨s, ?_, I.le hi⟩
      rw [P_law10_SiteLogs_l0_eq]
      repeat (first | refine ip (by first | with_reducible rfl | assumption | (simp (disch := omega) only [ws, wl, wb] <;> omega) | omega) ?_ | refine jn (by first | with_reducible rfl | assumption | (simp (disch := omega) only [ws, wl, wb] <;> omega) | omega) ?_ | refine el ?_ | refine er ?_)
      rfl
    have hr := hx.2 _ (List.getElem_mem hlx)
    have hgl := I.gl
    obtain ⟨q1, q2, q3⟩ := do_some I (by omega) hr
    obtain ⟨s', r1, r2⟩ := ih (i + 1) (iadd .i64 v 1) (doF s x1[i]).2.2 (by omega) (by omega) (by first | with_reducible rfl | assumption | (simp (disch := omega) only [ws, wl, wb] <;> omega) | omega) q2
    refine ⟨s', ?_, r2⟩
    rcases q3.log with ⟨he, hg⟩ | ⟨he, hg⟩
    · rw [P_law10_SiteLogs_l0_eq]
      repeat (first | refine ip (by first | with_reducible rfl | assumption | (simp (disch := omega) only [ws, wl, wb, List.length_append, List.length_cons, List.length_nil] <;> omega) | omega) ?_ | refine jn (by first | with_reducible rfl | assumption | (simp (disch := omega) only [ws, wl, wb, List.length_append, List.length_cons, List.length_nil] <;> omega) | omega) ?_ | refine (bnd (geti hv hlx)).trans ?_ | refine (bnd q1).trans ?_ | refine el ?_ | refine er ?_)
      rw [← hg]
      exact r1
    · rw [hg] at r1
      rw [P_law10_SiteLogs_l0_eq]
      repeat (first | refine ip (by first | with_reducible rfl | assumption | (simp (disch := omega) only [ws, wl, wb] <;> omega) | omega) ?_ | refine jn (by first | with_reducible rfl | assumption | (simp (disch := omega) only [ws, wl, wb] <;> omega) | omega) ?_ | refine (bnd (geti hv hlx)).trans ?_ | refine (bnd q1).trans ?_ | refine el ?_ | refine er ?_)
      rw [hg]
      exact r1
theorem clone_ok (l : List Rec) (h : l.length ≤ 1000000) : P_slices_Clone_32 l = some () := by
  rw [P_slices_Clone_32, P_slices_Clone_32_1001]
  repeat (first | refine ip (by first | with_reducible rfl | assumption | (simp (disch := omega) only [ws, wl, wb] <;> omega) | omega) ?_ | refine jn (by first | with_reducible rfl | assumption | (simp (disch := omega) only [ws, wl, wb] <;> omega) | omega) ?_ | refine el ?_ | refine er ?_)
  rfl
theorem log_ok {s : St} {n : Nat} (I : Inv s n) (hn : n ≤ 1000) : P_site_Site_Log s.L s.K s.M s.G = some () := by
  have := I.gl
  rw [P_site_Site_Log]
  repeat (first | refine ip (by first | with_reducible rfl | assumption | (simp (disch := omega) only [ws, wl, wb] <;> omega) | omega) ?_ | refine jn (by first | with_reducible rfl | assumption | (simp (disch := omega) only [ws, wl, wb] <;> omega) | omega) ?_ | refine (bnd (clone_ok s.G (by omega))).trans ?_ | refine el ?_ | refine er ?_)
  rfl
theorem logs_l1 {s : St} (hl : s.G.length ≤ 1000) : ∀ (d i : Nat) (v : Int), s.G.length - i = d → i ≤ s.G.length → v = (i : Int) → P_law10_SiteLogs_l1 (s.L, s.K, s.G, s.M, s.G) v = some (.inl ()) := by
  intro d
  induction d with
  | zero =>
    intro i v hd hi hv
    rw [P_law10_SiteLogs_l1_eq]
    repeat (first | refine ip (by first | with_reducible rfl | assumption | (simp (disch := omega) only [ws, wl, wb] <;> omega) | omega) ?_ | refine jn (by first | with_reducible rfl | assumption | (simp (disch := omega) only [ws, wl, wb] <;> omega) | omega) ?_ | refine el ?_ | refine er ?_)
    rfl
  | succ d ih =>
    intro i v hd hi hv
    have hlt : i < s.G.length := by omega
    rw [P_law10_SiteLogs_l1_eq]
    repeat (first | refine ip (by first | with_reducible rfl | assumption | (simp (disch := omega) only [ws, wl, wb] <;> omega) | omega) ?_ | refine jn (by first | with_reducible rfl | assumption | (simp (disch := omega) only [ws, wl, wb] <;> omega) | omega) ?_ | refine (bnd (geti hv hlt)).trans ?_ | refine el ?_ | refine er ?_)
    exact ih (i + 1) _ (by omega) (by omega) (by first | with_reducible rfl | assumption | (simp (disch := omega) only [ws, wl, wb] <;> omega) | omega)
theorem plain_logs (y0 : List Rec) (w0 : w_t22 y0) : P_law10_SiteLogs y0 = some true := by
  obtain ⟨s, h1, h2⟩ := logs_l0 (recs_of w0) _ 0 0 ⟨[], [], [], []⟩ rfl (by omega) rfl inv_nil
  have := h2.gl
  rw [P_law10_SiteLogs]
  repeat (first | refine ip (by first | with_reducible rfl | assumption | (simp (disch := omega) only [ws, wl, wb] <;> omega) | omega) ?_ | refine jn (by first | with_reducible rfl | assumption | (simp (disch := omega) only [ws, wl, wb] <;> omega) | omega) ?_ | refine (bnd alive_ok).trans ?_ | refine (bnd h1).trans ?_ | refine (bnd (log_ok h2 (by omega))).trans ?_ | refine (bnd (logs_l1 (by omega) _ 0 0 rfl (by omega) rfl)).trans ?_ | refine el ?_ | refine er ?_)
  rfl
end Go.Ws.L10
