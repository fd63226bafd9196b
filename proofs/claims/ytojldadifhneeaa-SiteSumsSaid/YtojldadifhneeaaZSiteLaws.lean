/-
  SiteLogs, SiteOwn and SiteAlone, plainly.
  Conditions: none.
-/
import Derived.Test.YtojldadifhneeaaZSiteInv
import Derived.Test.YtojldadifhneeaaZSame
import Derived.Test.YtojldadifhneeaaZWf
import Derived.KernelRfl
set_option linter.unusedVariables false
set_option linter.unusedSimpArgs false
namespace Go.Ws.L10
open L7 L8 L9
set_option linter.unusedVariables false
set_option linter.unusedSimpArgs false
set_option maxHeartbeats 1000000
theorem alive_ok:P_law10_alive=some true:=lm_law10_alive.le 80 true (by kernel_rfl)
theorem do_some {s:St} {n:Nat} (I:Inv s n) (hn:n≤999) {r:Rec} (hr:RecOk r):P_site_Site_Do_3 r.1 r.2.1 r.2.2.1 r.2.2.2 s.L s.K s.M s.G=some ((doF s r).1,(doF s r).2.1,(doF s r).2.2.L,(doF s r).2.2.K,(doF s r).2.2.M,(doF s r).2.2.G)∧Inv (doF s r).2.2 (n + 1)∧Step s r (doF s r) :=
  ⟨do_ok (I.wf (by omega)) hr,inv_step I hn hr,do_step I (by omega) hr⟩
abbrev RecsOk (l:List Rec):Prop:=l.length≤maxLen∧∀ r ∈ l,RecOk r
theorem recs_of {l:List Rec} (h:w_t22 l):RecsOk l:=⟨h.1,fun r hr=>by
  obtain ⟨_,_,h3,h4⟩:=h.2 r hr
  exact ⟨h3,h4⟩⟩
theorem played_l0 {x1:List Rec} (hx:RecsOk x1):∀ (d i:Nat) (v:Int) (s:St),120 - i=d→i≤120→v=(i:Int)→Inv s i→∃ s',P_law10_played_l0 x1 v s.L s.K s.M s.G=some (s'.L,s'.K,s'.M,s'.G)∧Inv s' 120:=by
  have hml:=hx.1
  unfold maxLen at hml
  intro d
  induction d with
  | zero =>
    intro i v s hd hi hv I
    refine ⟨s,?_,I.le hi⟩
    by_cases hlx:i<x1.length
    · rw [P_law10_played_l0_eq]
      repeat (first | refine ip (by first | with_reducible rfl | assumption | (simp (disch:=omega) only [ws,wl,wb] <;> omega) | omega) ?_ | refine jn (by first | with_reducible rfl | assumption | (simp (disch:=omega) only [ws,wl,wb] <;> omega) | omega) ?_ | refine el ?_ | refine er ?_)
      rfl
    · rw [P_law10_played_l0_eq]
      repeat (first | refine ip (by first | with_reducible rfl | assumption | (simp (disch:=omega) only [ws,wl,wb] <;> omega) | omega) ?_ | refine jn (by first | with_reducible rfl | assumption | (simp (disch:=omega) only [ws,wl,wb] <;> omega) | omega) ?_ | refine el ?_ | refine er ?_)
      rfl
  | succ d ih =>
    intro i v s hd hi hv I
    by_cases hlx:i<x1.length
    rotate_left
    · refine ⟨s,?_,I.le hi⟩
      rw [P_law10_played_l0_eq]
      repeat (first | refine ip (by first | with_reducible rfl | assumption | (simp (disch:=omega) only [ws,wl,wb] <;> omega) | omega) ?_ | refine jn (by first | with_reducible rfl | assumption | (simp (disch:=omega) only [ws,wl,wb] <;> omega) | omega) ?_ | refine el ?_ | refine er ?_)
      rfl
    have hr:=hx.2 _ (List.getElem_mem hlx)
    obtain ⟨q1,q2,_⟩:=do_some I (by omega) hr
    obtain ⟨s',r1,r2⟩:=ih (i + 1) (iadd .i64 v 1) (doF s x1[i]).2.2 (by omega) (by omega) (by first | with_reducible rfl | assumption | (simp (disch:=omega) only [ws,wl,wb] <;> omega) | omega) q2
    refine ⟨s',?_,r2⟩
    rw [P_law10_played_l0_eq]
    repeat (first | refine ip (by first | with_reducible rfl | assumption | (simp (disch:=omega) only [ws,wl,wb] <;> omega) | omega) ?_ | refine jn (by first | with_reducible rfl | assumption | (simp (disch:=omega) only [ws,wl,wb] <;> omega) | omega) ?_ | refine (bnd (geti hv hlx)).trans ?_ | refine (bnd q1).trans ?_ | refine el ?_ | refine er ?_)
    exact r1
theorem played_ok {x1:List Rec} (hx:RecsOk x1):∃ s,P_law10_played x1=some (s.L,s.K,s.M,s.G)∧Inv s 120:=by
  obtain ⟨s,h1,h2⟩:=played_l0 hx _ 0 0 ⟨[],[],[],[]⟩ rfl (by omega) rfl inv_nil
  refine ⟨s,?_,h2⟩
  rw [P_law10_played]
  repeat (first | refine ip (by first | with_reducible rfl | assumption | (simp (disch:=omega) only [ws,wl,wb] <;> omega) | omega) ?_ | refine jn (by first | with_reducible rfl | assumption | (simp (disch:=omega) only [ws,wl,wb] <;> omega) | omega) ?_ | refine (bnd h1).trans ?_ | refine el ?_ | refine er ?_)
  rfl
theorem clone_ok (l:List Rec) (h:l.length≤1000000):P_slices_Clone_32 l=some ():=by
  rw [P_slices_Clone_32,P_slices_Clone_32_1001]
  repeat (first | refine ip (by first | with_reducible rfl | assumption | (simp (disch:=omega) only [ws,wl,wb] <;> omega) | omega) ?_ | refine jn (by first | with_reducible rfl | assumption | (simp (disch:=omega) only [ws,wl,wb] <;> omega) | omega) ?_ | refine el ?_ | refine er ?_)
  rfl
theorem part_ok {s:St} {n:Nat} (I:Inv s n) (t:Int):P_site_Site_Part t s.L s.K s.M s.G=some (match mGet s.M t with | some p=>(p.1,p.2.2.1,p.2.2.2,p.2.1,true) | none=>(0,false,0,[],false)):=by
  rw [P_site_Site_Part]
  cases hg:mGet s.M t with
  | none =>
    have hh:¬ mHas s.M t=true:=by rw [has_f hg]; simp
    repeat (first | refine ip (by first | with_reducible rfl | assumption | (simp (disch:=omega) only [ws,wl,wb] <;> omega) | omega) ?_ | refine jn (by first | with_reducible rfl | assumption | (simp (disch:=omega) only [ws,wl,wb] <;> omega) | omega) ?_ | refine (bnd (L9.clone_ok [] (by simp))).trans ?_ | refine el ?_ | refine er ?_)
    rfl
  | some p =>
    have hh:=has_t hg
    have:=(I.pt t p hg).1.1.2.1
    repeat (first | refine ip (by first | with_reducible rfl | assumption | (simp (disch:=omega) only [ws,wl,wb] <;> omega) | omega) ?_ | refine jn (by first | with_reducible rfl | assumption | (simp (disch:=omega) only [ws,wl,wb] <;> omega) | omega) ?_ | refine (bnd hg).trans ?_ | refine (bnd (L9.clone_ok p.2.1 (by omega))).trans ?_ | refine el ?_ | refine er ?_)
    rfl
end Go.Ws.L10
