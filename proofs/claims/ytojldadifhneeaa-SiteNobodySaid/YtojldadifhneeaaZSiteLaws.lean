/-
  SiteLogs, SiteOwn and SiteAlone, plainly.
  Conditions: none.
-/
import Derived.Test.YtojldadifhneeaaZSiteInv
import Derived.Test.YtojldadifhneeaaZSame
import Derived.Test.YtojldadifhneeaaZWf
import Derived.KernelRfl
set_option linter.unusedVariables false
set_option linter.unusedSimpArgs false
namespace Go.Ws.L10
open L7 L8 L9
set_option linter.unusedVariables false
set_option linter.unusedSimpArgs false
set_option maxHeartbeats 1000000
theorem aKG:r9=some true:=xP.le 80 true (by kernel_rfl)
theorem aEC {s:St} {n:Nat} (I:Inv s n) (hn:n≤999) {r:Rec} (hr:aGJ r):bM r.1 r.2.1 r.2.2.1 r.2.2.2 s.L s.K s.M s.G=some ((doF s r).1,(doF s r).2.1,(doF s r).2.2.L,(doF s r).2.2.K,(doF s r).2.2.M,(doF s r).2.2.G)∧Inv (doF s r).2.2 (n+1)∧Step s r (doF s r) :=
 ⟨do_ok (I.wf (by omega)) hr,inv_step I hn hr,aMJ I (by omega) hr⟩
abbrev aLP (l:List Rec):Prop:=l.length≤maxLen∧∀r∈l,aGJ r
theorem recs_of {l:List Rec} (h:w_t22 l):aLP l:=⟨h.1,fun r hr=>by
 obtain⟨_,_,h3,h4⟩:=h.2 r hr
 exact⟨h3,h4⟩⟩
theorem aNS {x1:List Rec} (hx:aLP x1):∀(d i:Nat) (v:Int) (s:St),120 - i=d→i≤120→v=(i:Int)→Inv s i→∃s',lA x1 v s.L s.K s.M s.G=some (s'.L,s'.K,s'.M,s'.G)∧Inv s' 120:=by
 have hml:=hx.1
 unfold maxLen at hml
 intro d
 induction d with
 | zero =>
  intro i v s hd hi hv I
  refine⟨s,?_,I.le hi⟩
  by_cases hlx:i<x1.length
  · rw[k8]
    repeat (first|refine ip (by first|with_reducible rfl | assumption | (simp (disch:=omega) only[ws,wl,wb]<;>omega)|omega) ?_|refine jn (by first|with_reducible rfl | assumption | (simp (disch:=omega) only[ws,wl,wb]<;>omega)|omega) ?_|refine el ?_|refine er ?_)
    rfl
  · rw[k8]
    repeat (first|refine ip (by first|with_reducible rfl | assumption | (simp (disch:=omega) only[ws,wl,wb]<;>omega)|omega) ?_|refine jn (by first|with_reducible rfl | assumption | (simp (disch:=omega) only[ws,wl,wb]<;>omega)|omega) ?_|refine el ?_|refine er ?_)
    rfl
 | succ d ih =>
  intro i v s hd hi hv I
  by_cases hlx:i<x1.length
  rotate_left
  · refine⟨s,?_,I.le hi⟩
    rw[k8]
    repeat (first|refine ip (by first|with_reducible rfl | assumption | (simp (disch:=omega) only[ws,wl,wb]<;>omega)|omega) ?_|refine jn (by first|with_reducible rfl | assumption | (simp (disch:=omega) only[ws,wl,wb]<;>omega)|omega) ?_|refine el ?_|refine er ?_)
    rfl
  have hr:=hx.2 _ (List.getElem_mem hlx)
  obtain⟨q1,q2,_⟩:=aEC I (by omega) hr
  obtain⟨s',r1,r2⟩:=ih (i+1) (aI .i64 v 1) (doF s x1[i]).2.2 (by omega) (by omega) (by first|with_reducible rfl | assumption | (simp (disch:=omega) only[ws,wl,wb]<;>omega)|omega) q2
  refine⟨s',?_,r2⟩
  rw[k8]
  repeat (first|refine ip (by first|with_reducible rfl | assumption | (simp (disch:=omega) only[ws,wl,wb]<;>omega)|omega) ?_|refine jn (by first|with_reducible rfl | assumption | (simp (disch:=omega) only[ws,wl,wb]<;>omega)|omega) ?_|refine(bnd (fZ hv hlx)).trans ?_|refine(bnd q1).trans ?_|refine el ?_|refine er ?_)
  exact r1
theorem aNW {x1:List Rec} (hx:aLP x1):∃s,mE x1=some (s.L,s.K,s.M,s.G)∧Inv s 120:=by
 obtain⟨s,h1,h2⟩:=aNS hx _ 0 0 ⟨[],[],[],[]⟩ rfl (by omega) rfl inv_nil
 refine⟨s,?_,h2⟩
 rw[mE]
 repeat (first|refine ip (by first|with_reducible rfl | assumption | (simp (disch:=omega) only[ws,wl,wb]<;>omega)|omega) ?_|refine jn (by first|with_reducible rfl | assumption | (simp (disch:=omega) only[ws,wl,wb]<;>omega)|omega) ?_|refine(bnd h1).trans ?_|refine el ?_|refine er ?_)
 rfl
theorem Step.log {s:St} {r:Rec} {q:Res} (h:Step s r q):(q.1=0∧q.2.2.G=s.G++[r])∨(q.1≠0∧q=(q.1,0,s)):=by
 cases h with
 | err r e he=>exact .inr ⟨he,rfl⟩
 | _=>exact .inl ⟨rfl,rfl⟩
theorem jM (l:List Rec) (h:l.length≤1000000):lB l=some ():=by
 rw[lB,jS]
 repeat (first|refine ip (by first|with_reducible rfl | assumption | (simp (disch:=omega) only[ws,wl,wb]<;>omega)|omega) ?_|refine jn (by first|with_reducible rfl | assumption | (simp (disch:=omega) only[ws,wl,wb]<;>omega)|omega) ?_|refine el ?_|refine er ?_)
 rfl
theorem log_ok {s:St} {n:Nat} (I:Inv s n) (hn:n≤1000):jI s.L s.K s.M s.G=some ():=by
 have:=I.gl
 rw[jI]
 repeat (first|refine ip (by first|with_reducible rfl | assumption | (simp (disch:=omega) only[ws,wl,wb]<;>omega)|omega) ?_|refine jn (by first|with_reducible rfl | assumption | (simp (disch:=omega) only[ws,wl,wb]<;>omega)|omega) ?_|refine(bnd (jM s.G (by omega))).trans ?_|refine el ?_|refine er ?_)
 rfl
theorem Step.bad {s:St} {r:Rec} {q:Res} (h:Step s r q) (hq:q.1≠0):q=(q.1,0,s):=by
 rcases h.log with⟨h,_⟩ | ⟨_,h⟩
 · exact absurd h hq
 · exact h
theorem recOk {a t k n:Int} (hk:0≤k∧k≤255) (hn:InR n):aGJ (a,t,k,n):=⟨hk,hn⟩
end Go.Ws.L10
