/-
  SiteLogs, SiteOwn and SiteAlone, plainly.
  Conditions: none.
-/
import Derived.Test.YtojldadifhneeaaZSiteInv
import Derived.Test.YtojldadifhneeaaZSame
import Derived.Test.YtojldadifhneeaaZWf
import Derived.KernelRfl
set_option linter.unusedVariables false
set_option linter.unusedSimpArgs false
namespace Go.Ws.L10
open L7 L8 L9
set_option linter.unusedVariables false
set_option linter.unusedSimpArgs false
set_option maxHeartbeats 1000000
theorem alive_ok:uE=some true:=aB9.le 80 true (by kernel_rfl)
theorem do_some {s:St} {n:Nat} (I:Inv s n) (hn:n≤999) {r:Rec} (hr:aKQ r):dK r.1 r.2.1 r.2.2.1 r.2.2.2 s.L s.K s.M s.G=some ((doF s r).1,(doF s r).2.1,(doF s r).2.2.L,(doF s r).2.2.K,(doF s r).2.2.M,(doF s r).2.2.G)∧Inv (doF s r).2.2 (n+1)∧Step s r (doF s r) :=
 ⟨do_ok (I.wf (by omega)) hr,inv_step I hn hr,aRW I (by omega) hr⟩
abbrev RecsOk (l:List Rec):Prop:=l.length≤maxLen∧∀r∈l,aKQ r
theorem recs_of {l:List Rec} (h:w_t22 l):RecsOk l:=⟨h.1,fun r hr=>by
 obtain⟨_,_,h3,h4⟩:=h.2 r hr
 exact⟨h3,h4⟩⟩
theorem jR (l:List Rec) (h:l.length≤1000000):jE l=some ():=by
 rw[jE,kW]
 repeat (first|refine ip (by first|with_reducible rfl | assumption | (simp (disch:=omega) only[ws,wl,wb]<;>omega)|omega) ?_|refine jn (by first|with_reducible rfl | assumption | (simp (disch:=omega) only[ws,wl,wb]<;>omega)|omega) ?_|refine el ?_|refine er ?_)
 rfl
theorem log_ok {s:St} {n:Nat} (I:Inv s n) (hn:n≤1000):mC s.L s.K s.M s.G=some ():=by
 have:=I.gl
 rw[mC]
 repeat (first|refine ip (by first|with_reducible rfl | assumption | (simp (disch:=omega) only[ws,wl,wb]<;>omega)|omega) ?_|refine jn (by first|with_reducible rfl | assumption | (simp (disch:=omega) only[ws,wl,wb]<;>omega)|omega) ?_|refine(bnd (jR s.G (by omega))).trans ?_|refine el ?_|refine er ?_)
 rfl
theorem aSR {s:St} {n:Nat} (I:Inv s n) (t:Int):jX t s.L s.K s.M s.G=some (match eJ s.M t with | some p=>(p.1,p.2.2.1,p.2.2.2,p.2.1,true) | none=>(0,false,0,[],false)):=by
 rw[jX]
 cases hg:eJ s.M t with
 | none =>
  have hh:¬xD s.M t=true:=by rw[has_f hg];simp
  repeat (first|refine ip (by first|with_reducible rfl | assumption | (simp (disch:=omega) only[ws,wl,wb]<;>omega)|omega) ?_|refine jn (by first|with_reducible rfl | assumption | (simp (disch:=omega) only[ws,wl,wb]<;>omega)|omega) ?_|refine(bnd (L9.jR [] (by simp))).trans ?_|refine el ?_|refine er ?_)
  rfl
 | some p =>
  have hh:=has_t hg
  have:=(I.pt t p hg).1.1.2.1
  repeat (first|refine ip (by first|with_reducible rfl | assumption | (simp (disch:=omega) only[ws,wl,wb]<;>omega)|omega) ?_|refine jn (by first|with_reducible rfl | assumption | (simp (disch:=omega) only[ws,wl,wb]<;>omega)|omega) ?_|refine(bnd hg).trans ?_|refine(bnd (L9.jR p.2.1 (by omega))).trans ?_|refine el ?_|refine er ?_)
  rfl
end Go.Ws.L10
