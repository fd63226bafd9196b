/-
  SiteLogs, SiteOwn and SiteAlone, plainly.
  Conditions: none.
-/
import Derived.Test.YtipeekdnpocclaaZSiteInv
import Derived.Test.YtipeekdnpocclaaZSame
import Derived.Test.YtipeekdnpocclaaZWf
import Derived.KernelRfl
set_option linter.unusedVariables false
set_option linter.unusedSimpArgs false
namespace Go.Ws.L10
open L7 L8 L9
set_option linter.unusedVariables false
set_option linter.unusedSimpArgs false
set_option maxHeartbeats 1000000
theorem do_some {s:St} {n:Nat} (I:Inv s n) (hn:n≤999) {r:Rec} (hr:aGE r):dX r.1 r.2.1 r.2.2.1 r.2.2.2 s.L s.K s.M s.G=some ((doF s r).1,(doF s r).2.1,(doF s r).2.2.L,(doF s r).2.2.K,(doF s r).2.2.M,(doF s r).2.2.G)∧Inv (doF s r).2.2 (n+1)∧Step s r (doF s r) :=
 ⟨do_ok (I.wf (by omega)) hr,aL6 I hn hr,aJZ I (by omega) hr⟩
abbrev wW (l:List Rec):Prop:=l.length≤maxLen∧∀r∈l,aGE r
theorem recs_of {l:List Rec} (h:w_t22 l):wW l:=⟨h.1,fun r hr=>by
 obtain⟨_,_,h3,h4⟩:=h.2 r hr
 exact⟨h3,h4⟩⟩
theorem Step.log {s:St} {r:Rec} {q:Res} (h:Step s r q):(q.1=0∧q.2.2.G=s.G++[r])∨(q.1≠0∧q=(q.1,0,s)):=by
 cases h with
 | err r e he=>exact .inr ⟨he,rfl⟩
 | _=>exact .inl ⟨rfl,rfl⟩
theorem mJ (l:List Rec) (h:l.length≤1000000):zV l=some ():=by
 rw[zV,t9]
 repeat (first|refine ip0 ?_|refine jn0 ?_|refine el ?_|refine er ?_)
 rfl
end Go.Ws.L10
