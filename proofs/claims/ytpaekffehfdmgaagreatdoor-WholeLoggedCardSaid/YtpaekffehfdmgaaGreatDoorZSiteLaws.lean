/-
  SiteLogs, SiteOwn and SiteAlone, plainly.
  Conditions: none.
-/
import Derived.Test.YtpaekffehfdmgaaGreatDoorZSiteInv
import Derived.KernelRfl
set_option linter.unusedVariables false
set_option linter.unusedSimpArgs false
namespace Go.Ws.L10
open L7 L8 L9
set_option linter.unusedVariables false
set_option linter.unusedSimpArgs false
set_option maxHeartbeats 1000000
theorem aTE {s:St} {n:Nat} (I:Inv s n) (hn:n≤999) {r:Rec} (hr:aD4 r):bR r.1 r.2.1 r.2.2.1 r.2.2.2 s.L s.K s.M s.G=some ((doF s r).1,(doF s r).2.1,(doF s r).2.2.L,(doF s r).2.2.K,(doF s r).2.2.M,(doF s r).2.2.G)∧Inv (doF s r).2.2 (n+1)∧Step s r (doF s r) :=
 ⟨do_ok (I.wf (by omega)) hr,aPS I hn hr,aOA I (by omega) hr⟩
abbrev RecsOk (l:List Rec):Prop:=l.length≤maxLen∧∀r∈l,aD4 r
theorem Step.log {s:St} {r:Rec} {q:Res} (h:Step s r q):(q.1=0∧q.2.2.G=s.G++[r])∨(q.1≠0∧q=(q.1,0,s)):=by
 cases h with
 | err r e he=>exact .inr ⟨he,rfl⟩
 | _=>exact .inl ⟨rfl,rfl⟩
theorem gN (l:List Rec) (h:l.length≤1000000):jJ l=some ():=by
 rw[jJ,j5]
 repeat (first|refine ip0 ?_|refine jn0 ?_)
 rfl
theorem log_ok {s:St} {n:Nat} (I:Inv s n) (hn:n≤1000):jP s.L s.K s.M s.G=some ():=by
 have:=I.gl
 rw[jP]
 repeat (first|refine ip0 ?_|refine jn0 ?_|refine(bnd (gN s.G (by omega))).trans ?_)
 rfl
end Go.Ws.L10
