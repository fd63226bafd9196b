/-
  SiteLogs, SiteOwn and SiteAlone, plainly.
  Conditions: none.
-/
import Derived.Test.YtipeekdnpocclaaZSiteInv
import Derived.Test.YtipeekdnpocclaaZSame
import Derived.Test.YtipeekdnpocclaaZWf
import Derived.KernelRfl
set_option linter.unusedVariables false
set_option linter.unusedSimpArgs false
namespace Go.Ws.L10
open L7 L8 L9
set_option linter.unusedVariables false
set_option linter.unusedSimpArgs false
set_option maxHeartbeats 1000000
theorem aK1 {s:St} {n:Nat} (I:Inv s n) (hn:n≤999) {r:Rec} (hr:aCA r):cA r.1 r.2.1 r.2.2.1 r.2.2.2 s.L s.K s.M s.G=some ((doF s r).1,(doF s r).2.1,(doF s r).2.2.L,(doF s r).2.2.K,(doF s r).2.2.M,(doF s r).2.2.G)∧Inv (doF s r).2.2 (n+1)∧Step s r (doF s r) :=
 ⟨do_ok (I.wf (by omega)) hr,inv_step I hn hr,aOO I (by omega) hr⟩
abbrev xZ (l:List Rec):Prop:=l.length≤maxLen∧∀r∈l,aCA r
theorem recs_of {l:List Rec} (h:w_t22 l):xZ l:=⟨h.1,fun r hr=>by
 obtain⟨_,_,h3,h4⟩:=h.2 r hr
 exact⟨h3,h4⟩⟩
theorem Step.log {s:St} {r:Rec} {q:Res} (h:Step s r q):(q.1=0∧q.2.2.G=s.G++[r])∨(q.1≠0∧q=(q.1,0,s)):=by
 cases h with
 | err r e he=>exact .inr ⟨he,rfl⟩
 | _=>exact .inl ⟨rfl,rfl⟩
theorem hZ (l:List Rec) (h:l.length≤1000000):jI l=some ():=by
 rw[jI,jX]
 repeat (first|refine ip0 ?_|refine jn0 ?_|refine el ?_|refine er ?_)
 rfl
theorem log_ok {s:St} {n:Nat} (I:Inv s n) (hn:n≤1000):mW s.L s.K s.M s.G=some ():=by
 have:=I.gl
 rw[mW]
 repeat (first|refine ip0 ?_|refine jn0 ?_|refine(bnd (hZ s.G (by omega))).trans ?_|refine el ?_|refine er ?_)
 rfl
theorem recOk {a t k n:Int} (hk:0≤k∧k≤255) (hn:InR n):aCA (a,t,k,n):=⟨hk,hn⟩
theorem part_ok {s:St} {n:Nat} (I:Inv s n) (t:Int):l6 t s.L s.K s.M s.G=some (match bC s.M t with | some p=>(p.1,p.2.2.1,p.2.2.2,p.2.1,true) | none=>(0,false,0,[],false)):=by
 rw[l6]
 cases hg:bC s.M t with
 | none =>
  have hh:¬k9 s.M t=true:=by rw[has_f hg];simp
  repeat (first|refine ip0 ?_|refine jn0 ?_|refine(bnd (L9.hZ [] (by simp))).trans ?_|refine el ?_|refine er ?_)
  rfl
 | some p =>
  have hh:=aLY hg
  have:=(I.pt t p hg).1.1.2.1
  repeat (first|refine ip0 ?_|refine jn0 ?_|refine(bnd hg).trans ?_|refine(bnd (L9.hZ p.2.1 (by omega))).trans ?_|refine el ?_|refine er ?_)
  rfl
end Go.Ws.L10
