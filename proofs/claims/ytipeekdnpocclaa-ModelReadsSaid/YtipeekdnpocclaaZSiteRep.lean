/-
  A site that is made again of its records, plainly; SiteAgain.
  Conditions: none.
-/
import Derived.Test.YtipeekdnpocclaaZSiteLaws
set_option linter.unusedVariables false
set_option linter.unusedSimpArgs false
namespace Go.Ws.L10
open L7 L8 L9
set_option linter.unusedVariables false
set_option linter.unusedSimpArgs false
set_option maxHeartbeats 1000000
noncomputable def okF:St→List Rec→Bool
 | _,[]=>true
 | s,r::l=>eqI (doF s r).1 0 && okF (doF s r).2.2 l
noncomputable def aCO:St→List Rec→St
 | s,[]=>s
 | s,r::l=>aCO (doF s r).2.2 l
theorem aVT:∀(l m:List Rec) (s:St),okF s (l++m)=(okF s l && okF (aCO s l) m)
 | [],m,s=>by simp [okF,aCO]
 | r::l,m,s=>by simp only[List.cons_append,okF,aCO];rw[aVT l m,Bool.and_assoc]
theorem aSM:∀(l m:List Rec) (s:St),aCO s (l++m)=aCO (aCO s l) m
 | [],m,s=>by simp [aCO]
 | r::l,m,s=>by simp only[List.cons_append,aCO];exact aSM l m _
def tupS (s:St):Dl × List Ho × List (Int × Pt) × List Rec:=(s.L,s.K,s.M,s.G)
theorem aW9 {x1:List Rec} (hx:wW x1) (hl:x1.length≤400):∀(d i:Nat) (v:Int) (s:St),x1.length - i=d→i≤x1.length→v=(i:Int)→Inv s i →
 (okF s (x1.drop i)=true→l6 x1 v s.L s.K s.M s.G=some (.inl (tupS (aCO s (x1.drop i)))))∧(okF s (x1.drop i)=false→l6 x1 v s.L s.K s.M s.G=some (.inr (.inr ()))):=by
 intro d
 induction d with
 | zero =>
  intro i v s hd hi hv I
  rw[List.drop_of_length_le (by omega)]
  refine⟨fun _=>?_,fun h=>by cases h⟩
  rw[xD]
  repeat (first|refine ip0 ?_|refine jn0 ?_|refine el ?_|refine er ?_)
  rfl
 | succ d ih =>
  intro i v s hd hi hv I
  have hlt:i<x1.length:=by omega
  have hr:=hx.2 _ (List.getElem_mem hlt)
  obtain⟨q1,q2,_⟩:=do_some I (by omega) hr
  obtain⟨r1,r2⟩:=ih (i+1) (aL .i64 v 1) (doF s x1[i]).2.2 (by omega) (by omega) sd q2
  rw[List.drop_eq_getElem_cons hlt]
  simp only[okF,aCO]
  generalize doF s x1[i]=q at q1 q2 r1 r2
  rw[xD]
  by_cases h0:q.1=0
  · have e:eqI q.1 0=true:=cA.2 h0
    rw[e,Bool.true_and]
    refine⟨fun h=>?_,fun h=>?_⟩
    · repeat (first|refine ip0 ?_|refine jn0 ?_|refine(bnd (cU hv hlt)).trans ?_|refine(bnd q1).trans ?_|refine el ?_|refine er ?_)
      exact r1 h
    · repeat (first|refine ip0 ?_|refine jn0 ?_|refine(bnd (cU hv hlt)).trans ?_|refine(bnd q1).trans ?_|refine el ?_|refine er ?_)
      exact r2 h
  · have e:eqI q.1 0=false:=eqf fun h=>h0 (cA.1 h)
    rw[e,Bool.false_and]
    refine⟨fun h=>(by cases h),fun h=>?_⟩
    repeat (first|refine ip0 ?_|refine jn0 ?_|refine(bnd (cU hv hlt)).trans ?_|refine(bnd q1).trans ?_|refine el ?_|refine er ?_)
    rfl
theorem aX9 {x1:List Rec} (hx:wW x1) (hl:x1.length≤400) :
 (okF ⟨[],[],[],[]⟩ x1=true→nO x1=some (.inl (tupS (aCO ⟨[],[],[],[]⟩ x1))))∧(okF ⟨[],[],[],[]⟩ x1=false→nO x1=some (.inr ())):=by
 have h:=aW9 hx hl _ 0 0 ⟨[],[],[],[]⟩ rfl (by omega) rfl aKK
 rw[List.drop_zero] at h
 refine⟨fun e=>?_,fun e=>?_⟩
 · rw[nO]
   exact(bnd (h.1 e)).trans rfl
 · rw[nO]
   exact(bnd (h.2 e)).trans rfl
structure Rp (s:St):Prop where
 ok:okF ⟨[],[],[],[]⟩ s.G=true
 run:aCO ⟨[],[],[],[]⟩ s.G=s
 recs:∀r∈s.G,aGE r
theorem Rp.step {s:St} {r:Rec} (h:Rp s) (hr:aGE r) (hs:Step s r (doF s r)):Rp (doF s r).2.2:=by
 rcases hs.log with⟨he,hg⟩ | ⟨_,hq⟩
 · refine⟨?_,?_,?_⟩
   · rw[hg,aVT,h.ok,h.run]
     simp only[okF]
     rw[cA.2 he];rfl
   · rw[hg,aSM,h.run];rfl
   · rw[hg]
     intro x hx
     rcases List.mem_append.1 hx with hx | hx
     · exact h.recs x hx
     · rcases List.mem_singleton.1 hx with rfl;exact hr
 · rw[hq];exact h
end Go.Ws.L10
