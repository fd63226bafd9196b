/-
  A site that is made again of its records, plainly; SiteAgain.
  Conditions: none.
-/
import Derived.Test.YtpaekffehfdmgaaGreatDoorZSiteLaws
set_option linter.unusedVariables false
set_option linter.unusedSimpArgs false
namespace Go.Ws.L10
open L7 L8 L9
set_option linter.unusedVariables false
set_option linter.unusedSimpArgs false
set_option maxHeartbeats 1000000
noncomputable def okF:St→List Rec→Bool
 | _,[]=>true
 | s,r::l=>eqI (doF s r).1 0 && okF (doF s r).2.2 l
noncomputable def aAF:St→List Rec→St
 | s,[]=>s
 | s,r::l=>aAF (doF s r).2.2 l
theorem aNH:∀(l m:List Rec) (s:St),okF s (l++m)=(okF s l && okF (aAF s l) m)
 | [],m,s=>by simp [okF,aAF]
 | r::l,m,s=>by simp only[List.cons_append,okF,aAF];rw[aNH l m,Bool.and_assoc]
theorem aP7:∀(l m:List Rec) (s:St),aAF s (l++m)=aAF (aAF s l) m
 | [],m,s=>by simp [aAF]
 | r::l,m,s=>by simp only[List.cons_append,aAF];exact aP7 l m _
def aAV (s:St):Dl × List Ho × List (Int × Pt) × List Rec:=(s.L,s.K,s.M,s.G)
theorem aVC {x1:List Rec} (hx:RecsOk x1) (hl:x1.length≤120):∀(d i:Nat) (v:Int) (s:St),x1.length - i=d→i≤x1.length→v=(i:Int)→Inv s i →
 (okF s (x1.drop i)=true→kC x1 v s.L s.K s.M s.G=some (.inl (aAV (aAF s (x1.drop i)))))∧(okF s (x1.drop i)=false→kC x1 v s.L s.K s.M s.G=some (.inr (.inr ()))):=by
 intro d
 induction d with
 | zero =>
  intro i v s hd hi hv I
  rw[List.drop_of_length_le (by omega)]
  refine⟨fun _=>?_,fun h=>by cases h⟩
  rw[vK]
  repeat (first|refine ip0 ?_|refine jn0 ?_|refine el ?_|refine er ?_)
  rfl
 | succ d ih =>
  intro i v s hd hi hv I
  have hlt:i<x1.length:=by omega
  have hr:=hx.2 _ (List.getElem_mem hlt)
  obtain⟨q1,q2,_⟩:=aTE I (by omega) hr
  obtain⟨r1,r2⟩:=ih (i+1) (aH .i64 v 1) (doF s x1[i]).2.2 (by omega) (by omega) sd q2
  rw[List.drop_eq_getElem_cons hlt]
  simp only[okF,aAF]
  generalize doF s x1[i]=q at q1 q2 r1 r2
  rw[vK]
  by_cases h0:q.1=0
  · have e:eqI q.1 0=true:=jK.2 h0
    rw[e,Bool.true_and]
    refine⟨fun h=>?_,fun h=>?_⟩
    · repeat (first|refine ip0 ?_|refine jn0 ?_|refine(bnd (kG hv hlt)).trans ?_|refine(bnd q1).trans ?_|refine el ?_|refine er ?_)
      exact r1 h
    · repeat (first|refine ip0 ?_|refine jn0 ?_|refine(bnd (kG hv hlt)).trans ?_|refine(bnd q1).trans ?_|refine el ?_|refine er ?_)
      exact r2 h
  · have e:eqI q.1 0=false:=eqf fun h=>h0 (jK.1 h)
    rw[e,Bool.false_and]
    refine⟨fun h=>(by cases h),fun h=>?_⟩
    repeat (first|refine ip0 ?_|refine jn0 ?_|refine(bnd (kG hv hlt)).trans ?_|refine(bnd q1).trans ?_|refine el ?_|refine er ?_)
    rfl
theorem aUT {x1:List Rec} (hx:RecsOk x1) (hl:x1.length≤120) :
 (okF ⟨[],[],[],[]⟩ x1=true→gW x1=some (.inl (aAV (aAF ⟨[],[],[],[]⟩ x1))))∧(okF ⟨[],[],[],[]⟩ x1=false→gW x1=some (.inr ())):=by
 have h:=aVC hx hl _ 0 0 ⟨[],[],[],[]⟩ rfl (by omega) rfl aPA
 rw[List.drop_zero] at h
 refine⟨fun e=>?_,fun e=>?_⟩
 · rw[gW]
   exact(bnd (h.1 e)).trans rfl
 · rw[gW]
   exact(bnd (h.2 e)).trans rfl
structure Rp (s:St):Prop where
 ok:okF ⟨[],[],[],[]⟩ s.G=true
 run:aAF ⟨[],[],[],[]⟩ s.G=s
 recs:∀r∈s.G,aD4 r
theorem rp_nil:Rp ⟨[],[],[],[]⟩:=⟨rfl,rfl,fun _ h=>(by cases h)⟩
theorem Rp.step {s:St} {r:Rec} (h:Rp s) (hr:aD4 r) (hs:Step s r (doF s r)):Rp (doF s r).2.2:=by
 rcases hs.log with⟨he,hg⟩ | ⟨_,hq⟩
 · refine⟨?_,?_,?_⟩
   · rw[hg,aNH,h.ok,h.run]
     simp only[okF]
     rw[jK.2 he];rfl
   · rw[hg,aP7,h.run];rfl
   · rw[hg]
     intro x hx
     rcases List.mem_append.1 hx with hx | hx
     · exact h.recs x hx
     · rcases List.mem_singleton.1 hx with rfl;exact hr
 · rw[hq];exact h
end Go.Ws.L10
