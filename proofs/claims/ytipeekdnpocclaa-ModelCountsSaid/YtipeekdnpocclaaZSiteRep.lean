/-
  A site that is made again of its records, plainly; SiteAgain.
  Conditions: none.
-/
import Derived.Test.YtipeekdnpocclaaZSiteLaws
set_option linter.unusedVariables false
set_option linter.unusedSimpArgs false
namespace Go.Ws.L10
open L7 L8 L9
set_option linter.unusedVariables false
set_option linter.unusedSimpArgs false
set_option maxHeartbeats 1000000
noncomputable def okF:St→List Rec→Bool
 | _,[]=>true
 | s,r::l=>eqI (doF s r).1 0 && okF (doF s r).2.2 l
noncomputable def aCZ:St→List Rec→St
 | s,[]=>s
 | s,r::l=>aCZ (doF s r).2.2 l
theorem aMU:∀(l m:List Rec) (s:St),okF s (l++m)=(okF s l && okF (aCZ s l) m)
 | [],m,s=>by simp [okF,aCZ]
 | r::l,m,s=>by simp only[List.cons_append,okF,aCZ];rw[aMU l m,Bool.and_assoc]
theorem aJE:∀(l m:List Rec) (s:St),aCZ s (l++m)=aCZ (aCZ s l) m
 | [],m,s=>by simp [aCZ]
 | r::l,m,s=>by simp only[List.cons_append,aCZ];exact aJE l m _
def tupS (s:St):Dl × List Ho × List (Int × Pt) × List Rec:=(s.L,s.K,s.M,s.G)
theorem aOK {x1:List Rec} (hx:wB x1) (hl:x1.length≤400):∀(d i:Nat) (v:Int) (s:St),x1.length - i=d→i≤x1.length→v=(i:Int)→Inv s i →
 (okF s (x1.drop i)=true→kC x1 v s.L s.K s.M s.G=some (.inl (tupS (aCZ s (x1.drop i)))))∧(okF s (x1.drop i)=false→kC x1 v s.L s.K s.M s.G=some (.inr (.inr ()))):=by
 intro d
 induction d with
 | zero =>
  intro i v s hd hi hv I
  rw[List.drop_of_length_le (by omega)]
  refine⟨fun _=>?_,fun h=>by cases h⟩
  rw[sL]
  repeat (first|refine ip (by first|with_reducible rfl | assumption | (simp (disch:=omega) only[ws,wl,wb]<;>omega)|omega) ?_|refine jn (by first|with_reducible rfl | assumption | (simp (disch:=omega) only[ws,wl,wb]<;>omega)|omega) ?_|refine el ?_|refine er ?_)
  rfl
 | succ d ih =>
  intro i v s hd hi hv I
  have hlt:i<x1.length:=by omega
  have hr:=hx.2 _ (List.getElem_mem hlt)
  obtain⟨q1,q2,_⟩:=aMZ I (by omega) hr
  obtain⟨r1,r2⟩:=ih (i+1) (aM .i64 v 1) (doF s x1[i]).2.2 (by omega) (by omega) (by first|with_reducible rfl | assumption | (simp (disch:=omega) only[ws,wl,wb]<;>omega)|omega) q2
  rw[List.drop_eq_getElem_cons hlt]
  simp only[okF,aCZ]
  generalize doF s x1[i]=q at q1 q2 r1 r2
  rw[sL]
  by_cases h0:q.1=0
  · have e:eqI q.1 0=true:=cV.2 h0
    rw[e,Bool.true_and]
    refine⟨fun h=>?_,fun h=>?_⟩
    · repeat (first|refine ip (by first|with_reducible rfl | assumption | (simp (disch:=omega) only[ws,wl,wb]<;>omega)|omega) ?_|refine jn (by first|with_reducible rfl | assumption | (simp (disch:=omega) only[ws,wl,wb]<;>omega)|omega) ?_|refine(bnd (eN hv hlt)).trans ?_|refine(bnd q1).trans ?_|refine el ?_|refine er ?_)
      exact r1 h
    · repeat (first|refine ip (by first|with_reducible rfl | assumption | (simp (disch:=omega) only[ws,wl,wb]<;>omega)|omega) ?_|refine jn (by first|with_reducible rfl | assumption | (simp (disch:=omega) only[ws,wl,wb]<;>omega)|omega) ?_|refine(bnd (eN hv hlt)).trans ?_|refine(bnd q1).trans ?_|refine el ?_|refine er ?_)
      exact r2 h
  · have e:eqI q.1 0=false:=eqf fun h=>h0 (cV.1 h)
    rw[e,Bool.false_and]
    refine⟨fun h=>(by cases h),fun h=>?_⟩
    repeat (first|refine ip (by first|with_reducible rfl | assumption | (simp (disch:=omega) only[ws,wl,wb]<;>omega)|omega) ?_|refine jn (by first|with_reducible rfl | assumption | (simp (disch:=omega) only[ws,wl,wb]<;>omega)|omega) ?_|refine(bnd (eN hv hlt)).trans ?_|refine(bnd q1).trans ?_|refine el ?_|refine er ?_)
    rfl
theorem aOA {x1:List Rec} (hx:wB x1) (hl:x1.length≤400) :
 (okF ⟨[],[],[],[]⟩ x1=true→lL x1=some (.inl (tupS (aCZ ⟨[],[],[],[]⟩ x1))))∧(okF ⟨[],[],[],[]⟩ x1=false→lL x1=some (.inr ())):=by
 have h:=aOK hx hl _ 0 0 ⟨[],[],[],[]⟩ rfl (by omega) rfl aHW
 rw[List.drop_zero] at h
 refine⟨fun e=>?_,fun e=>?_⟩
 · rw[lL]
   exact(bnd (h.1 e)).trans rfl
 · rw[lL]
   exact(bnd (h.2 e)).trans rfl
structure Rp (s:St):Prop where
 ok:okF ⟨[],[],[],[]⟩ s.G=true
 run:aCZ ⟨[],[],[],[]⟩ s.G=s
 recs:∀r∈s.G,aFE r
theorem rp_nil:Rp ⟨[],[],[],[]⟩:=⟨rfl,rfl,fun _ h=>(by cases h)⟩
theorem Rp.step {s:St} {r:Rec} (h:Rp s) (hr:aFE r) (hs:Step s r (doF s r)):Rp (doF s r).2.2:=by
 rcases hs.log with⟨he,hg⟩ | ⟨_,hq⟩
 · refine⟨?_,?_,?_⟩
   · rw[hg,aMU,h.ok,h.run]
     simp only[okF]
     rw[cV.2 he];rfl
   · rw[hg,aJE,h.run];rfl
   · rw[hg]
     intro x hx
     rcases List.mem_append.1 hx with hx | hx
     · exact h.recs x hx
     · rcases List.mem_singleton.1 hx with rfl;exact hr
 · rw[hq];exact h
end Go.Ws.L10
