/-
  A handoff's protocol, plainly.
  Conditions: none.
-/
import Derived.Test.YtpaekffehfdmgaaGreatDoorZLease
set_option linter.unusedVariables false
set_option linter.unusedSimpArgs false
namespace Go.Ws.L12
open Go.Ws
set_option linter.unusedVariables false
set_option linter.unusedSimpArgs false
set_option maxHeartbeats 1000000
abbrev Sd:=Int × Int × Int × Int × ByteArray × Bool
abbrev Ms:=Int × Int × Int × Int × ByteArray
abbrev cg:ByteArray:=ByteArray.mk #[99,97,114,103,111]
abbrev eb:ByteArray:=ByteArray.mk #[]
inductive Wf (i:Int):Sd→Prop
 | idle:Wf i (i,0,0,0,eb,false)
 | held (e:Int) (h:1≤e∧e≤1048576):Wf i (i,e,1,0,cg,false)
 | kept (e t:Int) (h:1≤e∧e<1048576) (ht:0≤t∧t<3) (hn:t≠i):Wf i (i,e,2,t,cg,true)
 | gone (e t:Int) (h:1≤e∧e<1048576) (ht:0≤t∧t<3) (hn:t≠i):Wf i (i,e,2,t,eb,false)
theorem aAH:bN 0 0 0=true:=by decide
theorem aHG {e:Int} (h:1≤e∧e≤1048576):bN e 1 0=true:=by
 simp [bN,cO,ltI,eqI];omega
theorem aCP {e t:Int} (h:1≤e∧e≤1048576) (ht:t<8):bN e 2 t=true:=by
 simp [bN,cO,ltI,eqI];omega
theorem ep_ok {e:Int} (h:1≤e∧e≤1048576):cO e=true:=by
 simp [cO,ltI];omega
theorem es_eb:eqS eb eb=true:=aGV.2 rfl
theorem es_cg:eqS cg eb=false:=by decide
theorem z_eb:ssz eb=0:=rfl
theorem z_cg:ssz cg=5:=rfl
theorem qU {i:Int} {y:Sd} (hi:0≤i∧i<3) (h:Wf i y):cH y.1 y.2.1 y.2.2.1 y.2.2.2.1 y.2.2.2.2.1 y.2.2.2.2.2=true∧bN y.2.1 y.2.2.1 y.2.2.2.1=true:=by
 have h8:i<8:=by omega
 cases h with
 | idle=>refine⟨?_,aAH⟩;simp [cH,aAH,es_eb,ltI,eqI,h8,z_cg,z_eb]
 | held e he=>refine⟨?_,aHG he⟩;simp [cH,aHG he,es_cg,ltI,eqI,h8,z_cg,z_eb]
 | kept e t he ht hn =>
  have hl:=aCP (e:=e) (t:=t) (by omega) (by omega)
  refine⟨?_,hl⟩;simp [cH,hl,es_cg,ltI,eqI,h8,z_cg,z_eb,hn]
 | gone e t he ht hn =>
  have hl:=aCP (e:=e) (t:=t) (by omega) (by omega)
  refine⟨?_,hl⟩;simp [cH,hl,es_eb,ltI,eqI,h8,z_cg,z_eb,hn]
theorem may_of {k a b e:Int} {c:ByteArray} (h:fB k a b e c=true):(k=1∨k=2∨k=3∨k=4)∧(1≤e∧e≤1048576)∧a≠b:=by
 simp [fB,ltI,eqI] at h
 omega
theorem aNA {i:Int} {y:Sd} {k a e:Int} {c:ByteArray} (hi:0≤i∧i<3) (h:Wf i y) (ha:0≤a∧a<3) (hai:a≠i) (hk:k=1∨k=2∨k=3∨k=4) (he:1≤e∧e≤1048576) :
 ∃z S er,aR y.1 y.2.1 y.2.2.1 y.2.2.2.1 y.2.2.2.2.1 y.2.2.2.2.2 k a i e c=(z.1,z.2.1,z.2.2.1,z.2.2.2.1,z.2.2.2.2.1,z.2.2.2.2.2,S,er) ∧
  (er≠0∨(er=0 ∧
   ((z=y∧S=[(2,i,a,e,eb)]) ∨
    (z=y∧S=[(3,i,y.2.2.2.1,y.2.1+1,y.2.2.2.2.1)]∧y.2.2.2.2.2=true) ∨
    (y=(i,e,1,0,cg,false)∧e<1048576∧z=(i,e,2,a,cg,true)∧S=[(3,i,a,e+1,cg)]) ∨
    (k=3∧y.2.1<e∧z=(i,e,1,0,c,false)∧S=[(4,i,a,e,eb)]) ∨
    (k=3∧e≤y.2.1∧z=y∧S=[(4,i,a,e,eb)]) ∨
    (k=4∧y=(i,e - 1,2,a,cg,true)∧z=(i,e - 1,2,a,eb,false)∧S=[])))):=by
 have hr:=qU hi h
 have hs:pR .i64 e 1=e - 1:=isub64 (by omega)
 have hp:=ep_ok he
 have ha8:a<8:=by omega
 cases h with
 | idle =>
  rcases hk with rfl | rfl | rfl | rfl
  · refine⟨(i,0,0,0,eb,false),[(2,i,a,e,eb)],0,?_,.inr ⟨rfl,.inl ⟨rfl,rfl⟩⟩⟩
    simp [aR,ltI,eqI];omega
  · refine⟨(i,0,0,0,eb,false),[],10,?_,.inl (by decide)⟩
    simp [aR,aY,bJ,aAH,ltI,eqI]
  · refine⟨(i,e,1,0,c,false),[(4,i,a,e,eb)],0,?_,.inr ⟨rfl,.inr (.inr (.inr (.inl ⟨rfl,by show (0:Int)<e;omega,rfl,rfl⟩)))⟩⟩
    have h1:(0:Int)<e:=by omega
    simp [aR,aY,bJ,bM,aAH,ltI,eqI,hp,h1]
  · refine⟨(i,0,0,0,eb,false),[],10,?_,.inl (by decide)⟩
    simp [aR,aY,bJ,aAH,ltI,eqI]
 | held e' he' =>
  have hl:=aHG he'
  rcases hk with rfl | rfl | rfl | rfl
  · by_cases q:e'<e
    · refine⟨(i,e',1,0,cg,false),[(2,i,a,e,eb)],0,?_,.inr ⟨rfl,.inl ⟨rfl,rfl⟩⟩⟩
      simp [aR,aY,bJ,bM,bA,ltI,eqI,hp,hl,hs,ha8,q]
    · refine⟨(i,e',1,0,cg,false),[],10,?_,.inl (by decide)⟩
      simp [aR,aY,bJ,bM,bA,ltI,eqI,hp,hl,hs,ha8,q]
  · by_cases q:e'=e
    · subst q
      by_cases q2:e'=1048576
      · subst q2
        refine⟨(i,1048576,1,0,cg,true),aS i 1048576 1 0 cg true,3,?_,.inl (by decide)⟩
        simp [aR,aY,bJ,bM,bA,ltI,eqI,hp,hl,hs,ha8]
      · have hr2:=(qU hi (Wf.kept (i:=i) e' a (by omega) ha hai)).1
        have ha2:aS i e' 2 a cg true=[(3,i,a,e'+1,cg)]:=by
         simp only at hr2
         simp [aS,hr2,xO (a:=e') (b:=1) (by omega)]
        refine⟨(i,e',2,a,cg,true),[(3,i,a,e'+1,cg)],0,?_,.inr ⟨rfl,.inr (.inr (.inl ⟨rfl,by omega,rfl,rfl⟩))⟩⟩
        simp [aR,aY,bJ,bM,bA,ltI,eqI,hp,hl,hs,ha8,q2,ha2]
    · refine⟨(i,e',1,0,cg,false),[],10,?_,.inl (by decide)⟩
      simp [aR,aY,bJ,bM,bA,ltI,eqI,hp,hl,hs,ha8,q]
  · by_cases q:e'<e
    · have q2:¬e'=e:=by omega
      refine⟨(i,e,1,0,c,false),[(4,i,a,e,eb)],0,?_,.inr ⟨rfl,.inr (.inr (.inr (.inl ⟨rfl,q,rfl,rfl⟩)))⟩⟩
      simp [aR,aY,bJ,bM,bA,ltI,eqI,hp,hl,hs,ha8,q,q2]
    · refine⟨(i,e',1,0,cg,false),[(4,i,a,e,eb)],0,?_,.inr ⟨rfl,.inr (.inr (.inr (.inr (.inl ⟨rfl,by show e≤e';omega,rfl,rfl⟩))))⟩⟩
      simp [aR,aY,bJ,bM,bA,ltI,eqI,hp,hl,hs,ha8,q]
  · refine⟨(i,e',1,0,cg,false),[],10,?_,.inl (by decide)⟩
    simp [aR,aY,bJ,bM,bA,ltI,eqI,hp,hl,hs,ha8]
 | kept e' t he' ht hn =>
  have hl:=aCP (e:=e') (t:=t) (by omega) (by omega)
  rcases hk with rfl | rfl | rfl | rfl
  · by_cases q:e'<e
    · refine⟨(i,e',2,t,cg,true),[(2,i,a,e,eb)],0,?_,.inr ⟨rfl,.inl ⟨rfl,rfl⟩⟩⟩
      simp [aR,aY,bJ,bM,bA,ltI,eqI,hp,hl,hs,ha8,q]
    · refine⟨(i,e',2,t,cg,true),[],10,?_,.inl (by decide)⟩
      simp [aR,aY,bJ,bM,bA,ltI,eqI,hp,hl,hs,ha8,q]
  · by_cases q:e'=e∧t=a
    · obtain⟨rfl,rfl⟩:=q
      have ha2:aS i e' 2 t cg true=[(3,i,t,e'+1,cg)]:=by
       have hr2:=hr.1
       simp only at hr2
       simp [aS,hr2,xO (a:=e') (b:=1) (by omega)]
      refine⟨(i,e',2,t,cg,true),[(3,i,t,e'+1,cg)],0,?_,.inr ⟨rfl,.inr (.inl ⟨rfl,rfl,rfl⟩)⟩⟩
      simp [aR,aY,bJ,bM,bA,ltI,eqI,hp,hl,hs,ha8,ha2]
    · refine⟨(i,e',2,t,cg,true),[],10,?_,.inl (by decide)⟩
      simp [aR,aY,bJ,bM,bA,ltI,eqI,hp,hl,hs,ha8,q]
  · by_cases q:e'<e
    · have q2:¬e'=e:=by omega
      refine⟨(i,e,1,0,c,false),[(4,i,a,e,eb)],0,?_,.inr ⟨rfl,.inr (.inr (.inr (.inl ⟨rfl,q,rfl,rfl⟩)))⟩⟩
      simp [aR,aY,bJ,bM,bA,ltI,eqI,hp,hl,hs,ha8,q,q2]
    · refine⟨(i,e',2,t,cg,true),[(4,i,a,e,eb)],0,?_,.inr ⟨rfl,.inr (.inr (.inr (.inr (.inl ⟨rfl,by show e≤e';omega,rfl,rfl⟩))))⟩⟩
      simp [aR,aY,bJ,bM,bA,ltI,eqI,hp,hl,hs,ha8,q]
  · by_cases q:e'=e - 1∧t=a
    · obtain⟨rfl,rfl⟩:=q
      refine⟨(i,e - 1,2,t,eb,false),[],0,?_,.inr ⟨rfl,.inr (.inr (.inr (.inr (.inr ⟨rfl,rfl,rfl,rfl⟩))))⟩⟩
      simp [aR,aY,bJ,bM,bA,ltI,eqI,hp,hl,hs,ha8]
    · refine⟨(i,e',2,t,cg,true),[],10,?_,.inl (by decide)⟩
      simp [aR,aY,bJ,bM,bA,ltI,eqI,hp,hl,hs,ha8,q]
 | gone e' t he' ht hn =>
  have hl:=aCP (e:=e') (t:=t) (by omega) (by omega)
  rcases hk with rfl | rfl | rfl | rfl
  · by_cases q:e'<e
    · refine⟨(i,e',2,t,eb,false),[(2,i,a,e,eb)],0,?_,.inr ⟨rfl,.inl ⟨rfl,rfl⟩⟩⟩
      simp [aR,aY,bJ,bM,bA,ltI,eqI,hp,hl,hs,ha8,q]
    · refine⟨(i,e',2,t,eb,false),[],10,?_,.inl (by decide)⟩
      simp [aR,aY,bJ,bM,bA,ltI,eqI,hp,hl,hs,ha8,q]
  · refine⟨(i,e',2,t,eb,false),[],10,?_,.inl (by decide)⟩
    simp [aR,aY,bJ,bM,bA,ltI,eqI,hp,hl,hs,ha8]
  · by_cases q:e'<e
    · have q2:¬e'=e:=by omega
      refine⟨(i,e,1,0,c,false),[(4,i,a,e,eb)],0,?_,.inr ⟨rfl,.inr (.inr (.inr (.inl ⟨rfl,q,rfl,rfl⟩)))⟩⟩
      simp [aR,aY,bJ,bM,bA,ltI,eqI,hp,hl,hs,ha8,q,q2]
    · refine⟨(i,e',2,t,eb,false),[(4,i,a,e,eb)],0,?_,.inr ⟨rfl,.inr (.inr (.inr (.inr (.inl ⟨rfl,by show e≤e';omega,rfl,rfl⟩))))⟩⟩
      simp [aR,aY,bJ,bM,bA,ltI,eqI,hp,hl,hs,ha8,q]
  · refine⟨(i,e',2,t,eb,false),[],10,?_,.inl (by decide)⟩
    simp [aR,aY,bJ,bM,bA,ltI,eqI,hp,hl,hs,ha8]
abbrev ep (y:Sd):Int:=y.2.1
abbrev stt (y:Sd):Int:=y.2.2.1
abbrev tot (y:Sd):Int:=y.2.2.2.1
abbrev kpt (y:Sd):Bool:=y.2.2.2.2.2
def upd (f:Int→Sd) (i:Int) (y:Sd):Int→Sd:=fun j=>if j=i then y else f j
theorem aAJ (f:Int→Sd) (i:Int) (y:Sd):upd f i y i=y:=by simp [upd]
theorem aH8 (f:Int→Sd) {i j:Int} (y:Sd) (h:j≠i):upd f i y j=f j:=by simp [upd,h]
theorem aG8 (f:Int→Sd) (i:Int):upd f i (f i)=f:=by
 funext j
 unfold upd
 split
 · rename_i h;rw[h]
 · rfl
structure MsgOk (f:Int→Sd) (p:Int) (m:Ms):Prop where
 a:0≤m.2.1∧m.2.1<3
 b:0≤m.2.2.1∧m.2.2.1<3
 give:m.1=3→m.2.2.2.1≤ep (f m.2.2.1)∨(stt (f p)=2∧m.2.2.1=tot (f p)∧m.2.2.2.1=ep (f p)+1∧m.2.2.2.2=cg)
 got:m.1=4→m.2.2.2.1≤ep (f m.2.1)
structure Inv (f:Int→Sd) (p:Int) (S:List Ms):Prop where
 w:∀i,0≤i→i<3→Wf i (f i)
 p0:0≤p∧p<3
 low:∀i,0≤i→i<3→i≠p→ep (f i)<ep (f p)∧stt (f i)≠1
 top:stt (f p)=1∨(stt (f p)=2∧kpt (f p)=true)
 keep:∀i,0≤i→i<3→i≠p→kpt (f i)=true→ep (f i)<ep (f (tot (f i)))
 ms:∀m∈S,MsgOk f p m
theorem Inv.say {f:Int→Sd} {p:Int} {S S':List Ms} (I:Inv f p S) (h:∀m∈S',MsgOk f p m):Inv f p (S++S') :=
 ⟨I.w,I.p0,I.low,I.top,I.keep,fun m hm=>(List.mem_append.1 hm).elim (I.ms m) (h m)⟩
theorem Wf.kept_of {i:Int} {y:Sd} (h:Wf i y) (hk:kpt y=true):∃e t,y=(i,e,2,t,cg,true)∧(1≤e∧e<1048576)∧(0≤t∧t<3)∧t≠i:=by
 cases h with
 | idle=>cases hk
 | held e h=>cases hk
 | kept e t h ht hn=>exact⟨e,t,rfl,h,ht,hn⟩
 | gone e t h ht hn=>cases hk
theorem Wf.me {i:Int} {y:Sd} (h:Wf i y):y.1=i:=by cases h<;>rfl
theorem Inv.again {f:Int→Sd} {p:Int} {S:List Ms} (I:Inv f p S) {i:Int} (hi:0≤i∧i<3) (hk:kpt (f i)=true):MsgOk f p (3,i,tot (f i),ep (f i)+1,(f i).2.2.2.2.1):=by
 obtain⟨e,t,hf,he,ht,hn⟩:=(I.w i hi.1 hi.2).kept_of hk
 refine⟨hi,by show 0≤tot (f i)∧tot (f i)<3;rw[hf];exact ht,fun _=>?_,fun h=>(by cases h)⟩
 by_cases hp:i=p
 · subst hp
   exact .inr ⟨by rw[hf],rfl,rfl,by rw[hf]⟩
 · have h1:=I.keep i hi.1 hi.2 hp hk
   exact .inl (by show ep (f i)+1≤ep (f (tot (f i)));omega)
theorem Inv.gave {f:Int→Sd} {S:List Ms} {i e a:Int} (hi:0≤i∧i<3) (I:Inv f i S) (hf:f i=(i,e,1,0,cg,false)) (he:1≤e∧e<1048576) (ha:0≤a∧a<3) (hn:a≠i) :
 Inv (upd f i (i,e,2,a,cg,true)) i (S++[(3,i,a,e+1,cg)]):=by
 have hep:∀j,ep (upd f i (i,e,2,a,cg,true) j)=ep (f j):=fun j=>by
  by_cases h:j=i
  · subst h;rw[aAJ,hf]
  · rw[aH8 _ _ h]
 have hs:=aAJ f i (i,e,2,a,cg,true)
 have hold:∀j,j≠i→upd f i (i,e,2,a,cg,true) j=f j:=fun j h=>aH8 f _ h
 refine⟨fun j j0 j3=>?_,I.p0,fun j j0 j3 hj=>?_,.inr ⟨by rw[hs],by rw[hs]⟩,fun j j0 j3 hj hk=>?_,fun m hm=>?_⟩
 · by_cases h:j=i
   · subst h;rw[hs];exact .kept e a he ha hn
   · rw[hold j h];exact I.w j j0 j3
 · rw[hep,hep,hold j hj];exact I.low j j0 j3 hj
 · rw[hold j hj] at hk ⊢
   rw[hep]
   exact I.keep j j0 j3 hj hk
 · rcases List.mem_append.1 hm with hm | hm
   · have M:=I.ms m hm
     refine⟨M.a,M.b,fun hk=>.inl ?_,fun hk=>by rw[hep];exact M.got hk⟩
     rw[hep]
     rcases M.give hk with h | ⟨h,_⟩
     · exact h
     · rw[hf] at h;cases h
   · rcases List.mem_singleton.1 hm with rfl
     exact⟨hi,ha,fun _=>.inr ⟨by rw[hs],by rw[hs],by rw[hs],rfl⟩,fun h=>(by cases h)⟩
theorem Inv.took {f:Int→Sd} {p:Int} {S:List Ms} {i e a:Int} (I:Inv f p S) (hi:0≤i∧i<3) (ha:0≤a∧a<3) (hp:stt (f p)=2) (ht:i=tot (f p)) (he:e=ep (f p)+1) (he2:1≤e∧e≤1048576) (hlt:ep (f i)<e) :
 Inv (upd f i (i,e,1,0,cg,false)) i (S++[(4,i,a,e,eb)]):=by
 have hpk:kpt (f p)=true:=by
  rcases I.top with h | h
  · rw[hp] at h;cases h
  · exact h.2
 obtain⟨e',t,hf,he',ht',hn⟩:=(I.w p I.p0.1 I.p0.2).kept_of hpk
 have hip:i≠p:=by rw[ht,hf];exact hn
 have hs:=aAJ f i (i,e,1,0,cg,false)
 have hold:∀j,j≠i→upd f i (i,e,1,0,cg,false) j=f j:=fun j h=>aH8 f _ h
 have hge:∀j,ep (f j)≤ep (upd f i (i,e,1,0,cg,false) j):=fun j=>by
  by_cases h:j=i
  · subst h;rw[hs];show ep (f j)≤e;omega
  · rw[hold j h];exact Int.le_refl _
 refine⟨fun j j0 j3=>?_,hi,fun j j0 j3 hj=>?_,.inl (by rw[hs]),fun j j0 j3 hj hk=>?_,fun m hm=>?_⟩
 · by_cases h:j=i
   · subst h;rw[hs];exact .held e he2
   · rw[hold j h];exact I.w j j0 j3
 · rw[hold j hj,hs]
   show ep (f j)<e∧stt (f j)≠1
   by_cases h:j=p
   · subst h;refine⟨by omega,by rw[hp];decide⟩
   · have:=I.low j j0 j3 h
     exact⟨by omega,this.2⟩
 · rw[hold j hj] at hk ⊢
   by_cases h:j=p
   · subst h
     rw[← ht,hs]
     show ep (f j)<e
     omega
   · have h1:=I.keep j j0 j3 h hk
     have h2:=hge (tot (f j))
     omega
 · rcases List.mem_append.1 hm with hm | hm
   · have M:=I.ms m hm
     refine⟨M.a,M.b,fun hk=>.inl ?_,fun hk=>Int.le_trans (M.got hk) (hge _)⟩
     rcases M.give hk with h | ⟨h1,h2,h3,_⟩
     · exact Int.le_trans h (hge _)
     · rw[h2,← ht,hs]
       show m.2.2.2.1≤e
       omega
   · rcases List.mem_singleton.1 hm with rfl
     exact⟨hi,ha,fun h=>(by cases h),fun _=>by rw[hs];exact Int.le_refl _⟩
theorem Inv.freed {f:Int→Sd} {p:Int} {S:List Ms} {i e a:Int} (I:Inv f p S) (hi:0≤i∧i<3) (hf:f i=(i,e,2,a,cg,true)) (hg:e+1≤ep (f a)):Inv (upd f i (i,e,2,a,eb,false)) p (S++[]):=by
 obtain⟨e',t,hf',he',ht',hn⟩:=(I.w i hi.1 hi.2).kept_of (by rw[hf])
 rw[hf] at hf'
 cases hf'
 have hip:i≠p:=fun h=>by
  subst h
  have:=(I.low a ht'.1 ht'.2 hn).1
  rw[hf] at this
  have h2:ep (f a)<e:=this
  omega
 have hs:=aAJ f i (i,e,2,a,eb,false)
 have hold:∀j,j≠i→upd f i (i,e,2,a,eb,false) j=f j:=fun j h=>aH8 f _ h
 have hep:∀j,ep (upd f i (i,e,2,a,eb,false) j)=ep (f j):=fun j=>by
  by_cases h:j=i
  · subst h;rw[hs,hf]
  · rw[hold j h]
 rw[List.append_nil]
 refine⟨fun j j0 j3=>?_,I.p0,fun j j0 j3 hj=>?_,by rw[hold p (fun h=>hip h.symm)];exact I.top,fun j j0 j3 hj hk=>?_,fun m hm=>?_⟩
 · by_cases h:j=i
   · subst h;rw[hs];exact .gone e a he' ht' hn
   · rw[hold j h];exact I.w j j0 j3
 · rw[hep,hep]
   have:=I.low j j0 j3 hj
   refine⟨this.1,?_⟩
   by_cases h:j=i
   · subst h;rw[hs];show (2:Int)≠1;decide
   · rw[hold j h];exact this.2
 · by_cases h:j=i
   · subst h;rw[hs] at hk;cases hk
   · rw[hold j h] at hk ⊢
     rw[hep]
     exact I.keep j j0 j3 hj hk
 · have M:=I.ms m hm
   exact⟨M.a,M.b,fun hk=>by rw[hep,hep,hold p (fun h=>hip h.symm)];exact M.give hk,fun hk=>by rw[hep];exact M.got hk⟩
theorem hear_inv {f:Int→Sd} {p:Int} {S:List Ms} (I:Inv f p S) {m:Ms} (hm:m∈S) :
 ∃z S' er,g5 (f m.2.2.1).1 (f m.2.2.1).2.1 (f m.2.2.1).2.2.1 (f m.2.2.1).2.2.2.1 (f m.2.2.1).2.2.2.2.1 (f m.2.2.1).2.2.2.2.2 m.1 m.2.1 m.2.2.1 m.2.2.2.1 m.2.2.2.2=some (z.1,z.2.1,z.2.2.1,z.2.2.2.1,z.2.2.2.2.1,z.2.2.2.2.2,S',er) ∧
  S'.length≤1∧∃p',Inv (upd f m.2.2.1 z) p' (S++S'):=by
 have M:=I.ms m hm
 obtain⟨k,a,i,e,c⟩:=m
 obtain⟨ha,hi,hgive,hgot⟩:=M
 simp only at ha hi hgive hgot ⊢
 have hw:=I.w i hi.1 hi.2
 have hR:=(qU hi hw).1
 have stay:∃p',Inv (upd f i (f i)) p' (S++[]):=⟨p,by rw[aG8,List.append_nil];exact I⟩
 have hme:=hw.me
 unfold g5
 rw[if_pos hR]
 by_cases hmay:fB k a i e c=true
 · rw[if_pos hmay,if_pos (jB.2 hme.symm)]
   obtain⟨hk,he,hai⟩:=may_of hmay
   obtain⟨z,S',er,hs,hc⟩:=aNA (c:=c) hi hw ha hai hk he
   rw[hs]
   simp only
   rcases hc with hc | ⟨rfl,hc⟩
   · rw[if_neg (fun h=>hc (jB.1 h))]
     exact⟨f i,[],er,rfl,by simp,stay⟩
   · rw[if_pos (jB.2 rfl)]
     refine⟨z,S',0,rfl,?_⟩
     rcases hc with⟨rfl,rfl⟩ | ⟨rfl,rfl,hkp⟩ | ⟨hy,he2,rfl,rfl⟩ | ⟨hk3,hlt,rfl,rfl⟩ | ⟨hk3,hle,rfl,rfl⟩ | ⟨hk4,hy,rfl,rfl⟩
     · refine⟨by simp,p,?_⟩
       rw[aG8]
       refine I.say fun m hm=>?_
       rcases List.mem_singleton.1 hm with rfl
       exact⟨hi,ha,fun h=>(by cases h),fun h=>(by cases h)⟩
     · refine⟨by simp,p,?_⟩
       rw[aG8]
       refine I.say fun m hm=>?_
       rcases List.mem_singleton.1 hm with rfl
       exact I.again hi hkp
     · have hip:i=p:=Classical.byContradiction fun h=>(I.low i hi.1 hi.2 h).2 (by rw[hy])
       subst hip
       exact⟨by simp,i,I.gave hi hy ⟨he.1,he2⟩ ha hai⟩
     · rcases hgive hk3 with h | ⟨h1,h2,h3,h4⟩
       · exact absurd hlt (by show ¬ep (f i)<e;omega)
       · subst h4
         exact⟨by simp,i,I.took hi ha h1 h2 h3 he hlt⟩
     · refine⟨by simp,p,?_⟩
       rw[aG8]
       refine I.say fun m hm=>?_
       rcases List.mem_singleton.1 hm with rfl
       exact⟨hi,ha,fun h=>(by cases h),fun _=>hle⟩
     · have hg:=hgot hk4
       exact⟨by simp,p,I.freed hi hy (by omega)⟩
 · rw[if_neg hmay]
   exact⟨f i,[],2,rfl,by simp,stay⟩
end Go.Ws.L12
