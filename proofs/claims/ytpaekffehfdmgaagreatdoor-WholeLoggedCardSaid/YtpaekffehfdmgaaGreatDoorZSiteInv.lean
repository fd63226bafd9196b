/-
  What holds of a site, behind whatever calls.
  Conditions: none.
-/
import Derived.Test.YtpaekffehfdmgaaGreatDoorZSite
set_option linter.unusedVariables false
set_option linter.unusedSimpArgs false
namespace Go.Ws.L10
open L7 L8 L9
set_option linter.unusedVariables false
set_option linter.unusedSimpArgs false
set_option maxHeartbeats 1000000
theorem kI {V:Type}:∀(l:List (Int × V)) (t:Int) (x:V) (q:Int),gG (d7 l t x) q=if q=t then some x else gG l q
 | [],t,x,q=>by
  simp only[d7,gG]
 | (k,v)::l,t,x,q=>by
  unfold d7
  by_cases hk:t=k
  · rw[if_pos hk]
    subst hk
    simp only[gG]
    by_cases hq:q=t
    · rw[if_pos hq,if_pos hq]
    · rw[if_neg hq,if_neg hq,if_neg hq]
  · rw[if_neg hk]
    simp only[gG]
    rw[kI l t x q]
    by_cases hq:q=k
    · rw[if_pos hq,if_pos hq,if_neg (by omega)]
    · rw[if_neg hq,if_neg hq]
theorem aQH {V:Type}:∀(l:List (Int × V)) (t:Int) (x:V),(d7 l t x).map (·.1)=if (gG l t).isSome then l.map (·.1) else l.map (·.1)++[t]
 | [],t,x=>by simp [d7,gG]
 | (k,v)::l,t,x=>by
  unfold d7
  by_cases hk:t=k
  · subst hk;simp [gG]
  · rw[if_neg hk,List.map_cons,aQH l t x]
    simp only[gG,if_neg hk]
    split<;>simp
theorem aTU {V:Type}:∀{l:List (Int × V)} {t:Int},gG l t=none↔t∉l.map (·.1)
 | [],t=>by simp [gG]
 | (k,v)::l,t=>by
  simp only[gG,List.map_cons,List.mem_cons]
  by_cases hk:t=k
  · rw[if_pos hk];simp [hk]
  · rw[if_neg hk,aTU (l:=l)];simp [hk]
theorem y6 {V:Type} {l:List (Int × V)} (h:(l.map (·.1)).Nodup) (t:Int) (x:V):((d7 l t x).map (·.1)).Nodup:=by
 rw[aQH]
 cases hg:gG l t with
 | some y=>exact h
 | none =>
  rw[if_neg (by simp)]
  rw[List.nodup_append]
  refine⟨h,by simp,fun a ha b hb=>?_⟩
  rcases List.mem_singleton.1 hb with rfl
  intro hab
  exact aTU.1 hg (hab▸ha)
def r6 (p:Pt):Dl:=eff p.1 p.2.1 p.2.2.1 p.2.2.2
def aEW (M:List (Int × Pt)):Dl:=M.flatMap fun x=>r6 x.2
theorem tT (x:Int × Pt) (M:List (Int × Pt)):aEW (x::M)=r6 x.2++aEW M:=by simp [aEW]
theorem sO:∀{M:List (Int × Pt)} {t:Int} {p:Pt} (q:Pt) (k:Int),gG M t=some p→tot (aEW (d7 M t q)) k=tot (aEW M) k - tot (r6 p) k+tot (r6 q) k
 | [],t,p,q,k,h=>by cases h
 | (a,v)::M,t,p,q,k,h=>by
  simp only[gG] at h
  unfold d7
  by_cases hk:t=a
  · rw[if_pos hk] at h ⊢
    cases h
    rw[tT,tT,jX,jX]
    simp only;omega
  · rw[if_neg hk] at h ⊢
    rw[tT,tT,jX,jX,sO q k h]
    omega
theorem aGB:∀{M:List (Int × Pt)} {t:Int} (q:Pt) (k:Int),gG M t=none→tot (aEW (d7 M t q)) k=tot (aEW M) k+tot (r6 q) k
 | [],t,q,k,h=>by
  simp only[d7,tT,jX]
  omega
 | (a,v)::M,t,q,k,h=>by
  simp only[gG] at h
  unfold d7
  by_cases hk:t=a
  · rw[if_pos hk] at h;cases h
  · rw[if_neg hk] at h ⊢
    rw[tT,tT,jX,jX,aGB q k h]
    omega
theorem tot_opp (l:List (Int × Int)) (k:Int):tot (w7 l) k % 18446744073709551616=(- tot l k) % 18446744073709551616:=by
 unfold w7
 induction l with
 | nil=>rfl
 | cons d l ih =>
  rw[List.reverse_cons,List.map_append,jX,oJ,List.map_cons,List.map_nil,oJ,uF]
  by_cases hk:d.1=k
  · rw[if_pos hk,if_pos hk,show ineg .i64 d.2=IntKind.i64.wrap (0 - d.2) from rfl]
    have:=aFJ (0 - d.2)
    omega
  · rw[if_neg hk,if_neg hk]
    omega
structure Inv (s:St) (n:Nat):Prop where
 led:Led s.L
 lk:Lk s.K
 kl:s.K.length≤n
 gl:s.G.length≤n
 pt:∀t p,gG s.M t=some p→PtOk p∧0≤t∧t<1000
 nd:(s.M.map (·.1)).Nodup
 own:∀t p,gG s.M t=some p→p.1=0∨p.1=1→p.2.2.1=false→∀d∈p.2.1,(d.1,t,true)∈s.K
 sum:∀k,0≤k→k<64→nP s.L k=nP (aEW s.M) k
theorem Inv.wf {s:St} {n:Nat} (I:Inv s n) (h:n≤1000):Wf s:=⟨I.led,I.lk,by have:=I.kl;omega,by have:=I.gl;omega,fun t p hp=>(I.pt t p hp).1⟩
theorem Inv.le {s:St} {n m:Nat} (I:Inv s n) (h:n≤m):Inv s m:=⟨I.led,I.lk,by have:=I.kl;omega,by have:=I.gl;omega,I.pt,I.nd,I.own,I.sum⟩
theorem aPA:Inv ⟨[],[],[],[]⟩ 0:=⟨⟨List.Pairwise.nil,fun _ h=>(by cases h)⟩,lk_nil,Nat.le_refl _,Nat.le_refl _,fun _ _ h=>(by cases h),List.nodup_nil,fun _ _ h=>(by cases h),fun _ _ _=>rfl⟩
inductive Step (s:St):Rec→Res→Prop
 | err (r e):e≠0→Step s r (e,0,s)
 | begin (t k n):0≤t→t<1000→gG s.M t=none→Step s (1,t,k,n) (0,0,⟨s.L,s.K,d7 s.M t (0,[],false,0),s.G++[(1,t,k,n)]⟩)
 | read (t k n p):0≤t→t<1000→gG s.M t=some p→p.1=0→0≤k→k<64→¬aE1 s.K k t false→Got s.K k t false (aBD s.K t k false)→Step s (2,t,k,n) (0,W64 (tot s.L k+tot p.2.1 k),⟨s.L,aBD s.K t k false,s.M,s.G++[(2,t,k,n)]⟩)
 | add (t k n p):0≤t→t<1000→gG s.M t=some p→p.1=0→0≤k→k<64→InR n→¬aE1 s.K k t true→Got s.K k t true (aBD s.K t k true)→p.2.1.length<50→Step s (3,t,k,n) (0,0,⟨s.L,aBD s.K t k true,d7 s.M t (p.1,p.2.1++[(k,n)],p.2.2.1,p.2.2.2),s.G++[(3,t,k,n)]⟩)
 | vote (t k n p):0≤t→t<1000→gG s.M t=some p→p.1=0→Step s (4,t,k,n) (0,0,⟨s.L,if n=0 then lI s.K t else s.K,d7 s.M t (if n=0 then 2 else 1,p.2.1,p.2.2.1,p.2.2.2),s.G++[(4,t,k,n)]⟩)
 | loc (t k n p):0≤t→t<1000→gG s.M t=some p→p.1=1→p.2.2.1=false→Step s (5,t,k,n) (0,0,⟨ofL (s.L++p.2.1),lI s.K t,d7 s.M t (p.1,p.2.1,true,p.2.2.2),s.G++[(5,t,k,n)]⟩)
 | dec1 (t k n p):0≤t→t<1000→gG s.M t=some p→n=1∨n=2→p.1≠3→(n=1→p.1=1)→Step s (6,t,k,n) (0,0,⟨ofL (s.L++dec p.2.1 p.2.2.1 n),lI s.K t,d7 s.M t (3,p.2.1,p.2.2.1,n),s.G++[(6,t,k,n)]⟩)
 | dec2 (t k n p):0≤t→t<1000→gG s.M t=some p→n=1∨n=2→p.1=3→p.2.2.2=n→Step s (6,t,k,n) (0,0,⟨s.L,lI s.K t,d7 s.M t p,s.G++[(6,t,k,n)]⟩)
theorem aOA {s:St} {N:Nat} (I:Inv s N) (hN:N≤1000) {r:Rec} (hr:aD4 r):Step s r (doF s r):=by
 have W:=I.wf hN
 obtain⟨a,t,k,n⟩:=r
 obtain⟨⟨hk0,hk⟩,hn⟩:=hr
 simp only at hk0 hk hn
 unfold doF
 simp only
 by_cases hb:a<1∨6<a∨t<0∨1000≤t
 · rw[if_pos hb];exact .err _ _ (by decide)
 rw[if_neg hb]
 have t0:0≤t:=by omega
 have t1:t<1000:=by omega
 cases hg:gG s.M t with
 | none =>
  simp only
  by_cases h1:a=1
  · rw[if_pos h1];subst h1;exact .begin t k n t0 t1 hg
  · rw[if_neg h1];exact .err _ _ (by decide)
 | some p =>
  simp only
  have hP:=(I.pt t p hg).1
  have hpl:=hP.1.2.1
  by_cases h1:a=1
  · rw[if_pos h1];exact .err _ _ (by decide)
  rw[if_neg h1]
  have key:((iI s p (a,t,k,n)).1≠0)∨((iI s p (a,t,k,n)).1=0∧Step s (a,t,k,n) (0,(iI s p (a,t,k,n)).2.1,⟨(iI s p (a,t,k,n)).2.2.L,(iI s p (a,t,k,n)).2.2.K,(iI s p (a,t,k,n)).2.2.M,s.G++[(a,t,k,n)]⟩)):=by
   unfold iI
   simp only
   by_cases h23:a=2∨a=3
   · rw[if_pos h23]
     unfold accF
     by_cases h0:p.1=0
     rotate_left
     · rw[if_pos h0];exact .inl (by simp)
     rw[if_neg (fun h=>h h0)]
     by_cases h64:k<64
     rotate_left
     · rw[if_pos h64];exact .inl (by simp)
     rw[if_neg (fun h=>h h64)]
     have hkl:=W.kl
     rcases h23 with rfl | rfl
     · rw[show decide ((2:Int)=3)=false from rfl]
       by_cases hc:aE1 s.K k t false
       · rw[if_pos hc];exact .inl (by simp)
       · rw[if_neg hc,if_neg (by decide)]
         exact .inr ⟨rfl,.read t k n p t0 t1 hg h0 hk0 h64 hc (aB8 W.lk (by omega) hk0 ⟨h64,t0,t1⟩ hc).2.2⟩
     · rw[show decide ((3:Int)=3)=true from rfl]
       by_cases hc:aE1 s.K k t true
       · rw[if_pos hc];exact .inl (by simp)
       · rw[if_neg hc,if_pos rfl]
         by_cases h5:p.2.1.length<50
         · rw[if_pos h5]
           exact .inr ⟨rfl,.add t k n p t0 t1 hg h0 hk0 h64 hn hc (aB8 W.lk (by omega) hk0 ⟨h64,t0,t1⟩ hc).2.2 h5⟩
         · rw[if_neg h5];exact .inl (by simp)
   · rw[if_neg h23]
     unfold endF
     by_cases h4:a=4
     · rw[if_pos h4];subst h4
       by_cases h0:p.1=0
       · rw[if_pos h0]
         exact .inr ⟨rfl,.vote t k n p t0 t1 hg h0⟩
       · rw[if_neg h0];exact .inl (by simp)
     rw[if_neg h4]
     by_cases h5:a=5
     · rw[if_pos h5];subst h5
       obtain⟨c',d,e,q1,_,q2⟩:=aMV (s:=p.1) (l:=p.2.1) (c:=p.2.2.1) (o:=p.2.2.2) (by omega)
       have ee:errL p=e:=by unfold errL;rw[q1];rfl
       by_cases hl:p.1=1∧p.2.2.1=false
       · rw[if_pos hl]
         exact .inr ⟨rfl,.loc t k n p t0 t1 hg hl.1 hl.2⟩
       · rw[if_neg hl]
         left
         simp only
         rw[ee]
         rcases q2 with⟨_,_,a1,a2,_⟩ | ⟨he,_,_,_⟩
         · exact absurd ⟨a1,a2⟩ hl
         · exact he
     rw[if_neg h5]
     have h6:a=6:=by omega
     subst h6
     by_cases hn2:n=1∨n=2
     rotate_left
     · rw[if_neg hn2];exact .inl (by simp)
     rw[if_pos hn2]
     obtain⟨s',o',d,e,q1,_,q2⟩:=aK1 (s:=p.1) (l:=p.2.1) (c:=p.2.2.1) (o:=p.2.2.2) (by omega) n
     have ee:errD p n=e:=by unfold errD;rw[q1];rfl
     by_cases hd1:p.1≠3∧(n=1→p.1=1)
     · rw[if_pos hd1]
       exact .inr ⟨rfl,.dec1 t k n p t0 t1 hg hn2 hd1.1 hd1.2⟩
     rw[if_neg hd1]
     by_cases hd2:p.1=3∧p.2.2.2=n
     · rw[if_pos hd2]
       exact .inr ⟨rfl,.dec2 t k n p t0 t1 hg hn2 hd2.1 hd2.2⟩
     · rw[if_neg hd2]
       left
       simp only
       rw[ee]
       rcases q2 with⟨_,_,_,hx,hy,_⟩ | ⟨_,_,_,⟨_,_,hx,hy⟩ | ⟨he,_⟩⟩
       · exact absurd ⟨hx,hy⟩ hd1
       · exact absurd ⟨hx,hy⟩ hd2
       · exact he
  rcases key with h | ⟨h,hs⟩
  · rw[if_neg h];exact .err _ _ h
  · rw[if_pos h];exact hs
theorem aPP {K K':List Ho} {k t:Int} {w:Bool} (h:Got K k t w K') {x:Ho} (hx:x∈K):x∈K'∨(x.1=k∧x.2.1=t∧x.2.2=false∧(k,t,w)∈K'):=by
 rcases h with⟨A,b,R,rfl,rfl⟩ | ⟨A,R,rfl,_,_,rfl⟩
 · rcases List.mem_append.1 hx with h | h
   · exact .inl (by simp [h])
   · rcases List.mem_cons.1 h with rfl | h
     · cases b
       · exact .inr ⟨rfl,rfl,rfl,by simp⟩
       · exact .inl (by simp)
     · exact .inl (by simp [h])
 · rcases List.mem_append.1 hx with h | h<;>exact .inl (by simp [h])
theorem aKD {L L' d:Dl} {M M':List (Int × Pt)} (h:∀k,0≤k→k<64→nP L k=nP (aEW M) k) (hL:L'=ofL (L++d)) (hM:∀k,tot (aEW M') k % 18446744073709551616=(tot (aEW M) k+tot d k) % 18446744073709551616):∀k,0≤k→k<64→nP L' k=nP (aEW M') k:=by
 intro k h0 h1
 rw[hL,ofL_sum _ _ h0 h1]
 have:=w64_inj (h k h0 h1)
 unfold nP
 refine aCW ?_
 have h2:=hM k
 rw[jX]
 omega
theorem aPS {s:St} {n:Nat} (I:Inv s n) (hn:n≤999) {r:Rec} (hr:aD4 r):Inv (doF s r).2.2 (n+1):=by
 have hs:=aOA I (by omega) hr
 have hkl:=I.kl
 have hgl:=I.gl
 have hN:(L8.ofL s.L)=s.L:=Led.of I.led
 have sumId:∀{M':List (Int × Pt)},(∀k,tot (aEW M') k % 18446744073709551616=(tot (aEW s.M) k) % 18446744073709551616)→∀k,0≤k→k<64→nP s.L k=nP (aEW M') k:=fun h=>aKD (d:=[]) I.sum (by rw[List.append_nil,hN]) (fun k=>by rw[h k,uF,Int.add_zero])
 -- what a call leaves of others' holds
 have ownF:∀{t:Int} {M':List (Int × Pt)},(∀u,u≠t→gG M' u=gG s.M u)→(∀p,gG M' t=some p→p.1=0∨p.1=1→p.2.2.1=false→False)→∀u p,gG M' u=some p→p.1=0∨p.1=1→p.2.2.1=false→∀d∈p.2.1,(d.1,u,true)∈lI s.K t:=by
  intro t M' h1 h2 u p hp hs hc d hd
  by_cases hu:u=t
  · subst hu;exact(h2 p hp hs hc).elim
  · exact aV0.2 ⟨I.own u p (by rw[← h1 u hu];exact hp) hs hc d hd,hu⟩
 generalize hq:doF s r=q at hs ⊢
 cases hs with
 | err r e he=>exact I.le (by omega)
 | begin t k x t0 t1 hg =>
  refine⟨I.led,I.lk,by simp only;omega,by simp;omega,fun u p hp=>?_,y6 I.nd _ _,fun u p hp hs hc d hd=>?_,sumId fun k=>?_⟩
  · simp only[kI] at hp
    by_cases hu:u=t
    · rw[if_pos hu] at hp;cases hp
      refine⟨⟨⟨by decide,by decide,fun d hd=>(by cases hd),.inr ⟨by decide,rfl,fun h=>(by cases h)⟩⟩,fun d hd=>(by cases hd)⟩,by omega,by omega⟩
    · rw[if_neg hu] at hp;exact I.pt u p hp
  · simp only[kI] at hp
    by_cases hu:u=t
    · rw[if_pos hu] at hp;cases hp;cases hd
    · rw[if_neg hu] at hp;exact I.own u p hp hs hc d hd
  · rw[aGB _ _ hg]
    have:tot (r6 (0,[],false,0)) k=0:=rfl
    omega
 | read t k x p t0 t1 hg h0 hk0 h64 hc hgot =>
  obtain⟨g1,g2,_,_⟩:=hgot.lk I.lk ⟨⟨hk0,h64⟩,t0,t1⟩ hc
  refine⟨I.led,g1,by simp only;omega,by simp;omega,I.pt,I.nd,fun u p hp hs hc d hd=>?_,I.sum⟩
  rcases aPP hgot (I.own u p hp hs hc d hd) with h | ⟨_,_,h,_⟩
  · exact h
  · cases h
 | add t k x p t0 t1 hg h0 hk0 h64 hx hc hgot h5 =>
  obtain⟨g1,g2,_,b',hb',hw⟩:=hgot.lk I.lk ⟨⟨hk0,h64⟩,t0,t1⟩ hc
  have hb:=hw rfl
  subst hb
  have hP:=(I.pt t p hg).1
  obtain⟨q1,q2,q3,q4⟩:=hP.1
  have hq4:p.2.2.2=0∧(p.2.2.1=true→p.1=1):=by
   rcases q4 with⟨h3,_⟩ | ⟨_,h⟩
   · omega
   · exact h
  refine⟨I.led,g1,by simp only;omega,by simp;omega,fun u p' hp=>?_,y6 I.nd _ _,fun u p' hp hs hf d hd=>?_,sumId fun j=>?_⟩
  · simp only[kI] at hp
    by_cases hu:u=t
    · rw[if_pos hu] at hp;cases hp
      refine⟨⟨⟨q1,by simp only[List.length_append,List.length_cons,List.length_nil];omega,fun d hd=>?_,q4⟩,fun d hd=>?_⟩,by omega,by omega⟩
      · rcases List.mem_append.1 hd with h | h
        · exact q3 d h
        · rcases List.mem_singleton.1 h with rfl;exact h64
      · rcases List.mem_append.1 hd with h | h
        · exact hP.2 d h
        · rcases List.mem_singleton.1 h with rfl;exact⟨hk0,hx⟩
    · rw[if_neg hu] at hp;exact I.pt u p' hp
  · simp only[kI] at hp
    have old:∀u p',gG s.M u=some p'→p'.1=0∨p'.1=1→p'.2.2.1=false→∀d∈p'.2.1,(d.1,u,true)∈aBD s.K t k true:=by
     intro u p' hp hs hc d hd
     rcases aPP hgot (I.own u p' hp hs hc d hd) with h | ⟨_,_,h,_⟩
     · exact h
     · cases h
    by_cases hu:u=t
    · rw[if_pos hu] at hp;cases hp
      subst hu
      rcases List.mem_append.1 hd with h | h
      · exact old u p hg hs hf d h
      · rcases List.mem_singleton.1 h with rfl;exact hb'
    · rw[if_neg hu] at hp;exact old u p' hp hs hf d hd
  · rw[sO _ _ hg]
    have e:∀l:Dl,r6 (p.1,l,p.2.2.1,p.2.2.2)=[]:=fun l=>by
     unfold r6 eff
     simp only
     rw[if_neg (by omega),if_neg (by omega),if_neg (by omega)]
    have e1:=e p.2.1
    have e2:=e (p.2.1++[(k,x)])
    rw[e2,show r6 p=[] from e1,uF]
    omega
 | vote t k x p t0 t1 hg h0 =>
  have hP:=(I.pt t p hg).1
  obtain⟨q1,q2,q3,q4⟩:=hP.1
  have hq4:p.2.2.2=0∧p.2.2.1=false:=by
   rcases q4 with⟨h3,_⟩ | ⟨_,h,h'⟩
   · omega
   · refine⟨h,?_⟩
     cases hb:p.2.2.1
     · rfl
     · have:=h' hb;omega
  have hpt:∀v:Int,(v=1∨v=2)→PtOk (v,p.2.1,p.2.2.1,p.2.2.2):=fun v hv=>⟨⟨by simp only;omega,q2,q3,.inr ⟨by simp only;omega,hq4.1,fun h=>by simp only at h;rw[hq4.2] at h;cases h⟩⟩,hP.2⟩
  have ev:∀v:Int,(v=0∨v=1∨v=2)→r6 (v,p.2.1,p.2.2.1,p.2.2.2)=[]:=fun v hv=>by
   unfold r6 eff
   simp only
   rw[hq4.1,hq4.2,if_neg (by omega),if_neg (by simp),if_neg (by simp)]
  have ep:r6 p=[]:=ev p.1 (.inl h0)
  refine⟨I.led,?_,?_,by simp;omega,fun u p' hp=>?_,y6 I.nd _ _,?_,sumId fun k=>?_⟩
  · simp only
    split
    · exact I.lk.free t
    · exact I.lk
  · simp only
    have:=aCK s.K t
    split<;>omega
  · simp only[kI] at hp
    by_cases hu:u=t
    · rw[if_pos hu] at hp;cases hp
      refine⟨?_,by omega,by omega⟩
      split
      · exact hpt 2 (.inr rfl)
      · exact hpt 1 (.inl rfl)
    · rw[if_neg hu] at hp;exact I.pt u p' hp
  · simp only
    by_cases hx:x=0
    · rw[if_pos hx,if_pos hx]
      refine ownF (fun u hu=>by rw[kI,if_neg hu]) (fun p' hp hs _=>?_)
      rw[kI,if_pos rfl] at hp
      cases hp
      simp only at hs
      omega
    · rw[if_neg hx,if_neg hx]
      intro u p' hp hs hc d hd
      rw[kI] at hp
      by_cases hu:u=t
      · rw[if_pos hu] at hp;cases hp
        subst hu
        exact I.own u p hg (.inl h0) hq4.2 d hd
      · rw[if_neg hu] at hp;exact I.own u p' hp hs hc d hd
  · rw[sO _ _ hg,ep]
    have:r6 (if x=0 then 2 else 1,p.2.1,p.2.2.1,p.2.2.2)=[]:=by
     split
     · exact ev 2 (by omega)
     · exact ev 1 (by omega)
    rw[this,uF]
    omega
 | loc t k x p t0 t1 hg h1 hf =>
  have hP:=(I.pt t p hg).1
  obtain⟨q1,q2,q3,q4⟩:=hP.1
  have hq4:p.2.2.2=0:=by
   rcases q4 with⟨h3,_⟩ | ⟨_,h,h'⟩
   · omega
   · exact h
  have:=aCK s.K t
  refine⟨aIZ _,I.lk.free t,by simp only;omega,by simp;omega,fun u p' hp=>?_,y6 I.nd _ _,?_,aKD I.sum rfl fun k=>?_⟩
  · simp only[kI] at hp
    by_cases hu:u=t
    · rw[if_pos hu] at hp;cases hp
      exact⟨⟨⟨q1,q2,q3,.inr ⟨by simp only;omega,hq4,fun _=>h1⟩⟩,hP.2⟩,by omega,by omega⟩
    · rw[if_neg hu] at hp;exact I.pt u p' hp
  · refine ownF (fun u hu=>by rw[kI,if_neg hu]) (fun p' hp hs hc=>?_)
    rw[kI,if_pos rfl] at hp
    cases hp
    cases hc
  · rw[sO _ _ hg]
    have e1:r6 p=[]:=by unfold r6 eff;rw[hq4,hf,if_neg (by omega),if_neg (by simp),if_neg (by simp)]
    have e2:r6 (p.1,p.2.1,true,p.2.2.2)=p.2.1:=by unfold r6;dsimp only;unfold eff;rw[hq4,if_neg (by omega),if_pos ⟨h1,rfl⟩]
    rw[e1,e2,uF]
    omega
 | dec1 t k x p t0 t1 hg hx h3 h1 =>
  have hP:=(I.pt t p hg).1
  obtain⟨q1,q2,q3,q4⟩:=hP.1
  have hq4:p.2.2.2=0∧(p.2.2.1=true→p.1=1):=by
   rcases q4 with⟨h3,_⟩ | ⟨_,h⟩
   · omega
   · exact h
  have:=aCK s.K t
  refine⟨aIZ _,I.lk.free t,by simp only;omega,by simp;omega,fun u p' hp=>?_,y6 I.nd _ _,?_,aKD I.sum rfl fun k=>?_⟩
  · simp only[kI] at hp
    by_cases hu:u=t
    · rw[if_pos hu] at hp;cases hp
      exact⟨⟨⟨by simp,q2,q3,.inl ⟨rfl,hx⟩⟩,hP.2⟩,by omega,by omega⟩
    · rw[if_neg hu] at hp;exact I.pt u p' hp
  · refine ownF (fun u hu=>by rw[kI,if_neg hu]) (fun p' hp hs hc=>?_)
    rw[kI,if_pos rfl] at hp
    cases hp
    simp only at hs
    omega
  · rw[sO _ _ hg]
    have ho:=tot_opp p.2.1 k
    cases hc:p.2.2.1
    · have e1:r6 p=[]:=by unfold r6 eff;rw[hq4.1,hc,if_neg (by omega),if_neg (by simp),if_neg (by simp)]
      rw[e1,uF]
      rcases hx with rfl | rfl
      · have e2:r6 (3,p.2.1,false,1)=p.2.1:=by unfold r6;dsimp only;unfold eff;rw[if_pos rfl]
        have e3:dec p.2.1 false 1=p.2.1:=by unfold dec;rw[if_pos rfl,if_neg (by simp)]
        rw[e2,e3];omega
      · have e2:r6 (3,p.2.1,false,2)=[]:=by unfold r6;dsimp only;unfold eff;rw[if_neg (by omega),if_neg (by simp),if_neg (by simp)]
        have e3:dec p.2.1 false 2=[]:=by unfold dec;rw[if_neg (by omega),if_neg (by simp)]
        rw[e2,e3,uF];omega
    · have h1':=hq4.2 hc
      have e1:r6 p=p.2.1:=by unfold r6 eff;rw[hq4.1,hc,if_neg (by omega),if_pos ⟨h1',rfl⟩]
      rw[e1]
      rcases hx with rfl | rfl
      · have e2:r6 (3,p.2.1,true,1)=p.2.1:=by unfold r6;dsimp only;unfold eff;rw[if_pos rfl]
        have e3:dec p.2.1 true 1=[]:=by unfold dec;rw[if_pos rfl,if_pos rfl]
        rw[e2,e3,uF];omega
      · have e2:r6 (3,p.2.1,true,2)=p.2.1++w7 p.2.1:=by unfold r6;dsimp only;unfold eff;rw[if_neg (by omega),if_neg (by omega),if_pos ⟨rfl,rfl⟩]
        have e3:dec p.2.1 true 2=w7 p.2.1:=by unfold dec;rw[if_neg (by omega),if_pos rfl]
        rw[e2,e3,jX];omega
 | dec2 t k x p t0 t1 hg hx h3 ho =>
  have hmp:d7 s.M t p=s.M:=aK4 hg
  have:=aCK s.K t
  simp only[hmp]
  refine⟨I.led,I.lk.free t,by simp only;omega,by simp;omega,I.pt,I.nd,?_,I.sum⟩
  refine ownF (fun u hu=>rfl) (fun p' hp hs hc=>?_)
  rw[hg] at hp
  cases hp
  omega
end Go.Ws.L10
