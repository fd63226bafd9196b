/-
  Locks, plain: what the functions make of them.
  Conditions: none.
-/
import Derived.Test.YtipeekdnpocclaaZPlain
import Derived.Test.YtipeekdnpocclaaZCLockT
import Derived.KernelRfl
set_option linter.unusedVariables false
set_option linter.unusedSimpArgs false
namespace Go.Ws.L7
open Go.Ws
set_option linter.unusedVariables false
set_option linter.unusedSimpArgs false
set_option maxHeartbeats 1000000

theorem hZ (l:List Ho) (h:l.length≤1000000):l9 l=some ():=by
 rw[l9,lT]
 repeat (first|refine ip0 ?_|refine jn0 ?_|refine el ?_|refine er ?_)
 rfl
theorem aRL {l:List Ho} {k t:Int} (hl:l.length≤100000):∀(d i:Nat) (v:Int),l.length - i=d→i≤l.length→v=(i:Int) →
 ∃q,gV l t k v=some q∧Sum.elim (fun _=>0) (fun x=>x) q=n9 (l.drop i) t k:=by
 intro d
 induction d with
 | zero =>
  intro i v hd hi hv
  refine⟨.inl (),?_,by rw[List.drop_of_length_le (by omega)];rfl⟩
  rw[lP]
  repeat (first|refine ip0 ?_|refine jn0 ?_|refine el ?_|refine er ?_)
  rfl
 | succ d ih =>
  intro i v hd hi hv
  have hlt:i<l.length:=by omega
  have ed:l.drop i=l[i]::l.drop (i+1):=List.drop_eq_getElem_cons hlt
  rw[ed,n9]
  by_cases hk:l[i].1=k∧l[i].2.1=t
  · obtain⟨h1,h2⟩:=hk
    rw[if_pos ⟨h1,h2⟩]
    cases hb:l[i].2.2
    · refine⟨.inr 1,?_,rfl⟩
      rw[lP]
      repeat (first|refine ip (by first|with_reducible rfl | assumption | (simp (disch:=omega) only[ws,wl,wb,hb]<;>omega)|omega) ?_|refine jn (by first|with_reducible rfl | assumption | (simp (disch:=omega) only[ws,wl,wb,hb]<;>omega)|omega) ?_|refine(bnd (eJ hv hlt)).trans ?_|refine el ?_|refine er ?_)
      rfl
    · refine⟨.inr 2,?_,rfl⟩
      rw[lP]
      repeat (first|refine ip (by first|with_reducible rfl | assumption | (simp (disch:=omega) only[ws,wl,wb,hb]<;>omega)|omega) ?_|refine jn (by first|with_reducible rfl | assumption | (simp (disch:=omega) only[ws,wl,wb,hb]<;>omega)|omega) ?_|refine(bnd (eJ hv hlt)).trans ?_|refine el ?_|refine er ?_)
      rfl
  · rw[if_neg hk]
    have e:gV l t k v=gV l t k (aH .i64 v 1):=by
     rw[lP]
     by_cases h1:l[i].1=k
     · have h2:l[i].2.1≠t:=fun h2=>hk ⟨h1,h2⟩
       repeat (first|refine ip0 ?_|refine jn0 ?_|refine(bnd (eJ hv hlt)).trans ?_|refine el ?_|refine er ?_)
       rfl
     · repeat (first|refine ip0 ?_|refine jn0 ?_|refine(bnd (eJ hv hlt)).trans ?_|refine el ?_|refine er ?_)
       rfl
    rw[e]
    exact ih (i+1) _ (by omega) (by omega) sd
theorem aQ3 {l:List Ho} (hl:l.length≤100000) (t k:Int):v5 l t k=some (n9 l t k):=by
 obtain⟨q,q1,q2⟩:=aRL (k:=k) (t:=t) hl _ 0 0 rfl (by omega) rfl
 rw[v5]
 rw[List.drop_zero] at q2
 rw[← q2]
 refine(bnd q1).trans ?_
 cases q<;>rfl
theorem cmp_val (a k:Int):bD a k=if a<k then -1 else if k<a then 1 else 0:=by
 have hn:∀x:Int,iG x=false:=fun x=>by unfold iG;rw[qL];rfl
 unfold bD
 rw[hn,hn]
 simp only[Bool.false_eq_true,if_false,pJ]
theorem cmp_val2 (a k:Int):dK a k=if a<k then -1 else if k<a then 1 else 0:=by
 have hn:∀x:Int,eR x=false:=fun x=>by unfold eR;rw[qL];rfl
 unfold dK
 rw[hn,hn]
 simp only[Bool.false_eq_true,if_false,pJ]
theorem or_ok (x y:Int):zD [x,y]=some (if x=0 then y else x):=by
 have g0:([x,y]:List Int)[tN 0]? = some x:=rfl
 have g1:([x,y]:List Int)[tN (aH .i64 0 1)]? = some y:=rfl
 rw[zD]
 by_cases hx:x=0
 · rw[if_pos hx]
   by_cases hy:y=0
   · have:nU [x,y] 0=some (.inl ()):=by
      rw[lX]
      repeat (first|refine ip0 ?_|refine jn0 ?_|refine(bnd g0).trans ?_|refine el ?_|refine er ?_)
      rw[lX]
      repeat (first|refine ip0 ?_|refine jn0 ?_|refine(bnd g1).trans ?_|refine el ?_|refine er ?_)
      rw[lX]
      repeat (first|refine ip0 ?_|refine jn0 ?_|refine el ?_|refine er ?_)
      rfl
     repeat (first|refine ip0 ?_|refine jn0 ?_|refine(bnd this).trans ?_|refine el ?_|refine er ?_)
     rw[hy]
   · have:nU [x,y] 0=some (.inr y):=by
      rw[lX]
      repeat (first|refine ip0 ?_|refine jn0 ?_|refine(bnd g0).trans ?_|refine el ?_|refine er ?_)
      rw[lX]
      repeat (first|refine ip0 ?_|refine jn0 ?_|refine(bnd g1).trans ?_|refine el ?_|refine er ?_)
      rfl
     repeat (first|refine ip0 ?_|refine jn0 ?_|refine(bnd this).trans ?_|refine el ?_|refine er ?_)
     rfl
 · rw[if_neg hx]
   have:nU [x,y] 0=some (.inr x):=by
    rw[lX]
    repeat (first|refine ip0 ?_|refine jn0 ?_|refine(bnd g0).trans ?_|refine el ?_|refine er ?_)
    rfl
   repeat (first|refine ip0 ?_|refine jn0 ?_|refine(bnd this).trans ?_|refine el ?_|refine er ?_)
   rfl
def aFS (a b:Ho):Prop:=a.1<b.1∨(a.1=b.1∧a.2.1<b.2.1)
theorem aHB (a b:Ho):∃o,mT a.1 a.2.1 a.2.2 b.1 b.2.1 b.2.2=some o∧(o<0↔aFS a b)∧(o=0↔a.1=b.1∧a.2.1=b.2.1):=by
 have h:=or_ok (bD a.1 b.1) (dK a.2.1 b.2.1)
 refine⟨if bD a.1 b.1=0 then dK a.2.1 b.2.1 else bD a.1 b.1,?_,?_⟩
 · rw[mT]
   repeat (first|refine ip0 ?_|refine jn0 ?_|refine(bnd h).trans ?_|refine el ?_|refine er ?_)
   rfl
 · rw[cmp_val,cmp_val2]
   unfold aFS
   constructor<;>(repeat' split)<;>omega
def aEO (h:Ho):Prop:=h.1<64∧0≤h.2.1∧h.2.1<1000
theorem vH (t k:Int):(iE t k=true↔k<64∧0≤t∧t<1000)∧(nH t k=true↔k<64∧0≤t∧t<1000):=by
 unfold iE nH
 by_cases h1:k<64
 · rw[if_pos (pJ.2 h1)]
   by_cases h2:t<0
   · rw[if_pos (pJ.2 h2)];simp;omega
   · rw[if_neg (fun h=>h2 (pJ.1 h)),pJ];omega
 · rw[if_neg (fun h=>h1 (pJ.1 h))];simp;omega
def okP (l:List Ho) (i:Nat):Prop:=∀h,l[i]? = some h→aEO h∧(0<i→∀e,l[i - 1]? = some e→aFS e h∧(e.1=h.1→e.2.2=false∧h.2.2=false))
def okR (l:List Ho) (i:Nat):Prop:=∀h,l[i]? = some h→aEO h∧(0<i→∀e,l[i - 1]? = some e→aFS e h)∧(∀j e,j≠i→l[j]? = some e→e.1=h.1→h.2.2=false)
def aDJ (p:Nat→Prop) (i:Nat):Prop:=∀j,i≤j→p j
theorem aEF {p:Nat→Prop} {i:Nat}:aDJ p i↔p i∧aDJ p (i+1):=by
 constructor
 · exact fun h=>⟨h i (Nat.le_refl _),fun j hj=>h j (by omega)⟩
 · rintro⟨h1,h2⟩ j hj
   by_cases e:j=i
   · subst e;exact h1
   · exact h2 j (by omega)
theorem okP_end {l:List Ho} {i:Nat} (h:l.length≤i):aDJ (okP l) i:=fun j hj d hd=>by
 rw[List.getElem?_eq_none (by omega)] at hd;cases hd
theorem okR_end {l:List Ho} {i:Nat} (h:l.length≤i):aDJ (okR l) i:=fun j hj d hd=>by
 rw[List.getElem?_eq_none (by omega)] at hd;cases hd
theorem aQE {l : List Ho} {i : Nat} (h : i < l.length) : okP l i ↔ aEO l[i] ∧ ∀ h0 : 0 < i, aFS (l[i - 1]'(by omega)) l[i] ∧ ((l[i - 1]'(by omega)).1 = l[i].1 → (l[i - 1]'(by omega)).2.2 = false ∧ l[i].2.2 = false) := by
 unfold okP
 constructor
 · intro hh
   obtain⟨h1,h2⟩:=hh _ (List.getElem?_eq_getElem h)
   exact⟨h1,fun h0=>h2 h0 _ (List.getElem?_eq_getElem _)⟩
 · rintro⟨h1,h2⟩ d hd
   rw[List.getElem?_eq_getElem h] at hd
   cases hd
   refine⟨h1,fun h0 e he=>?_⟩
   rw[List.getElem?_eq_getElem (show i - 1<l.length by omega)] at he
   cases he
   exact h2 h0
abbrev WfH (l:List Ho):Prop:=∀h∈l,0≤h.1
theorem Lk.wf {l:List Ho} (h:Lk l):WfH l:=fun x hx=>(h.2.1 x hx).1.1
theorem aHS {h:Ho} (h0:0≤h.1):aEO h↔May h:=by unfold aEO May;omega
theorem aF5 {l:List Ho} (hw:WfH l):Lk l↔aDJ (okP l) 0:=by
 constructor
 · rintro⟨h1,h2,h3⟩ j _ d hd
   obtain⟨hj,he⟩:=List.getElem?_eq_some_iff.1 hd
   have hm:=h2 d (List.mem_of_getElem? hd)
   refine⟨(aHS hm.1.1).2 hm,fun h0 e he2=>?_⟩
   obtain⟨hj2,he3⟩:=List.getElem?_eq_some_iff.1 he2
   have hme:=h2 e (List.mem_of_getElem? he2)
   have:=List.pairwise_iff_getElem.1 h1 (j - 1) j hj2 hj (by omega)
   rw[he,he3] at this
   have hx:=(aMG hme hm).1 this
   refine⟨hx,fun hk=>?_⟩
   have ht:e.2.1≠d.2.1:=by rcases hx with hx | hx<;>omega
   exact⟨h3 e (List.mem_of_getElem? he2) d (List.mem_of_getElem? hd) hk ht,h3 d (List.mem_of_getElem? hd) e (List.mem_of_getElem? he2) hk.symm (Ne.symm ht)⟩
 · intro h
   have hm:∀x∈l,May x:=fun x hx=>by
    obtain⟨j,hj⟩:=List.mem_iff_getElem?.1 hx
    exact(aHS (hw x hx)).1 (h j (Nat.zero_le _) x hj).1
   have adj:∀i (hi:i+1<l.length),aFS l[i] l[i+1]∧(l[i].1=l[i+1].1→l[i].2.2=false∧l[i+1].2.2=false):=fun i hi=>((aQE hi).1 (h (i+1) (Nat.zero_le _))).2 (by omega)
   have step:∀i (hi:i+1<l.length),cd l[i]<cd l[i+1]:=fun i hi=>(aMG (hm _ (List.getElem_mem _)) (hm _ (List.getElem_mem _))).2 (adj i hi).1
   have hp:l.Pairwise (fun a b=>cd a<cd b):=by
    rw[List.pairwise_iff_getElem]
    intro i j hi hj hij
    obtain⟨k,rfl⟩:∃k,j=i+1+k:=⟨j - i - 1,by omega⟩
    induction k with
    | zero=>exact step i hj
    | succ k ih =>
     have:=ih (by omega) (by omega)
     have:=step (i+1+k) (by omega)
     have e:i+1+(k+1)=i+1+k+1:=by omega
     simp only[e]
     omega
   have key:∀i j (hi:i<l.length) (hj:j<l.length),i≤j→l[i].1≤l[j].1:=fun i j hi hj hij=>by
    by_cases e:i=j
    · subst e;omega
    · have:=(aMG (hm _ (List.getElem_mem hi)) (hm _ (List.getElem_mem hj))).1 (List.pairwise_iff_getElem.1 hp i j hi hj (by omega))
      omega
   refine⟨hp,hm,fun a ha b hb hk ht=>?_⟩
   obtain⟨i,hi,rfl⟩:=List.mem_iff_getElem.1 ha
   obtain⟨j,hj,rfl⟩:=List.mem_iff_getElem.1 hb
   rcases Nat.lt_trichotomy i j with hlt | rfl | hgt
   · have h1:=key i (i+1) hi (by omega) (by omega)
     have h2:=key (i+1) j (by omega) hj (by omega)
     exact((adj i (by omega)).2 (by omega)).1
   · exact absurd rfl ht
   · obtain⟨i',rfl⟩:∃i',i=i'+1:=⟨i - 1,by omega⟩
     have h1:=key i' (i'+1) (by omega) hi (by omega)
     have h2:=key j i' hj (by omega) (by omega)
     exact((adj i' hi).2 (by omega)).2
theorem aPU {l:List Ho} (hw:WfH l):Lk l↔aDJ (okR l) 0:=by
 constructor
 · intro h j _ d hd
   obtain⟨h1,h2⟩:=(aF5 hw).1 h j (Nat.zero_le _) d hd
   refine⟨h1,fun h0 e he=>(h2 h0 e he).1,fun i e hij he hk=>?_⟩
   obtain⟨hj,hje⟩:=List.getElem?_eq_some_iff.1 hd
   obtain⟨hi,hie⟩:=List.getElem?_eq_some_iff.1 he
   refine h.2.2 d (List.mem_of_getElem? hd) e (List.mem_of_getElem? he) hk.symm fun ht=>?_
   have hm1:=h.2.1 d (List.mem_of_getElem? hd)
   have hm2:=h.2.1 e (List.mem_of_getElem? he)
   have hc:=(cd_eq hm1 hm2).2 ⟨hk.symm,ht⟩
   rcases Nat.lt_or_gt_of_ne hij with hlt | hgt
   · have:=List.pairwise_iff_getElem.1 h.1 i j hi hj hlt
     rw[hje,hie] at this;omega
   · have:=List.pairwise_iff_getElem.1 h.1 j i hj hi hgt
     rw[hje,hie] at this;omega
 · intro h
   refine(aF5 hw).2 fun j _ d hd=>?_
   obtain⟨h1,h2,h3⟩:=h j (Nat.zero_le _) d hd
   refine⟨h1,fun h0 e he=>⟨h2 h0 e he,fun hk=>⟨?_,h3 (j - 1) e (by omega) he hk⟩⟩⟩
   obtain⟨_,_,h4⟩:=h (j - 1) (Nat.zero_le _) e he
   exact h4 j d (by omega) hd hk.symm
theorem aIH {l:List Ho} (hl:l.length≤100000):∀(d i:Nat) (v:Int),l.length - i=d→i≤l.length→v=(i:Int)→(aDJ (okP l) i→dJ l v=some (.inl ()))∧(¬aDJ (okP l) i→dJ l v=some (.inr false)):=by
 intro d
 induction d with
 | zero =>
  intro i v hd hi hv
  refine⟨fun _=>?_,fun h=>absurd (okP_end (by omega)) h⟩
  rw[fW]
  repeat (first|refine ip0 ?_|refine jn0 ?_|refine el ?_|refine er ?_)
  rfl
 | succ d ih =>
  intro i v hd hi hv
  have hlt:i<l.length:=by omega
  obtain⟨q1,q2⟩:=ih (i+1) (aH .i64 v 1) (by omega) (by omega) sd
  rw[aEF,aQE hlt]
  have hmi:=(vH l[i].2.1 l[i].1).1
  by_cases h1:aEO l[i]
  rotate_left
  · have hm:¬iE l[i].2.1 l[i].1=true:=fun h=>h1 (hmi.1 h)
    refine⟨fun h=>absurd h.1.1 h1,fun _=>?_⟩
    rw[fW]
    repeat (first|refine ip (by first|with_reducible rfl | assumption | (simp (disch:=omega) only[ws,wl,wb,hm]<;>omega)|omega) ?_|refine jn (by first|with_reducible rfl | assumption | (simp (disch:=omega) only[ws,wl,wb,hm]<;>omega)|omega) ?_|refine(bnd (eJ hv hlt)).trans ?_|refine el ?_|refine er ?_)
    rfl
  have hm:iE l[i].2.1 l[i].1=true:=hmi.2 h1
  by_cases h0:0<i
  rotate_left
  · have e:dJ l v=dJ l (aH .i64 v 1):=by
     rw[fW]
     repeat (first|refine ip (by first|with_reducible rfl | assumption | (simp (disch:=omega) only[ws,wl,wb,hm]<;>omega)|omega) ?_|refine jn (by first|with_reducible rfl | assumption | (simp (disch:=omega) only[ws,wl,wb,hm]<;>omega)|omega) ?_|refine(bnd (eJ hv hlt)).trans ?_|refine el ?_|refine er ?_)
     rfl
    rw[e]
    exact⟨fun h=>q1 h.2,fun h=>q2 fun hh=>h ⟨⟨h1,fun h=>absurd h h0⟩,hh⟩⟩
  have g2:=eJ (l:=l) (q:=sQ .i64 v 1) (i:=i - 1) (by rw[aHU (by omega)];omega) (by omega)
  obtain ⟨o, o1, o2, _⟩ := aHB (l[i - 1]'(by omega)) l[i]
  by_cases h2 : aFS (l[i - 1]'(by omega)) l[i]
  rotate_left
  · have ho:¬o<0:=fun h=>h2 (o2.1 h)
    refine⟨fun h=>absurd (h.1.2 h0).1 h2,fun _=>?_⟩
    rw[fW]
    repeat (first|refine ip (by first|with_reducible rfl | assumption | (simp (disch:=omega) only[ws,wl,wb,hm]<;>omega)|omega) ?_|refine jn (by first|with_reducible rfl | assumption | (simp (disch:=omega) only[ws,wl,wb,hm]<;>omega)|omega) ?_|refine(bnd (eJ hv hlt)).trans ?_|refine(bnd g2).trans ?_|refine(bnd o1).trans ?_|refine el ?_|refine er ?_)
    rfl
  have ho:o<0:=o2.2 h2
  by_cases hk : (l[i - 1]'(by omega)).1 = l[i].1
  rotate_left
  · have e:dJ l v=dJ l (aH .i64 v 1):=by
     rw[fW]
     repeat (first|refine ip (by first|with_reducible rfl | assumption | (simp (disch:=omega) only[ws,wl,wb,hm]<;>omega)|omega) ?_|refine jn (by first|with_reducible rfl | assumption | (simp (disch:=omega) only[ws,wl,wb,hm]<;>omega)|omega) ?_|refine(bnd (eJ hv hlt)).trans ?_|refine(bnd g2).trans ?_|refine(bnd o1).trans ?_|refine el ?_|refine er ?_)
     rfl
    rw[e]
    exact⟨fun h=>q1 h.2,fun h=>q2 fun hh=>h ⟨⟨h1,fun _=>⟨h2,fun h=>absurd h hk⟩⟩,hh⟩⟩
  cases hb1 : (l[i - 1]'(by omega)).2.2
  · cases hb2:l[i].2.2
    · have e:dJ l v=dJ l (aH .i64 v 1):=by
       rw[fW]
       repeat (first|refine ip (by first|with_reducible rfl | assumption | (simp (disch:=omega) only[ws,wl,wb,hm,hb1,hb2]<;>omega)|omega) ?_|refine jn (by first|with_reducible rfl | assumption | (simp (disch:=omega) only[ws,wl,wb,hm,hb1,hb2]<;>omega)|omega) ?_|refine(bnd (eJ hv hlt)).trans ?_|refine(bnd g2).trans ?_|refine(bnd o1).trans ?_|refine el ?_|refine er ?_)
       rfl
      rw[e]
      exact⟨fun h=>q1 h.2,fun h=>q2 fun hh=>h ⟨⟨h1,fun _=>⟨h2,fun _=>⟨hb1,rfl⟩⟩⟩,hh⟩⟩
    · refine⟨fun h=>absurd ((h.1.2 h0).2 hk).2 (by simp),fun _=>?_⟩
      rw[fW]
      repeat (first|refine ip (by first|with_reducible rfl | assumption | (simp (disch:=omega) only[ws,wl,wb,hm,hb1,hb2]<;>omega)|omega) ?_|refine jn (by first|with_reducible rfl | assumption | (simp (disch:=omega) only[ws,wl,wb,hm,hb1,hb2]<;>omega)|omega) ?_|refine(bnd (eJ hv hlt)).trans ?_|refine(bnd g2).trans ?_|refine(bnd o1).trans ?_|refine el ?_|refine er ?_)
      rfl
  · refine⟨fun h=>absurd ((h.1.2 h0).2 hk).1 (by rw[hb1];simp),fun _=>?_⟩
    rw[fW]
    repeat (first|refine ip (by first|with_reducible rfl | assumption | (simp (disch:=omega) only[ws,wl,wb,hm,hb1]<;>omega)|omega) ?_|refine jn (by first|with_reducible rfl | assumption | (simp (disch:=omega) only[ws,wl,wb,hm,hb1]<;>omega)|omega) ?_|refine(bnd (eJ hv hlt)).trans ?_|refine(bnd g2).trans ?_|refine(bnd o1).trans ?_|refine el ?_|refine er ?_)
    rfl
theorem z3 {l:List Ho} (h:Lk l) (hl:l.length≤100000):mJ l=some true:=by
 rw[mJ]
 repeat (first|refine ip0 ?_|refine jn0 ?_|refine(bnd ((aIH hl _ 0 0 rfl (by omega) rfl).1 ((aF5 h.wf).1 h))).trans ?_|refine el ?_|refine er ?_)
 rfl
theorem pright_f {l:List Ho} (hw:WfH l) (hl:l.length≤100000) (h:¬Lk l):mJ l=some false:=by
 rw[mJ]
 repeat (first|refine ip0 ?_|refine jn0 ?_|refine(bnd ((aIH hl _ 0 0 rfl (by omega) rfl).2 (fun hh=>h ((aF5 hw).2 hh)))).trans ?_|refine el ?_|refine er ?_)
 rfl
def aHF (l:List Ho) (h:Ho) (i j:Nat):Prop:=∀e,j≠i→l[j]? = some e→e.1=h.1→h.2.2=false
theorem rin_l1 {l:List Ho} {h:Ho} {iv:Int} {n:Nat} (hl:l.length≤100000) (hiv:iv=(n:Int)):∀(d i:Nat) (v:Int),l.length - i=d→i≤l.length→v=(i:Int) →
 (aDJ (aHF l h n) i→bI l h v iv=some (.inl iv))∧(¬aDJ (aHF l h n) i→bI l h v iv=some (.inr false)):=by
 intro d
 induction d with
 | zero =>
  intro i v hd hi hv
  refine⟨fun _=>?_,fun hh=>absurd (fun j hj e _ he=>by rw[List.getElem?_eq_none (by omega)] at he;cases he) hh⟩
  rw[jS]
  repeat (first|refine ip0 ?_|refine jn0 ?_|refine el ?_|refine er ?_)
  rfl
 | succ d ih =>
  intro i v hd hi hv
  have hlt:i<l.length:=by omega
  obtain⟨q1,q2⟩:=ih (i+1) (aH .i64 v 1) (by omega) (by omega) sd
  rw[aEF]
  by_cases hin:i=n
  · have e:bI l h v iv=bI l h (aH .i64 v 1) iv:=by
     rw[jS]
     repeat (first|refine ip0 ?_|refine jn0 ?_|refine el ?_|refine er ?_)
     rfl
    rw[e]
    exact⟨fun h=>q1 h.2,fun h=>q2 fun hh=>h ⟨fun e he=>absurd hin he,hh⟩⟩
  by_cases hk:l[i].1=h.1
  · cases hb:h.2.2
    · have e:bI l h v iv=bI l h (aH .i64 v 1) iv:=by
       rw[jS]
       repeat (first|refine ip (by first|with_reducible rfl | assumption | (simp (disch:=omega) only[ws,wl,wb,hb]<;>omega)|omega) ?_|refine jn (by first|with_reducible rfl | assumption | (simp (disch:=omega) only[ws,wl,wb,hb]<;>omega)|omega) ?_|refine(bnd (eJ hv hlt)).trans ?_|refine el ?_|refine er ?_)
       rfl
      rw[e]
      exact⟨fun h=>q1 h.2,fun h=>q2 fun hh=>h ⟨fun _ _ _ _=>hb,hh⟩⟩
    · refine⟨fun hh=>absurd (hh.1 _ hin (List.getElem?_eq_getElem hlt) hk) (by rw[hb];simp),fun _=>?_⟩
      rw[jS]
      repeat (first|refine ip (by first|with_reducible rfl | assumption | (simp (disch:=omega) only[ws,wl,wb,hb]<;>omega)|omega) ?_|refine jn (by first|with_reducible rfl | assumption | (simp (disch:=omega) only[ws,wl,wb,hb]<;>omega)|omega) ?_|refine(bnd (eJ hv hlt)).trans ?_|refine el ?_|refine er ?_)
      rfl
  · have e:bI l h v iv=bI l h (aH .i64 v 1) iv:=by
     rw[jS]
     repeat (first|refine ip0 ?_|refine jn0 ?_|refine(bnd (eJ hv hlt)).trans ?_|refine el ?_|refine er ?_)
     rfl
    rw[e]
    exact⟨fun h=>q1 h.2,fun h=>q2 fun hh=>h ⟨fun e _ he hke=>by rw[List.getElem?_eq_getElem hlt] at he;cases he;exact absurd hke hk,hh⟩⟩
theorem xE {l:List Ho} (hl:l.length≤100000):∀(d i:Nat) (v:Int),l.length - i=d→i≤l.length→v=(i:Int)→(aDJ (okR l) i→fC l v=some (.inl ()))∧(¬aDJ (okR l) i→fC l v=some (.inr false)):=by
 intro d
 induction d with
 | zero =>
  intro i v hd hi hv
  refine⟨fun _=>?_,fun h=>absurd (okR_end (by omega)) h⟩
  rw[lU]
  repeat (first|refine ip0 ?_|refine jn0 ?_|refine el ?_|refine er ?_)
  rfl
 | succ d ih =>
  intro i v hd hi hv
  have hlt:i<l.length:=by omega
  obtain⟨q1,q2⟩:=ih (i+1) (aH .i64 v 1) (by omega) (by omega) sd
  rw[aEF]
  have gi:=List.getElem?_eq_getElem hlt
  have hmi:=(vH l[i].2.1 l[i].1).2
  by_cases h1:aEO l[i]
  rotate_left
  · have hm:¬nH l[i].2.1 l[i].1=true:=fun h=>h1 (hmi.1 h)
    refine⟨fun h=>absurd (h.1 _ gi).1 h1,fun _=>?_⟩
    rw[lU]
    repeat (first|refine ip (by first|with_reducible rfl | assumption | (simp (disch:=omega) only[ws,wl,wb,hm]<;>omega)|omega) ?_|refine jn (by first|with_reducible rfl | assumption | (simp (disch:=omega) only[ws,wl,wb,hm]<;>omega)|omega) ?_|refine(bnd (eJ hv hlt)).trans ?_|refine el ?_|refine er ?_)
    rfl
  have hm:nH l[i].2.1 l[i].1=true:=hmi.2 h1
  obtain⟨r1,r2⟩:=rin_l1 (h:=l[i]) (iv:=v) (n:=i) hl hv _ 0 0 rfl (by omega) rfl
  have hin : (0 < i → aFS (l[i - 1]'(by omega)) l[i]) → (∃ q, bI l l[i] 0 v = some q ∧ fC l v = Sum.elim (fun x => fC l (aH .i64 x 1)) (fun x => some (.inr x)) q) := by
   intro hx
   have hq:∃q,bI l l[i] 0 v=some q:=by
    by_cases ha:aDJ (aHF l l[i] i) 0
    · exact⟨_,r1 ha⟩
    · exact⟨_,r2 ha⟩
   obtain⟨q,hq⟩:=hq
   refine⟨q,hq,?_⟩
   rw[lU]
   by_cases h0:0<i
   · have g2:=eJ (l:=l) (q:=sQ .i64 v 1) (i:=i - 1) (by rw[aHU (by omega)];omega) (by omega)
     by_cases hk : (l[i - 1]'(by omega)).1 < l[i].1
     · repeat (first|refine ip (by first|with_reducible rfl | assumption | (simp (disch:=omega) only[ws,wl,wb,hm]<;>omega)|omega) ?_|refine jn (by first|with_reducible rfl | assumption | (simp (disch:=omega) only[ws,wl,wb,hm]<;>omega)|omega) ?_|refine(bnd (eJ hv hlt)).trans ?_|refine(bnd g2).trans ?_|refine(bnd hq).trans ?_|refine el ?_|refine er ?_)
       rfl
     · have h2:=hx h0
       unfold aFS at h2
       repeat (first|refine ip (by first|with_reducible rfl | assumption | (simp (disch:=omega) only[ws,wl,wb,hm]<;>omega)|omega) ?_|refine jn (by first|with_reducible rfl | assumption | (simp (disch:=omega) only[ws,wl,wb,hm]<;>omega)|omega) ?_|refine(bnd (eJ hv hlt)).trans ?_|refine(bnd g2).trans ?_|refine(bnd hq).trans ?_|refine el ?_|refine er ?_)
       rfl
   · repeat (first|refine ip (by first|with_reducible rfl | assumption | (simp (disch:=omega) only[ws,wl,wb,hm]<;>omega)|omega) ?_|refine jn (by first|with_reducible rfl | assumption | (simp (disch:=omega) only[ws,wl,wb,hm]<;>omega)|omega) ?_|refine(bnd (eJ hv hlt)).trans ?_|refine(bnd hq).trans ?_|refine el ?_|refine er ?_)
     rfl
  by_cases h2 : 0 < i → aFS (l[i - 1]'(by omega)) l[i]
  rotate_left
  · have h0:0<i:=Classical.byContradiction fun h=>h2 fun hh=>absurd hh h
    have h2' : ¬ aFS (l[i - 1]'(by omega)) l[i] := fun h => h2 fun _ => h
    have g2:=eJ (l:=l) (q:=sQ .i64 v 1) (i:=i - 1) (by rw[aHU (by omega)];omega) (by omega)
    refine⟨fun h=>absurd ((h.1 _ gi).2.1 h0 _ (List.getElem?_eq_getElem (by omega))) h2',fun _=>?_⟩
    unfold aFS at h2'
    rw[lU]
    by_cases hk : (l[i - 1]'(by omega)).1 = l[i].1
    · repeat (first|refine ip (by first|with_reducible rfl | assumption | (simp (disch:=omega) only[ws,wl,wb,hm]<;>omega)|omega) ?_|refine jn (by first|with_reducible rfl | assumption | (simp (disch:=omega) only[ws,wl,wb,hm]<;>omega)|omega) ?_|refine(bnd (eJ hv hlt)).trans ?_|refine(bnd g2).trans ?_|refine el ?_|refine er ?_)
      rfl
    · repeat (first|refine ip (by first|with_reducible rfl | assumption | (simp (disch:=omega) only[ws,wl,wb,hm]<;>omega)|omega) ?_|refine jn (by first|with_reducible rfl | assumption | (simp (disch:=omega) only[ws,wl,wb,hm]<;>omega)|omega) ?_|refine(bnd (eJ hv hlt)).trans ?_|refine(bnd g2).trans ?_|refine el ?_|refine er ?_)
      rfl
  obtain⟨q,hq,he⟩:=hin h2
  rw[he]
  by_cases ha:aDJ (aHF l l[i] i) 0
  · have:=r1 ha
    rw[hq] at this
    cases this
    simp only[Sum.elim_inl]
    refine⟨fun h=>q1 h.2,fun h=>q2 fun hh=>h ⟨fun x hx=>?_,hh⟩⟩
    rw[gi] at hx
    cases hx
    refine⟨h1,fun h0 e he=>?_,fun j e hj hje hke=>ha j (Nat.zero_le _) e hj hje hke⟩
    rw[List.getElem?_eq_getElem (show i - 1<l.length by omega)] at he
    cases he
    exact h2 h0
  · have:=r2 ha
    rw[hq] at this
    cases this
    simp only[Sum.elim_inr]
    refine⟨fun h=>absurd (fun j _ e hj hje hke=>(h.1 _ gi).2.2 j e hj hje hke) ha,fun _=>trivial⟩
theorem wX {l:List Ho} (h:Lk l) (hl:l.length≤100000):oZ l=some true:=by
 rw[oZ]
 repeat (first|refine ip0 ?_|refine jn0 ?_|refine(bnd ((xE hl _ 0 0 rfl (by omega) rfl).1 ((aPU h.wf).1 h))).trans ?_|refine el ?_|refine er ?_)
 rfl
theorem rright_f {l:List Ho} (hw:WfH l) (hl:l.length≤100000) (h:¬Lk l):oZ l=some false:=by
 rw[oZ]
 repeat (first|refine ip0 ?_|refine jn0 ?_|refine(bnd ((xE hl _ 0 0 rfl (by omega) rfl).2 (fun hh=>h ((aPU hw).2 hh)))).trans ?_|refine el ?_|refine er ?_)
 rfl
theorem aBX {l:List Ho} {i:Nat} (h:i<l.length) (tx:Int):jZ (l.take (i+1)) tx=if l[i].2.1=tx then jZ (l.take i) tx else jZ (l.take i) tx++[l[i]]:=by
 unfold jZ
 rw[List.take_add_one,List.getElem?_eq_getElem h,List.filter_append]
 show _++[l[i]].filter _=_
 by_cases hk:l[i].2.1=tx
 · rw[if_pos hk];simp [hk]
 · rw[if_neg hk];simp [hk]
theorem fidx_l0 {l:List Ho} {tx:Int} (hl:l.length≤100000):∀(d i:Nat) (v:Int),l.length - i=d→i≤l.length→v=(i:Int)→jZ (l.take i) tx=l.take i →
 (cZ l tx v=some (.inl ())∧jZ l tx=l)∨(∃(n:Nat) (hn:n<l.length),cZ l tx v=some (.inr (n:Int))∧jZ (l.take n) tx=l.take n∧l[n].2.1=tx):=by
 intro d
 induction d with
 | zero =>
  intro i v hd hi hv hf
  rw[List.take_of_length_le (by omega)] at hf
  refine .inl ⟨?_,hf⟩
  rw[jU]
  repeat (first|refine ip0 ?_|refine jn0 ?_|refine el ?_|refine er ?_)
  rfl
 | succ d ih =>
  intro i v hd hi hv hf
  have hlt:i<l.length:=by omega
  have hs:=aBX hlt tx
  by_cases hk:l[i].2.1=tx
  · refine .inr ⟨i,hlt,?_,hf,hk⟩
    rw[jU]
    repeat (first|refine ip0 ?_|refine jn0 ?_|refine(bnd (eJ hv hlt)).trans ?_|refine el ?_|refine er ?_)
    rw[hv]
  · have e:cZ l tx v=cZ l tx (aH .i64 v 1):=by
     rw[jU]
     repeat (first|refine ip0 ?_|refine jn0 ?_|refine(bnd (eJ hv hlt)).trans ?_|refine el ?_|refine er ?_)
     rfl
    rw[e]
    rw[if_neg hk,hf] at hs
    refine ih (i+1) _ (by omega) (by omega) sd ?_
    rw[hs,List.take_add_one,List.getElem?_eq_getElem hlt];rfl
theorem del_l0 {l:List Ho} {tx:Int} (hl:l.length≤100000):∀(d i w:Nat) (v u:Int) (L:List Ho),l.length - i=d→i≤l.length→w<i→v=(i:Int)→u=(w:Int)→L.length=l.length→L.take w=jZ (l.take i) tx→L.drop i=l.drop i →
 ∃(w2:Nat) (L2:List Ho),w2<l.length∧L2.length=l.length∧L2.take w2=jZ l tx∧f5 l tx v u L=some ((w2:Int),L2):=by
 intro d
 induction d with
 | zero =>
  intro i w v u L hd hi hw hv hu hL ht hdr
  refine⟨w,L,by omega,hL,by rw[ht,List.take_of_length_le (by omega)],?_⟩
  rw[oR]
  repeat (first|refine ip0 ?_|refine jn0 ?_|refine el ?_|refine er ?_)
  rw[hu]
 | succ d ih =>
  intro i w v u L hd hi hw hv hu hL ht hdr
  have hlt:i<l.length:=by omega
  have hltL:i<L.length:=by omega
  have hs:=aBX hlt tx
  have e1:L[i]=l[i]:=by
   have:=congrArg (fun x=>x[0]?) hdr
   simp only[List.getElem?_drop,Nat.add_zero] at this
   rw[List.getElem?_eq_getElem hlt,List.getElem?_eq_getElem hltL] at this
   exact Option.some.inj this
  have e2:L.drop (i+1)=l.drop (i+1):=by
   have:=congrArg (List.drop 1) hdr
   rwa [List.drop_drop,List.drop_drop] at this
  have g:=eJ (l:=L) hv hltL
  rw[e1] at g
  rw[oR]
  by_cases hk:l[i].2.1=tx
  · rw[if_pos hk] at hs
    obtain⟨w2,L2,r1,r2,r3,r4⟩:=ih (i+1) w (aH .i64 v 1) u L (by omega) (by omega) (by omega) sd hu hL (by rw[hs,ht]) e2
    refine⟨w2,L2,r1,r2,r3,?_⟩
    repeat (first|refine ip (by first|with_reducible rfl | assumption | (simp (disch:=omega) only[ws,wl,wb,hL]<;>omega)|omega) ?_|refine jn (by first|with_reducible rfl | assumption | (simp (disch:=omega) only[ws,wl,wb,hL]<;>omega)|omega) ?_|refine(bnd g).trans ?_|refine el ?_|refine er ?_)
    exact r4
  · rw[if_neg hk] at hs
    have hwL:w<L.length:=by omega
    have e3:(List.set L (tN u) l[i]).take (w+1)=jZ (l.take (i+1)) tx:=by
     rw[hu,rU,hs,List.take_add_one,List.take_set,List.set_eq_of_length_le (by simp;omega),List.getElem?_set_self hwL,ht];rfl
    have e4:(List.set L (tN u) l[i]).drop (i+1)=l.drop (i+1):=by
     rw[hu,rU,List.drop_set_of_lt (by omega)];exact e2
    obtain⟨w2,L2,r1,r2,r3,r4⟩:=ih (i+1) (w+1) (aH .i64 v 1) (aH .i64 u 1) (List.set L (tN u) l[i]) (by omega) (by omega) (by omega) sd sd (by simp;exact hL) e3 e4
    refine⟨w2,L2,r1,r2,r3,?_⟩
    repeat (first|refine ip (by first|with_reducible rfl | assumption | (simp (disch:=omega) only[ws,wl,wb,hL]<;>omega)|omega) ?_|refine jn (by first|with_reducible rfl | assumption | (simp (disch:=omega) only[ws,wl,wb,hL]<;>omega)|omega) ?_|refine(bnd g).trans ?_|refine(bnd (eJ (l:=L) hu hwL)).trans ?_|refine el ?_|refine er ?_)
    exact r4
theorem free_ok {l:List Ho} (hl:l.length≤100000) (tx:Int):gW l tx=some (jZ l tx):=by
 have hcl:=hZ l (by omega)
 rcases fidx_l0 (tx:=tx) hl _ 0 0 rfl (by omega) rfl rfl with⟨q1,q2⟩ | ⟨n,hn,q1,q2,q3⟩
 · have hi:fD l tx=some (-1):=by
    rw[fD]
    repeat (first|refine ip0 ?_|refine jn0 ?_|refine(bnd q1).trans ?_|refine el ?_|refine er ?_)
    rfl
   have hd:gE l tx=some (l.length,l):=by
    rw[gE]
    repeat (first|refine ip0 ?_|refine jn0 ?_|refine(bnd hi).trans ?_|refine el ?_|refine er ?_)
    rfl
   rw[gW]
   repeat (first|refine ip0 ?_|refine jn0 ?_|refine(bnd hcl).trans ?_|refine(bnd hd).trans ?_|refine el ?_|refine er ?_)
   rw[List.take_length,q2]
 · have hi:fD l tx=some (n:Int):=by
    rw[fD]
    repeat (first|refine ip0 ?_|refine jn0 ?_|refine(bnd q1).trans ?_|refine el ?_|refine er ?_)
    rfl
   have hs:=aBX hn tx
   rw[if_pos q3,q2] at hs
   obtain⟨w2,L2,r1,r2,r3,r4⟩:=del_l0 (tx:=tx) hl _ (n+1) n (aH .i64 (n:Int) 1) (n:Int) l rfl (by omega) (by omega) (by rw[zX (by omega)];omega) rfl rfl hs.symm rfl
   obtain⟨m,hm⟩:∃m,m=l.length - w2:=⟨_,rfl⟩
   have hd:gE l tx=some (w2,(List.take w2 L2++List.replicate m (0,0,false))++List.drop (w2+m) L2):=by
    rw[gE,hm]
    have hw2:tN ((w2:Nat):Int)=w2:=rU w2
    refine(bnd hi).trans ?_
    refine(if_neg sd).trans ?_
    refine(bnd r4).trans ?_
    simp only[hw2]
    repeat (first|refine ip (by first|with_reducible rfl | assumption | (simp (disch:=omega) only[ws,wl,wb,r2]<;>omega)|omega) ?_|refine jn (by first|with_reducible rfl | assumption | (simp (disch:=omega) only[ws,wl,wb,r2]<;>omega)|omega) ?_|refine el ?_|refine er ?_)
    rfl
   have hlen:((List.take w2 L2++List.replicate m (0,0,false))++List.drop (w2+m) L2).length=l.length:=by
    simp;omega
   rw[gW]
   refine(bnd hcl).trans ?_
   refine(bnd hd).trans ?_
   refine(if_pos (by simp only[aLV,hlen];omega)).trans ?_
   rw[List.append_assoc,List.take_append_of_le_length (by simp;omega),List.take_take,Nat.min_self,r3]
theorem aIQ {d:Ho} {l:List Ho} {k t:Int} {w:Bool}:zV (d::l) k t w↔(d.1=k∧d.2.1≠t∧(w=true∨d.2.2=true))∨zV l k t w:=by
 constructor
 · rintro⟨h,hm,hh⟩
   rcases List.mem_cons.1 hm with rfl | hm
   · exact .inl hh
   · exact .inr ⟨h,hm,hh⟩
 · rintro (h | ⟨h,hm,hh⟩)
   · exact⟨d,by simp,h⟩
   · exact⟨h,by simp [hm],hh⟩
theorem aMJ {l:List Ho} {k t:Int} {w:Bool} (hl:l.length≤100000):∀(d i:Nat) (v:Int),l.length - i=d→i≤l.length→v=(i:Int) →
 (¬zV (l.drop i) k t w→dX l t k w v=some (.inl ()))∧(zV (l.drop i) k t w→dX l t k w v=some (.inr (l,9))):=by
 intro d
 induction d with
 | zero =>
  intro i v hd hi hv
  rw[List.drop_of_length_le (by omega)]
  refine⟨fun _=>?_,fun ⟨h,hh,_⟩=>by cases hh⟩
  rw[jF]
  repeat (first|refine ip0 ?_|refine jn0 ?_|refine el ?_|refine er ?_)
  rfl
 | succ d ih =>
  intro i v hd hi hv
  have hlt:i<l.length:=by omega
  have ed:l.drop i=l[i]::l.drop (i+1):=List.drop_eq_getElem_cons hlt
  rw[ed,aIQ]
  obtain⟨q1,q2⟩:=ih (i+1) (aH .i64 v 1) (by omega) (by omega) sd
  by_cases hk:l[i].1=k
  rotate_left
  · have e:dX l t k w v=dX l t k w (aH .i64 v 1):=by
     rw[jF]
     repeat (first|refine ip0 ?_|refine jn0 ?_|refine(bnd (eJ hv hlt)).trans ?_|refine el ?_|refine er ?_)
     rfl
    rw[e]
    exact⟨fun h=>q1 fun hh=>h (.inr hh),fun h=>q2 (h.resolve_left fun hh=>hk hh.1)⟩
  by_cases ht:l[i].2.1=t
  · have e:dX l t k w v=dX l t k w (aH .i64 v 1):=by
     rw[jF]
     repeat (first|refine ip0 ?_|refine jn0 ?_|refine(bnd (eJ hv hlt)).trans ?_|refine el ?_|refine er ?_)
     rfl
    rw[e]
    exact⟨fun h=>q1 fun hh=>h (.inr hh),fun h=>q2 (h.resolve_left fun hh=>hh.2.1 ht)⟩
  cases w with
  | true =>
   refine⟨fun h=>absurd (.inl ⟨hk,ht,.inl rfl⟩) h,fun _=>?_⟩
   rw[jF]
   repeat (first|refine ip0 ?_|refine jn0 ?_|refine(bnd (eJ hv hlt)).trans ?_|refine el ?_|refine er ?_)
   rfl
  | false =>
   cases hb:l[i].2.2
   · have e:dX l t k false v=dX l t k false (aH .i64 v 1):=by
      rw[jF]
      repeat (first|refine ip (by first|with_reducible rfl | assumption | (simp (disch:=omega) only[ws,wl,wb,hb]<;>omega)|omega) ?_|refine jn (by first|with_reducible rfl | assumption | (simp (disch:=omega) only[ws,wl,wb,hb]<;>omega)|omega) ?_|refine(bnd (eJ hv hlt)).trans ?_|refine el ?_|refine er ?_)
      rfl
     rw[e]
     exact⟨fun h=>q1 fun hh=>h (.inr hh),fun h=>q2 (h.resolve_left fun hh=>by simp at hh)⟩
   · refine⟨fun h=>absurd (.inl ⟨hk,ht,.inr rfl⟩) h,fun _=>?_⟩
     rw[jF]
     repeat (first|refine ip (by first|with_reducible rfl | assumption | (simp (disch:=omega) only[ws,wl,wb,hb]<;>omega)|omega) ?_|refine jn (by first|with_reducible rfl | assumption | (simp (disch:=omega) only[ws,wl,wb,hb]<;>omega)|omega) ?_|refine(bnd (eJ hv hlt)).trans ?_|refine el ?_|refine er ?_)
     rfl
theorem aLI {l:List Ho} {k t:Int} {w:Bool} (hl:l.length≤100000):∀(d i:Nat) (v:Int),l.length - i=d→i≤l.length→v=(i:Int) →
 (¬zV (l.drop i) k t w→dI l t k w v=some (.inl ()))∧(zV (l.drop i) k t w→dI l t k w v=some (.inr (l,9))):=by
 intro d
 induction d with
 | zero =>
  intro i v hd hi hv
  rw[List.drop_of_length_le (by omega)]
  refine⟨fun _=>?_,fun ⟨h,hh,_⟩=>by cases hh⟩
  rw[iT]
  repeat (first|refine ip0 ?_|refine jn0 ?_|refine el ?_|refine er ?_)
  rfl
 | succ d ih =>
  intro i v hd hi hv
  have hlt:i<l.length:=by omega
  have ed:l.drop i=l[i]::l.drop (i+1):=List.drop_eq_getElem_cons hlt
  rw[ed,aIQ]
  obtain⟨q1,q2⟩:=ih (i+1) (aH .i64 v 1) (by omega) (by omega) sd
  by_cases hk:l[i].1=k
  rotate_left
  · have e:dI l t k w v=dI l t k w (aH .i64 v 1):=by
     rw[iT]
     repeat (first|refine ip0 ?_|refine jn0 ?_|refine(bnd (eJ hv hlt)).trans ?_|refine el ?_|refine er ?_)
     rfl
    rw[e]
    exact⟨fun h=>q1 fun hh=>h (.inr hh),fun h=>q2 (h.resolve_left fun hh=>hk hh.1)⟩
  by_cases ht:l[i].2.1=t
  · have e:dI l t k w v=dI l t k w (aH .i64 v 1):=by
     rw[iT]
     repeat (first|refine ip0 ?_|refine jn0 ?_|refine(bnd (eJ hv hlt)).trans ?_|refine el ?_|refine er ?_)
     rfl
    rw[e]
    exact⟨fun h=>q1 fun hh=>h (.inr hh),fun h=>q2 (h.resolve_left fun hh=>hh.2.1 ht)⟩
  cases w with
  | true =>
   refine⟨fun h=>absurd (.inl ⟨hk,ht,.inl rfl⟩) h,fun _=>?_⟩
   rw[iT]
   repeat (first|refine ip0 ?_|refine jn0 ?_|refine(bnd (eJ hv hlt)).trans ?_|refine el ?_|refine er ?_)
   rfl
  | false =>
   cases hb:l[i].2.2
   · have e:dI l t k false v=dI l t k false (aH .i64 v 1):=by
      rw[iT]
      repeat (first|refine ip (by first|with_reducible rfl | assumption | (simp (disch:=omega) only[ws,wl,wb,hb]<;>omega)|omega) ?_|refine jn (by first|with_reducible rfl | assumption | (simp (disch:=omega) only[ws,wl,wb,hb]<;>omega)|omega) ?_|refine(bnd (eJ hv hlt)).trans ?_|refine el ?_|refine er ?_)
      rfl
     rw[e]
     exact⟨fun h=>q1 fun hh=>h (.inr hh),fun h=>q2 (h.resolve_left fun hh=>by simp at hh)⟩
   · refine⟨fun h=>absurd (.inl ⟨hk,ht,.inr rfl⟩) h,fun _=>?_⟩
     rw[iT]
     repeat (first|refine ip (by first|with_reducible rfl | assumption | (simp (disch:=omega) only[ws,wl,wb,hb]<;>omega)|omega) ?_|refine jn (by first|with_reducible rfl | assumption | (simp (disch:=omega) only[ws,wl,wb,hb]<;>omega)|omega) ?_|refine(bnd (eJ hv hlt)).trans ?_|refine el ?_|refine er ?_)
     rfl
theorem aII {l:List Ho} (h:Lk l):∀i j (hi:i<l.length) (hj:j<l.length),i≤j→cd l[i]≤cd l[j]:=by
 intro i j hi hj hij
 by_cases e:i=j
 · subst e;omega
 · have:=List.pairwise_iff_getElem.1 h.1 i j hi hj (by omega)
   omega
theorem bs_l0 {l:List Ho} {x:Ho} (h:Lk l) (hx:May x) (hl:l.length≤100000):∀(d a b:Nat) (v w:Int),b - a≤d→a≤b→b≤l.length→v=(a:Int)→w=(b:Int) →
 (∀j (hj:j<l.length),j<a→cd l[j]<cd x)→(∀j (hj:j<l.length),b≤j→cd x≤cd l[j]) →
 ∃i:Nat,i≤l.length∧dU l x.1 x.2.1 x.2.2 v w=some (i:Int)∧(∀j (hj:j<l.length),j<i→cd l[j]<cd x)∧(∀j (hj:j<l.length),i≤j→cd x≤cd l[j]):=by
 have hs:=aII h
 intro d
 induction d with
 | zero =>
  intro a b v w hd hab hb hv hw h1 h2
  obtain rfl:a=b:=by omega
  refine⟨a,by omega,?_,h1,h2⟩
  rw[fQ]
  repeat (first|refine ip0 ?_|refine jn0 ?_|refine el ?_|refine er ?_)
  rw[hv]
 | succ d ih =>
  intro a b v w hd hab hb hv hw h1 h2
  by_cases hlt:a<b
  rotate_left
  · obtain rfl:a=b:=by omega
    refine⟨a,by omega,?_,h1,h2⟩
    rw[fQ]
    repeat (first|refine ip0 ?_|refine jn0 ?_|refine el ?_|refine er ?_)
    rw[hv]
  subst hv hw
  have hm:=mid64 (a:=a) (b:=b) (by omega)
  obtain⟨m,hme⟩:∃m,m=(a+b) / 2:=⟨_,rfl⟩
  rw[← hme] at hm
  have hml:m<l.length:=by omega
  obtain⟨o,o1,o2,_⟩:=aHB l[m] x
  have hc:o<0↔cd l[m]<cd x:=o2.trans (aMG (h.2.1 _ (List.getElem_mem hml)) hx).symm
  by_cases hk:cd l[m]<cd x
  · obtain⟨i,i1,i2,i3,i4⟩:=ih (m+1) b (aH .i64 (m:Int) 1) b (by omega) (by omega) hb sd rfl (fun j hj hjm=>by have:=hs j m hj hml (by omega);omega) h2
    refine⟨i,i1,?_,i3,i4⟩
    have hc2:=hc.2 hk
    rw[fQ]
    simp only[hm]
    repeat (first|refine ip0 ?_|refine jn0 ?_|refine(bnd (eJ (l:=l) (i:=m) rfl hml)).trans ?_|refine(bnd o1).trans ?_|refine el ?_|refine er ?_)
    exact i2
  · obtain⟨i,i1,i2,i3,i4⟩:=ih a m a m (by omega) (by omega) (by omega) rfl rfl h1 (fun j hj hjm=>by have:=hs m j hml hj hjm;omega)
    refine⟨i,i1,?_,i3,i4⟩
    have hc2:¬o<0:=fun h=>hk (hc.1 h)
    rw[fQ]
    simp only[hm]
    repeat (first|refine ip0 ?_|refine jn0 ?_|refine(bnd (eJ (l:=l) (i:=m) rfl hml)).trans ?_|refine(bnd o1).trans ?_|refine el ?_|refine er ?_)
    exact i2
theorem aLG {l:List Ho} (h:Lk l) (hl:l.length≤100000) {k t:Int} {w:Bool} (hx:May (k,t,w)) :
 (∃A b R,l=A++(k,t,b)::R∧cW l k t w=some ((A.length:Int),true)) ∨
 (∃A R,l=A++R∧(∀d∈A,cd d<cd (k,t,w))∧(∀d∈R,cd (k,t,w)<cd d)∧cW l k t w=some ((A.length:Int),false)):=by
 obtain⟨i,i1,i2,i3,i4⟩:=bs_l0 (x:=(k,t,w)) h hx hl l.length 0 l.length 0 (nI l.length) (by omega) (by omega) (by omega) rfl rfl (fun j hj h=>by omega) (fun j hj h=>by omega)
 have e0:l=l.take i++l.drop i:=(List.take_append_drop i l).symm
 have elen:(l.take i).length=i:=by simp;omega
 have hA:∀d∈l.take i,cd d<cd (k,t,w):=fun d hd=>by
  obtain⟨j,hj⟩:=List.mem_iff_getElem?.1 hd
  rw[List.getElem?_take] at hj
  split at hj
  · obtain⟨hj1,rfl⟩:=List.getElem?_eq_some_iff.1 hj
    exact i3 j hj1 (by assumption)
  · cases hj
 by_cases hi:i<l.length
 rotate_left
 · right
   refine⟨l.take i,l.drop i,e0,hA,fun d hd=>?_,?_⟩
   · rw[List.drop_of_length_le (by omega)] at hd;cases hd
   · rw[cW,elen]
     repeat (first|refine ip0 ?_|refine jn0 ?_|refine(bnd i2).trans ?_|refine el ?_|refine er ?_)
     rfl
 have ed:l.drop i=l[i]::l.drop (i+1):=List.drop_eq_getElem_cons hi
 obtain⟨o,o1,_,o2⟩:=aHB l[i] (k,t,w)
 have hb:cW l k t w=some ((i:Int),eqI o 0):=by
  rw[cW]
  repeat (first|refine ip0 ?_|refine jn0 ?_|refine(bnd i2).trans ?_|refine(bnd (eJ (l:=l) (i:=i) rfl hi)).trans ?_|refine(bnd o1).trans ?_|refine el ?_|refine er ?_)
  rfl
 by_cases hk:l[i].1=k∧l[i].2.1=t
 · left
   refine⟨l.take i,l[i].2.2,l.drop (i+1),?_,?_⟩
   · rw[← hk.1,← hk.2]
     show l=l.take i++l[i]::l.drop (i+1)
     rw[← ed];exact e0
   · have:eqI o 0=true:=dM.2 (o2.2 hk)
     rw[elen,← this]
     exact hb
 · right
   refine⟨l.take i,l.drop i,e0,hA,fun d hd=>?_,?_⟩
   · obtain⟨j,hj⟩:=List.mem_iff_getElem?.1 hd
     rw[List.getElem?_drop] at hj
     obtain⟨hj1,rfl⟩:=List.getElem?_eq_some_iff.1 hj
     have h1:=i4 i hi (Nat.le_refl _)
     have h2:=aII h i (i+j) hi hj1 (by omega)
     have h3:cd l[i]≠cd (k,t,w):=fun hh=>hk ((cd_eq (h.2.1 _ (List.getElem_mem hi)) hx).1 hh)
     omega
   · have:eqI o 0=false:=by rw[← Bool.not_eq_true];exact fun h=>hk (o2.1 (dM.1 h))
     rw[elen,← this]
     exact hb
theorem aLC {A R:List Ho} {x:Ho} (hl:A.length+R.length≤1000000):aFN 24 (A.length:Int) (A++R) [x]=some (A++x::R):=by
 unfold aFN
 rw[if_pos ⟨rfl,by omega,by simp;omega,by simp;omega⟩]
 simp
theorem aPN {l:List Ho} {k t:Int} {hw:Bool} (hl:l.length≤100000):∀(d i:Nat) (v:Int) (o:List Ho),l.length - i=d→i≤l.length→v=(i:Int)→o.length≤i+1→(∀j (hj:j<l.length),i≤j→¬(l[j].1=k∧l[j].2.1=t))→aZ l t k true v o hw=some (true,hw,o++l.drop i):=by
 intro d
 induction d with
 | zero =>
  intro i v o hd hi hv ho hn
  rw[iR]
  repeat (first|refine ip0 ?_|refine jn0 ?_|refine el ?_|refine er ?_)
  rw[List.drop_of_length_le (by omega),List.append_nil]
 | succ d ih =>
  intro i v o hd hi hv ho hn
  have hlt:i<l.length:=by omega
  have ed:l.drop i=l[i]::l.drop (i+1):=List.drop_eq_getElem_cons hlt
  have hni:=hn i hlt (Nat.le_refl _)
  have hr:=ih (i+1) (aH .i64 v 1) (o++[l[i]]) (by omega) (by omega) sd (by simp;omega) (fun j hj h=>hn j hj (by omega))
  have e:o++l.drop i=o++[l[i]]++l.drop (i+1):=by rw[ed];simp
  rw[iR,e]
  by_cases hk:l[i].1=k
  · have ht:l[i].2.1≠t:=fun h=>hni ⟨hk,h⟩
    repeat (first|refine ip0 ?_|refine jn0 ?_|refine(bnd (eJ hv hlt)).trans ?_|refine el ?_|refine er ?_)
    exact hr
  · repeat (first|refine ip0 ?_|refine jn0 ?_|refine(bnd (eJ hv hlt)).trans ?_|refine el ?_|refine er ?_)
    exact hr
theorem aQH {A S:List Ho} {k t:Int} {hw:Bool} (hl:(A++S).length≤100000) (hA:∀x∈A,x.1<k∨(x.1=k∧x.2.1<t)):∀(d i:Nat) (v:Int) (o:List Ho),A.length - i=d→i≤A.length→v=(i:Int)→o=A.take i→aZ (A++S) t k false v o hw=aZ (A++S) t k false (A.length:Int) A hw:=by
 intro d
 induction d with
 | zero =>
  intro i v o hd hi hv ho
  have:i=A.length:=by omega
  subst this
  rw[ho,hv,List.take_length]
 | succ d ih =>
  intro i v o hd hi hv ho
  have hlt:i<A.length:=by omega
  have hlt2:i<(A++S).length:=by simp;omega
  have g:(A++S)[tN v]? = some A[i]:=by rw[hv,rU,List.getElem?_append_left hlt,List.getElem?_eq_getElem hlt]
  have hol:o.length=i:=by rw[ho];simp;omega
  have hi2:=hA A[i] (List.getElem_mem hlt)
  have hal:A.length+S.length≤100000:=by simpa using hl
  have hr:=ih (i+1) (aH .i64 v 1) (o++[A[i]]) (by omega) (by omega) sd (by rw[ho,List.take_add_one,List.getElem?_eq_getElem hlt];rfl)
  rw[← hr,iR]
  by_cases hk:A[i].1=k
  · repeat (first|refine ip (by first|with_reducible rfl | assumption | (simp (disch:=omega) only[ws,wl,wb,hol]<;>omega)|omega) ?_|refine jn (by first|with_reducible rfl | assumption | (simp (disch:=omega) only[ws,wl,wb,hol]<;>omega)|omega) ?_|refine(bnd g).trans ?_|refine el ?_|refine er ?_)
    rfl
  · repeat (first|refine ip (by first|with_reducible rfl | assumption | (simp (disch:=omega) only[ws,wl,wb,hol]<;>omega)|omega) ?_|refine jn (by first|with_reducible rfl | assumption | (simp (disch:=omega) only[ws,wl,wb,hol]<;>omega)|omega) ?_|refine(bnd g).trans ?_|refine el ?_|refine er ?_)
    rfl
theorem row_all {l:List Ho} (hl:l.length≤10000) {k t:Int} {hw:Bool} {A R:List Ho} (hA:∀x∈A,x.1<k∨(x.1=k∧x.2.1<t)) (hR:∀x∈R,k<x.1∨(x.1=k∧t<x.2.1)) (h:l=A++R∨∃b,l=A++(k,t,b)::R) :
 (aZ l t k false 0 [] hw=some (true,hw,A++(k,t,hw)::R))∨(aZ l t k false 0 [] hw=some (false,hw,A)∧R=[]∧l=A):=by
 rcases h with rfl | ⟨b,rfl⟩
 · have hal:A.length+R.length≤10000:=by simpa using hl
   rw[aQH (by simp;omega) hA _ 0 0 [] rfl (by omega) rfl rfl]
   match R,hR with
   | [],_ =>
    right
    refine⟨?_,rfl,by simp⟩
    rw[iR]
    repeat (first|refine ip0 ?_|refine jn0 ?_|refine el ?_|refine er ?_)
    rfl
   | e::R,hR =>
    left
    have hal2:A.length+(R.length+1)≤10000:=by simpa using hl
    have he:=hR e (by simp)
    have g:(A++e::R)[tN (A.length:Int)]? = some e:=by rw[rU];exact yC A R e
    have hr:=aPN (l:=A++e::R) (k:=k) (t:=t) (hw:=hw) (by simp;omega) _ (A.length+1) (aH .i64 (A.length:Int) 1) (A++[(k,t,hw)]++[e]) rfl (by simp) (by rw[zX (by omega)];omega) (by simp) (fun j hj hja hh=>by
     have hm:(A++e::R)[j]∈R:=by
      rw[List.getElem_append_right (by omega)]
      obtain⟨q,hq⟩:∃q,j - A.length=q+1:=⟨j - A.length - 1,by omega⟩
      simp only[hq,List.getElem_cons_succ]
      exact List.getElem_mem _
     have:=hR _ (List.mem_cons_of_mem _ hm)
     omega)
    have ed:(A++e::R).drop (A.length+1)=R:=by simp
    have e1:A++[(k,t,hw)]++[e]++(A++e::R).drop (A.length+1)=A++(k,t,hw)::e::R:=by rw[ed];simp
    rw[e1] at hr
    rw[iR]
    by_cases hk:k<e.1
    · repeat (first|refine ip0 ?_|refine jn0 ?_|refine(bnd g).trans ?_|refine el ?_|refine er ?_)
      exact hr
    · have hk2:k=e.1:=by omega
      repeat (first|refine ip0 ?_|refine jn0 ?_|refine(bnd g).trans ?_|refine el ?_|refine er ?_)
      exact hr
 · left
   have hal:A.length+(R.length+1)≤10000:=by simpa using hl
   rw[aQH (by simp;omega) hA _ 0 0 [] rfl (by omega) rfl rfl]
   have g:(A++(k,t,b)::R)[tN (A.length:Int)]? = some (k,t,b):=by rw[rU];exact yC A R _
   have hr:=aPN (l:=A++(k,t,b)::R) (k:=k) (t:=t) (hw:=hw) (by simp;omega) _ (A.length+1) (aH .i64 (A.length:Int) 1) (A++[(k,t,hw)]) rfl (by simp) (by rw[zX (by omega)];omega) (by simp) (fun j hj hja hh=>by
    have hm:(A++(k,t,b)::R)[j]∈R:=by
     rw[List.getElem_append_right (by omega)]
     obtain⟨q,hq⟩:∃q,j - A.length=q+1:=⟨j - A.length - 1,by omega⟩
     simp only[hq,List.getElem_cons_succ]
     exact List.getElem_mem _
    have:=hR _ hm
    omega)
   have ed:(A++(k,t,b)::R).drop (A.length+1)=R:=by simp
   have e1:A++[(k,t,hw)]++(A++(k,t,b)::R).drop (A.length+1)=A++(k,t,hw)::R:=by rw[ed];simp
   rw[e1] at hr
   rw[iR]
   repeat (first|refine ip0 ?_|refine jn0 ?_|refine(bnd g).trans ?_|refine el ?_|refine er ?_)
   exact hr
def Got (l:List Ho) (k t:Int) (w:Bool) (l':List Ho):Prop :=
 (∃A b R,l=A++(k,t,b)::R∧l'=A++(k,t,b || w)::R)∨(∃A R,l=A++R∧(∀d∈A,cd d<cd (k,t,w))∧(∀d∈R,cd (k,t,w)<cd d)∧l'=A++(k,t,w)::R)
theorem take_f {l:List Ho} {k t:Int} {w:Bool} (hw:WfH l) (hl:l.length≤10000) (h:¬(Lk l∧aEO (k,t,w))):gH l t k w=some (l,2)∧iW l t k w=some (l,2):=by
 by_cases hr:Lk l
 · have hm:¬aEO (k,t,w):=fun hm=>h ⟨hr,hm⟩
   have m1:¬iE t k=true:=fun hh=>hm ((vH t k).1.1 hh)
   have m2:¬nH t k=true:=fun hh=>hm ((vH t k).2.1 hh)
   constructor
   · rw[gH]
     repeat (first|refine ip (by first|with_reducible rfl | assumption | (simp (disch:=omega) only[ws,wl,wb,m1]<;>omega)|omega) ?_|refine jn (by first|with_reducible rfl | assumption | (simp (disch:=omega) only[ws,wl,wb,m1]<;>omega)|omega) ?_|refine(bnd (hZ l (by omega))).trans ?_|refine(bnd (z3 hr (by omega))).trans ?_|refine el ?_|refine er ?_)
     rfl
   · rw[iW]
     repeat (first|refine ip (by first|with_reducible rfl | assumption | (simp (disch:=omega) only[ws,wl,wb,m2]<;>omega)|omega) ?_|refine jn (by first|with_reducible rfl | assumption | (simp (disch:=omega) only[ws,wl,wb,m2]<;>omega)|omega) ?_|refine(bnd (wX hr (by omega))).trans ?_|refine el ?_|refine er ?_)
     rfl
 · constructor
   · rw[gH]
     repeat (first|refine ip0 ?_|refine jn0 ?_|refine(bnd (hZ l (by omega))).trans ?_|refine(bnd (pright_f hw (by omega) hr)).trans ?_|refine el ?_|refine er ?_)
     rfl
   · rw[iW]
     repeat (first|refine ip0 ?_|refine jn0 ?_|refine(bnd (rright_f hw (by omega) hr)).trans ?_|refine el ?_|refine er ?_)
     rfl
theorem take_c {l:List Ho} {k t:Int} {w:Bool} (hr:Lk l) (hl:l.length≤10000) (hm:aEO (k,t,w)) (hc:zV l k t w):gH l t k w=some (l,9)∧iW l t k w=some (l,9):=by
 have m1:iE t k=true:=(vH t k).1.2 hm
 have m2:nH t k=true:=(vH t k).2.2 hm
 have c1:=(aMJ (l:=l) (k:=k) (t:=t) (w:=w) (by omega) _ 0 0 rfl (by omega) rfl).2 hc
 have c2:=(aLI (l:=l) (k:=k) (t:=t) (w:=w) (by omega) _ 0 0 rfl (by omega) rfl).2 hc
 constructor
 · rw[gH]
   repeat (first|refine ip (by first|with_reducible rfl | assumption | (simp (disch:=omega) only[ws,wl,wb,m1]<;>omega)|omega) ?_|refine jn (by first|with_reducible rfl | assumption | (simp (disch:=omega) only[ws,wl,wb,m1]<;>omega)|omega) ?_|refine(bnd (hZ l (by omega))).trans ?_|refine(bnd (z3 hr (by omega))).trans ?_|refine(bnd c1).trans ?_|refine el ?_|refine er ?_)
   rfl
 · rw[iW]
   repeat (first|refine ip (by first|with_reducible rfl | assumption | (simp (disch:=omega) only[ws,wl,wb,m2]<;>omega)|omega) ?_|refine jn (by first|with_reducible rfl | assumption | (simp (disch:=omega) only[ws,wl,wb,m2]<;>omega)|omega) ?_|refine(bnd (wX hr (by omega))).trans ?_|refine(bnd c2).trans ?_|refine el ?_|refine er ?_)
   rfl
theorem take_t {l:List Ho} {k t:Int} {w:Bool} (hr:Lk l) (hl:l.length≤10000) (hk:0≤k) (hm:aEO (k,t,w)) (hc:¬zV l k t w):∃l',gH l t k w=some (l',0)∧iW l t k w=some (l',0)∧Got l k t w l':=by
 have m1:iE t k=true:=(vH t k).1.2 hm
 have m2:nH t k=true:=(vH t k).2.2 hm
 have c1:=(aMJ (l:=l) (k:=k) (t:=t) (w:=w) (by omega) _ 0 0 rfl (by omega) rfl).1 hc
 have c2:=(aLI (l:=l) (k:=k) (t:=t) (w:=w) (by omega) _ 0 0 rfl (by omega) rfl).1 hc
 have hM:May (k,t,w):=(aHS hk).1 hm
 have tolex:∀{x y:Ho},May x→May y→cd x<cd y→x.1<y.1∨(x.1=y.1∧x.2.1<y.2.1):=fun hx hy h=>(aMG hx hy).1 h
 have href:∀(A R:List Ho) (hw:Bool),(∀x∈A,x.1<k∨(x.1=k∧x.2.1<t))→(∀x∈R,k<x.1∨(x.1=k∧t<x.2.1))→(l=A++R∨∃b,l=A++(k,t,b)::R)→hw=(if w then true else eqI (n9 l t k) 2)→iW l t k w=some (A++(k,t,hw)::R,0):=by
  intro A R hw hA hR h hh
  have hq:=aQ3 (l:=l) (by omega) t k
  rcases row_all hl (hw:=hw) hA hR h with p | ⟨p,rfl,rfl⟩
  · rw[iW]
    cases w with
    | true =>
     rw[if_pos rfl] at hh
     rw[hh] at p ⊢
     repeat (first|refine ip (by first|with_reducible rfl | assumption | (simp (disch:=omega) only[ws,wl,wb,m2]<;>omega)|omega) ?_|refine jn (by first|with_reducible rfl | assumption | (simp (disch:=omega) only[ws,wl,wb,m2]<;>omega)|omega) ?_|refine(bnd (wX hr (by omega))).trans ?_|refine(bnd c2).trans ?_|refine(bnd p).trans ?_|refine el ?_|refine er ?_)
     rfl
    | false =>
     rw[if_neg (by simp)] at hh
     rw[hh] at p ⊢
     repeat (first|refine ip (by first|with_reducible rfl | assumption | (simp (disch:=omega) only[ws,wl,wb,m2]<;>omega)|omega) ?_|refine jn (by first|with_reducible rfl | assumption | (simp (disch:=omega) only[ws,wl,wb,m2]<;>omega)|omega) ?_|refine(bnd (wX hr (by omega))).trans ?_|refine(bnd c2).trans ?_|refine(bnd hq).trans ?_|refine(bnd p).trans ?_|refine el ?_|refine er ?_)
     rfl
  · rw[iW]
    cases w with
    | true =>
     rw[if_pos rfl] at hh
     rw[hh] at p ⊢
     repeat (first|refine ip (by first|with_reducible rfl | assumption | (simp (disch:=omega) only[ws,wl,wb,m2]<;>omega)|omega) ?_|refine jn (by first|with_reducible rfl | assumption | (simp (disch:=omega) only[ws,wl,wb,m2]<;>omega)|omega) ?_|refine(bnd (wX hr (by omega))).trans ?_|refine(bnd c2).trans ?_|refine(bnd p).trans ?_|refine el ?_|refine er ?_)
     rfl
    | false =>
     rw[if_neg (by simp)] at hh
     rw[hh] at p ⊢
     repeat (first|refine ip (by first|with_reducible rfl | assumption | (simp (disch:=omega) only[ws,wl,wb,m2]<;>omega)|omega) ?_|refine jn (by first|with_reducible rfl | assumption | (simp (disch:=omega) only[ws,wl,wb,m2]<;>omega)|omega) ?_|refine(bnd (wX hr (by omega))).trans ?_|refine(bnd c2).trans ?_|refine(bnd hq).trans ?_|refine(bnd p).trans ?_|refine el ?_|refine er ?_)
     rfl
 rcases aLG hr (by omega) hM with⟨A,b,R,rfl,hf⟩ | ⟨A,R,rfl,hA,hR,hf⟩
 · obtain⟨l1,l2,l3,l4⟩:=aOX hr
   have hal:A.length+(R.length+1)≤10000:=by simpa using hl
   have hMb:May (k,t,b):=hM
   have hho:n9 (A++(k,t,b)::R) t k=if b then 2 else 1:=hold_mid l2 hMb (fun x hx=>hr.2.1 x (by simp [hx]))
   refine⟨A++(k,t,b || w)::R,?_,?_,.inl ⟨A,b,R,rfl,rfl⟩⟩
   · have g1:(A++(k,t,b)::R)[tN (A.length:Int)]? = some (k,t,b):=by rw[rU];exact yC A R _
     have g2:∀y:Ho,List.set (A++(k,t,b)::R) (tN (A.length:Int)) y=A++y::R:=fun y=>by rw[rU];exact aKB A R _ y
     rw[gH]
     cases b with
     | true =>
      repeat (first|refine ip (by first|with_reducible rfl | assumption | (simp (disch:=omega) only[ws,wl,wb,m1]<;>omega)|omega) ?_|refine jn (by first|with_reducible rfl | assumption | (simp (disch:=omega) only[ws,wl,wb,m1]<;>omega)|omega) ?_|refine(bnd (hZ _ (by simp;omega))).trans ?_|refine(bnd (z3 hr (by omega))).trans ?_|refine(bnd c1).trans ?_|refine(bnd hf).trans ?_|refine(bnd g1).trans ?_|refine el ?_|refine er ?_)
      rw[g2];rfl
     | false =>
      repeat (first|refine ip (by first|with_reducible rfl | assumption | (simp (disch:=omega) only[ws,wl,wb,m1]<;>omega)|omega) ?_|refine jn (by first|with_reducible rfl | assumption | (simp (disch:=omega) only[ws,wl,wb,m1]<;>omega)|omega) ?_|refine(bnd (hZ _ (by simp;omega))).trans ?_|refine(bnd (z3 hr (by omega))).trans ?_|refine(bnd c1).trans ?_|refine(bnd hf).trans ?_|refine(bnd g1).trans ?_|refine el ?_|refine er ?_)
      rw[g2];rfl
   · refine href A R (b || w) (fun x hx=>?_) (fun x hx=>?_) (.inr ⟨b,rfl⟩) ?_
     · exact tolex (hr.2.1 x (by simp [hx])) hMb (l2 x hx)
     · have:=tolex hMb (hr.2.1 x (by simp [hx])) (l3 x hx)
       simp only at this
       omega
     · rw[hho]
       cases b<;>cases w<;>rfl
 · have hal:A.length+R.length≤10000:=by simpa using hl
   have hho:n9 (A++R) t k=0:=aRB fun x hx hh=>by
    have hmx:=hr.2.1 x hx
    have he:=(cd_eq hmx hM).2 hh
    rcases List.mem_append.1 hx with hx | hx
    · have:=hA x hx;omega
    · have:=hR x hx;omega
   refine⟨A++(k,t,w)::R,?_,?_,.inr ⟨A,R,rfl,hA,hR,rfl⟩⟩
   · have hi:nB (A.length:Int) (A++R) [(k,t,w)]=some (A++(k,t,w)::R):=by
      rw[nB];exact aLC (by omega)
     rw[gH]
     repeat (first|refine ip (by first|with_reducible rfl | assumption | (simp (disch:=omega) only[ws,wl,wb,m1]<;>omega)|omega) ?_|refine jn (by first|with_reducible rfl | assumption | (simp (disch:=omega) only[ws,wl,wb,m1]<;>omega)|omega) ?_|refine(bnd (hZ _ (by simp;omega))).trans ?_|refine(bnd (z3 hr (by omega))).trans ?_|refine(bnd c1).trans ?_|refine(bnd hf).trans ?_|refine(bnd hi).trans ?_|refine el ?_|refine er ?_)
     rfl
   · refine href A R w (fun x hx=>?_) (fun x hx=>?_) (.inl rfl) ?_
     · exact tolex (hr.2.1 x (by simp [hx])) hM (hA x hx)
     · have:=tolex hM (hr.2.1 x (by simp [hx])) (hR x hx)
       simp only at this
       omega
     · rw[hho]
       cases w<;>rfl
theorem Got.lk {l l':List Ho} {k t:Int} {w:Bool} (h:Got l k t w l') (hr:Lk l) (hm:May (k,t,w)) (hc:¬zV l k t w):Lk l'∧l'.length≤l.length+1∧jZ l' t=jZ l t∧∃b',(k,t,b')∈l'∧(w=true→b'=true):=by
 rcases h with⟨A,b,R,rfl,rfl⟩ | ⟨A,R,rfl,hA,hR,rfl⟩
 · obtain⟨l1,l2,l3,l4⟩:=aOX hr
   refine⟨lk_new l1 (w:=b || w) hm l2 l3 fun x hx hk ht=>?_,by simp,by simp [jZ],_,List.mem_append.2 (.inr (List.mem_cons_self ..)),fun h=>by simp [h]⟩
   obtain⟨f1,f2⟩:=l4 x hx hk ht
   simp only at f1
   refine⟨?_,f2⟩
   rw[f1,Bool.false_or]
   cases hw:w
   · rfl
   · exact absurd ⟨x,by rcases List.mem_append.1 hx with h | h<;>simp [h],hk,ht,.inl hw⟩ hc
 · refine⟨lk_new hr hm hA hR fun x hx hk ht=>?_,by simp;omega,by simp [jZ],_,List.mem_append.2 (.inr (List.mem_cons_self ..)),fun h=>h⟩
   cases hw:w
   · cases hx2:x.2.2
     · exact⟨rfl,rfl⟩
     · exact absurd ⟨x,hx,hk,ht,.inr hx2⟩ hc
   · exact absurd ⟨x,hx,hk,ht,.inl hw⟩ hc
end Go.Ws.L7
