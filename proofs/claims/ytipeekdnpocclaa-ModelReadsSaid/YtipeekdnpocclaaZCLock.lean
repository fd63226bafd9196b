/-
  Locks, plain: what the functions make of them.
  Conditions: none.
-/
import Derived.Test.YtipeekdnpocclaaZPlain
import Derived.Test.YtipeekdnpocclaaZCLockT
import Derived.KernelRfl
set_option linter.unusedVariables false
set_option linter.unusedSimpArgs false
namespace Go.Ws.L7
open Go.Ws
set_option linter.unusedVariables false
set_option linter.unusedSimpArgs false
set_option maxHeartbeats 1000000

theorem mJ (l:List Ho) (h:l.length≤1000000):oM l=some ():=by
 rw[oM,n0]
 repeat (first|refine ip0 ?_|refine jn0 ?_|refine el ?_|refine er ?_)
 rfl
theorem aXZ {l:List Ho} {k t:Int} (hl:l.length≤100000):∀(d i:Nat) (v:Int),l.length - i=d→i≤l.length→v=(i:Int) →
 ∃q,jA l t k v=some q∧Sum.elim (fun _=>0) (fun x=>x) q=qO (l.drop i) t k:=by
 intro d
 induction d with
 | zero =>
  intro i v hd hi hv
  refine⟨.inl (),?_,by rw[List.drop_of_length_le (by omega)];rfl⟩
  rw[nX]
  repeat (first|refine ip0 ?_|refine jn0 ?_|refine el ?_|refine er ?_)
  rfl
 | succ d ih =>
  intro i v hd hi hv
  have hlt:i<l.length:=by omega
  have ed:l.drop i=l[i]::l.drop (i+1):=List.drop_eq_getElem_cons hlt
  rw[ed,qO]
  by_cases hk:l[i].1=k∧l[i].2.1=t
  · obtain⟨h1,h2⟩:=hk
    rw[if_pos ⟨h1,h2⟩]
    cases hb:l[i].2.2
    · refine⟨.inr 1,?_,rfl⟩
      rw[nX]
      repeat (first|refine ip (by first|with_reducible rfl | assumption | (simp (disch:=omega) only[ws,wl,wb,hb]<;>omega)|omega) ?_|refine jn (by first|with_reducible rfl | assumption | (simp (disch:=omega) only[ws,wl,wb,hb]<;>omega)|omega) ?_|refine(bnd (cU hv hlt)).trans ?_|refine el ?_|refine er ?_)
      rfl
    · refine⟨.inr 2,?_,rfl⟩
      rw[nX]
      repeat (first|refine ip (by first|with_reducible rfl | assumption | (simp (disch:=omega) only[ws,wl,wb,hb]<;>omega)|omega) ?_|refine jn (by first|with_reducible rfl | assumption | (simp (disch:=omega) only[ws,wl,wb,hb]<;>omega)|omega) ?_|refine(bnd (cU hv hlt)).trans ?_|refine el ?_|refine er ?_)
      rfl
  · rw[if_neg hk]
    have e:jA l t k v=jA l t k (aL .i64 v 1):=by
     rw[nX]
     by_cases h1:l[i].1=k
     · have h2:l[i].2.1≠t:=fun h2=>hk ⟨h1,h2⟩
       repeat (first|refine ip0 ?_|refine jn0 ?_|refine(bnd (cU hv hlt)).trans ?_|refine el ?_|refine er ?_)
       rfl
     · repeat (first|refine ip0 ?_|refine jn0 ?_|refine(bnd (cU hv hlt)).trans ?_|refine el ?_|refine er ?_)
       rfl
    rw[e]
    exact ih (i+1) _ (by omega) (by omega) sd
theorem aXF {l:List Ho} (hl:l.length≤100000) (t k:Int):r6 l t k=some (qO l t k):=by
 obtain⟨q,q1,q2⟩:=aXZ (k:=k) (t:=t) hl _ 0 0 rfl (by omega) rfl
 rw[r6]
 rw[List.drop_zero] at q2
 rw[← q2]
 refine(bnd q1).trans ?_
 cases q<;>rfl
theorem cmp_val (a k:Int):bT a k=if a<k then -1 else if k<a then 1 else 0:=by
 have hn:∀x:Int,jS x=false:=fun x=>by unfold jS;rw[pN];rfl
 unfold bT
 rw[hn,hn]
 simp only[Bool.false_eq_true,if_false,sK]
theorem cmp_val2 (a k:Int):eW a k=if a<k then -1 else if k<a then 1 else 0:=by
 have hn:∀x:Int,gD x=false:=fun x=>by unfold gD;rw[pN];rfl
 unfold eW
 rw[hn,hn]
 simp only[Bool.false_eq_true,if_false,sK]
theorem or_ok (x y:Int):aDL [x,y]=some (if x=0 then y else x):=by
 have g0:([x,y]:List Int)[tN 0]? = some x:=rfl
 have g1:([x,y]:List Int)[tN (aL .i64 0 1)]? = some y:=rfl
 rw[aDL]
 by_cases hx:x=0
 · rw[if_pos hx]
   by_cases hy:y=0
   · have:qH [x,y] 0=some (.inl ()):=by
      rw[oG]
      repeat (first|refine ip0 ?_|refine jn0 ?_|refine(bnd g0).trans ?_|refine el ?_|refine er ?_)
      rw[oG]
      repeat (first|refine ip0 ?_|refine jn0 ?_|refine(bnd g1).trans ?_|refine el ?_|refine er ?_)
      rw[oG]
      repeat (first|refine ip0 ?_|refine jn0 ?_|refine el ?_|refine er ?_)
      rfl
     repeat (first|refine ip0 ?_|refine jn0 ?_|refine(bnd this).trans ?_|refine el ?_|refine er ?_)
     rw[hy]
   · have:qH [x,y] 0=some (.inr y):=by
      rw[oG]
      repeat (first|refine ip0 ?_|refine jn0 ?_|refine(bnd g0).trans ?_|refine el ?_|refine er ?_)
      rw[oG]
      repeat (first|refine ip0 ?_|refine jn0 ?_|refine(bnd g1).trans ?_|refine el ?_|refine er ?_)
      rfl
     repeat (first|refine ip0 ?_|refine jn0 ?_|refine(bnd this).trans ?_|refine el ?_|refine er ?_)
     rfl
 · rw[if_neg hx]
   have:qH [x,y] 0=some (.inr x):=by
    rw[oG]
    repeat (first|refine ip0 ?_|refine jn0 ?_|refine(bnd g0).trans ?_|refine el ?_|refine er ?_)
    rfl
   repeat (first|refine ip0 ?_|refine jn0 ?_|refine(bnd this).trans ?_|refine el ?_|refine er ?_)
   rfl
def aJU (a b:Ho):Prop:=a.1<b.1∨(a.1=b.1∧a.2.1<b.2.1)
theorem aLI (a b:Ho):∃o,pF a.1 a.2.1 a.2.2 b.1 b.2.1 b.2.2=some o∧(o<0↔aJU a b)∧(o=0↔a.1=b.1∧a.2.1=b.2.1):=by
 have h:=or_ok (bT a.1 b.1) (eW a.2.1 b.2.1)
 refine⟨if bT a.1 b.1=0 then eW a.2.1 b.2.1 else bT a.1 b.1,?_,?_⟩
 · rw[pF]
   repeat (first|refine ip0 ?_|refine jn0 ?_|refine(bnd h).trans ?_|refine el ?_|refine er ?_)
   rfl
 · rw[cmp_val,cmp_val2]
   unfold aJU
   constructor<;>(repeat' split)<;>omega
def aHM (h:Ho):Prop:=h.1<64∧0≤h.2.1∧h.2.1<1000
theorem zY (t k:Int):(jR t k=true↔k<64∧0≤t∧t<1000)∧(iJ t k=true↔k<64∧0≤t∧t<1000):=by
 unfold jR iJ
 by_cases h1:k<64
 · rw[if_pos (sK.2 h1)]
   by_cases h2:t<0
   · rw[if_pos (sK.2 h2)];simp;omega
   · rw[if_neg (fun h=>h2 (sK.1 h)),sK];omega
 · rw[if_neg (fun h=>h1 (sK.1 h))];simp;omega
def okP (l:List Ho) (i:Nat):Prop:=∀h,l[i]? = some h→aHM h∧(0<i→∀e,l[i - 1]? = some e→aJU e h∧(e.1=h.1→e.2.2=false∧h.2.2=false))
def okR (l:List Ho) (i:Nat):Prop:=∀h,l[i]? = some h→aHM h∧(0<i→∀e,l[i - 1]? = some e→aJU e h)∧(∀j e,j≠i→l[j]? = some e→e.1=h.1→h.2.2=false)
def aHO (p:Nat→Prop) (i:Nat):Prop:=∀j,i≤j→p j
theorem aIE {p:Nat→Prop} {i:Nat}:aHO p i↔p i∧aHO p (i+1):=by
 constructor
 · exact fun h=>⟨h i (Nat.le_refl _),fun j hj=>h j (by omega)⟩
 · rintro⟨h1,h2⟩ j hj
   by_cases e:j=i
   · subst e;exact h1
   · exact h2 j (by omega)
theorem okP_end {l:List Ho} {i:Nat} (h:l.length≤i):aHO (okP l) i:=fun j hj d hd=>by
 rw[List.getElem?_eq_none (by omega)] at hd;cases hd
theorem okR_end {l:List Ho} {i:Nat} (h:l.length≤i):aHO (okR l) i:=fun j hj d hd=>by
 rw[List.getElem?_eq_none (by omega)] at hd;cases hd
theorem aWR {l : List Ho} {i : Nat} (h : i < l.length) : okP l i ↔ aHM l[i] ∧ ∀ h0 : 0 < i, aJU (l[i - 1]'(by omega)) l[i] ∧ ((l[i - 1]'(by omega)).1 = l[i].1 → (l[i - 1]'(by omega)).2.2 = false ∧ l[i].2.2 = false) := by
 unfold okP
 constructor
 · intro hh
   obtain⟨h1,h2⟩:=hh _ (List.getElem?_eq_getElem h)
   exact⟨h1,fun h0=>h2 h0 _ (List.getElem?_eq_getElem _)⟩
 · rintro⟨h1,h2⟩ d hd
   rw[List.getElem?_eq_getElem h] at hd
   cases hd
   refine⟨h1,fun h0 e he=>?_⟩
   rw[List.getElem?_eq_getElem (show i - 1<l.length by omega)] at he
   cases he
   exact h2 h0
abbrev WfH (l:List Ho):Prop:=∀h∈l,0≤h.1
theorem Lk.wf {l:List Ho} (h:Lk l):WfH l:=fun x hx=>(h.2.1 x hx).1.1
theorem aL4 {h:Ho} (h0:0≤h.1):aHM h↔May h:=by unfold aHM May;omega
theorem aJ5 {l:List Ho} (hw:WfH l):Lk l↔aHO (okP l) 0:=by
 constructor
 · rintro⟨h1,h2,h3⟩ j _ d hd
   obtain⟨hj,he⟩:=List.getElem?_eq_some_iff.1 hd
   have hm:=h2 d (List.mem_of_getElem? hd)
   refine⟨(aL4 hm.1.1).2 hm,fun h0 e he2=>?_⟩
   obtain⟨hj2,he3⟩:=List.getElem?_eq_some_iff.1 he2
   have hme:=h2 e (List.mem_of_getElem? he2)
   have:=List.pairwise_iff_getElem.1 h1 (j - 1) j hj2 hj (by omega)
   rw[he,he3] at this
   have hx:=(aSF hme hm).1 this
   refine⟨hx,fun hk=>?_⟩
   have ht:e.2.1≠d.2.1:=by rcases hx with hx | hx<;>omega
   exact⟨h3 e (List.mem_of_getElem? he2) d (List.mem_of_getElem? hd) hk ht,h3 d (List.mem_of_getElem? hd) e (List.mem_of_getElem? he2) hk.symm (Ne.symm ht)⟩
 · intro h
   have hm:∀x∈l,May x:=fun x hx=>by
    obtain⟨j,hj⟩:=List.mem_iff_getElem?.1 hx
    exact(aL4 (hw x hx)).1 (h j (Nat.zero_le _) x hj).1
   have adj:∀i (hi:i+1<l.length),aJU l[i] l[i+1]∧(l[i].1=l[i+1].1→l[i].2.2=false∧l[i+1].2.2=false):=fun i hi=>((aWR hi).1 (h (i+1) (Nat.zero_le _))).2 (by omega)
   have step:∀i (hi:i+1<l.length),cd l[i]<cd l[i+1]:=fun i hi=>(aSF (hm _ (List.getElem_mem _)) (hm _ (List.getElem_mem _))).2 (adj i hi).1
   have hp:l.Pairwise (fun a b=>cd a<cd b):=by
    rw[List.pairwise_iff_getElem]
    intro i j hi hj hij
    obtain⟨k,rfl⟩:∃k,j=i+1+k:=⟨j - i - 1,by omega⟩
    induction k with
    | zero=>exact step i hj
    | succ k ih =>
     have:=ih (by omega) (by omega)
     have:=step (i+1+k) (by omega)
     have e:i+1+(k+1)=i+1+k+1:=by omega
     simp only[e]
     omega
   have key:∀i j (hi:i<l.length) (hj:j<l.length),i≤j→l[i].1≤l[j].1:=fun i j hi hj hij=>by
    by_cases e:i=j
    · subst e;omega
    · have:=(aSF (hm _ (List.getElem_mem hi)) (hm _ (List.getElem_mem hj))).1 (List.pairwise_iff_getElem.1 hp i j hi hj (by omega))
      omega
   refine⟨hp,hm,fun a ha b hb hk ht=>?_⟩
   obtain⟨i,hi,rfl⟩:=List.mem_iff_getElem.1 ha
   obtain⟨j,hj,rfl⟩:=List.mem_iff_getElem.1 hb
   rcases Nat.lt_trichotomy i j with hlt | rfl | hgt
   · have h1:=key i (i+1) hi (by omega) (by omega)
     have h2:=key (i+1) j (by omega) hj (by omega)
     exact((adj i (by omega)).2 (by omega)).1
   · exact absurd rfl ht
   · obtain⟨i',rfl⟩:∃i',i=i'+1:=⟨i - 1,by omega⟩
     have h1:=key i' (i'+1) (by omega) hi (by omega)
     have h2:=key j i' hj (by omega) (by omega)
     exact((adj i' hi).2 (by omega)).2
theorem aV2 {l:List Ho} (hw:WfH l):Lk l↔aHO (okR l) 0:=by
 constructor
 · intro h j _ d hd
   obtain⟨h1,h2⟩:=(aJ5 hw).1 h j (Nat.zero_le _) d hd
   refine⟨h1,fun h0 e he=>(h2 h0 e he).1,fun i e hij he hk=>?_⟩
   obtain⟨hj,hje⟩:=List.getElem?_eq_some_iff.1 hd
   obtain⟨hi,hie⟩:=List.getElem?_eq_some_iff.1 he
   refine h.2.2 d (List.mem_of_getElem? hd) e (List.mem_of_getElem? he) hk.symm fun ht=>?_
   have hm1:=h.2.1 d (List.mem_of_getElem? hd)
   have hm2:=h.2.1 e (List.mem_of_getElem? he)
   have hc:=(cd_eq hm1 hm2).2 ⟨hk.symm,ht⟩
   rcases Nat.lt_or_gt_of_ne hij with hlt | hgt
   · have:=List.pairwise_iff_getElem.1 h.1 i j hi hj hlt
     rw[hje,hie] at this;omega
   · have:=List.pairwise_iff_getElem.1 h.1 j i hj hi hgt
     rw[hje,hie] at this;omega
 · intro h
   refine(aJ5 hw).2 fun j _ d hd=>?_
   obtain⟨h1,h2,h3⟩:=h j (Nat.zero_le _) d hd
   refine⟨h1,fun h0 e he=>⟨h2 h0 e he,fun hk=>⟨?_,h3 (j - 1) e (by omega) he hk⟩⟩⟩
   obtain⟨_,_,h4⟩:=h (j - 1) (Nat.zero_le _) e he
   exact h4 j d (by omega) hd hk.symm
theorem aNA {l:List Ho} (hl:l.length≤100000):∀(d i:Nat) (v:Int),l.length - i=d→i≤l.length→v=(i:Int)→(aHO (okP l) i→eV l v=some (.inl ()))∧(¬aHO (okP l) i→eV l v=some (.inr false)):=by
 intro d
 induction d with
 | zero =>
  intro i v hd hi hv
  refine⟨fun _=>?_,fun h=>absurd (okP_end (by omega)) h⟩
  rw[iA]
  repeat (first|refine ip0 ?_|refine jn0 ?_|refine el ?_|refine er ?_)
  rfl
 | succ d ih =>
  intro i v hd hi hv
  have hlt:i<l.length:=by omega
  obtain⟨q1,q2⟩:=ih (i+1) (aL .i64 v 1) (by omega) (by omega) sd
  rw[aIE,aWR hlt]
  have hmi:=(zY l[i].2.1 l[i].1).1
  by_cases h1:aHM l[i]
  rotate_left
  · have hm:¬jR l[i].2.1 l[i].1=true:=fun h=>h1 (hmi.1 h)
    refine⟨fun h=>absurd h.1.1 h1,fun _=>?_⟩
    rw[iA]
    repeat (first|refine ip (by first|with_reducible rfl | assumption | (simp (disch:=omega) only[ws,wl,wb,hm]<;>omega)|omega) ?_|refine jn (by first|with_reducible rfl | assumption | (simp (disch:=omega) only[ws,wl,wb,hm]<;>omega)|omega) ?_|refine(bnd (cU hv hlt)).trans ?_|refine el ?_|refine er ?_)
    rfl
  have hm:jR l[i].2.1 l[i].1=true:=hmi.2 h1
  by_cases h0:0<i
  rotate_left
  · have e:eV l v=eV l (aL .i64 v 1):=by
     rw[iA]
     repeat (first|refine ip (by first|with_reducible rfl | assumption | (simp (disch:=omega) only[ws,wl,wb,hm]<;>omega)|omega) ?_|refine jn (by first|with_reducible rfl | assumption | (simp (disch:=omega) only[ws,wl,wb,hm]<;>omega)|omega) ?_|refine(bnd (cU hv hlt)).trans ?_|refine el ?_|refine er ?_)
     rfl
    rw[e]
    exact⟨fun h=>q1 h.2,fun h=>q2 fun hh=>h ⟨⟨h1,fun h=>absurd h h0⟩,hh⟩⟩
  have g2:=cU (l:=l) (q:=qF .i64 v 1) (i:=i - 1) (by rw[aIV (by omega)];omega) (by omega)
  obtain ⟨o, o1, o2, _⟩ := aLI (l[i - 1]'(by omega)) l[i]
  by_cases h2 : aJU (l[i - 1]'(by omega)) l[i]
  rotate_left
  · have ho:¬o<0:=fun h=>h2 (o2.1 h)
    refine⟨fun h=>absurd (h.1.2 h0).1 h2,fun _=>?_⟩
    rw[iA]
    repeat (first|refine ip (by first|with_reducible rfl | assumption | (simp (disch:=omega) only[ws,wl,wb,hm]<;>omega)|omega) ?_|refine jn (by first|with_reducible rfl | assumption | (simp (disch:=omega) only[ws,wl,wb,hm]<;>omega)|omega) ?_|refine(bnd (cU hv hlt)).trans ?_|refine(bnd g2).trans ?_|refine(bnd o1).trans ?_|refine el ?_|refine er ?_)
    rfl
  have ho:o<0:=o2.2 h2
  by_cases hk : (l[i - 1]'(by omega)).1 = l[i].1
  rotate_left
  · have e:eV l v=eV l (aL .i64 v 1):=by
     rw[iA]
     repeat (first|refine ip (by first|with_reducible rfl | assumption | (simp (disch:=omega) only[ws,wl,wb,hm]<;>omega)|omega) ?_|refine jn (by first|with_reducible rfl | assumption | (simp (disch:=omega) only[ws,wl,wb,hm]<;>omega)|omega) ?_|refine(bnd (cU hv hlt)).trans ?_|refine(bnd g2).trans ?_|refine(bnd o1).trans ?_|refine el ?_|refine er ?_)
     rfl
    rw[e]
    exact⟨fun h=>q1 h.2,fun h=>q2 fun hh=>h ⟨⟨h1,fun _=>⟨h2,fun h=>absurd h hk⟩⟩,hh⟩⟩
  cases hb1 : (l[i - 1]'(by omega)).2.2
  · cases hb2:l[i].2.2
    · have e:eV l v=eV l (aL .i64 v 1):=by
       rw[iA]
       repeat (first|refine ip (by first|with_reducible rfl | assumption | (simp (disch:=omega) only[ws,wl,wb,hm,hb1,hb2]<;>omega)|omega) ?_|refine jn (by first|with_reducible rfl | assumption | (simp (disch:=omega) only[ws,wl,wb,hm,hb1,hb2]<;>omega)|omega) ?_|refine(bnd (cU hv hlt)).trans ?_|refine(bnd g2).trans ?_|refine(bnd o1).trans ?_|refine el ?_|refine er ?_)
       rfl
      rw[e]
      exact⟨fun h=>q1 h.2,fun h=>q2 fun hh=>h ⟨⟨h1,fun _=>⟨h2,fun _=>⟨hb1,rfl⟩⟩⟩,hh⟩⟩
    · refine⟨fun h=>absurd ((h.1.2 h0).2 hk).2 (by simp),fun _=>?_⟩
      rw[iA]
      repeat (first|refine ip (by first|with_reducible rfl | assumption | (simp (disch:=omega) only[ws,wl,wb,hm,hb1,hb2]<;>omega)|omega) ?_|refine jn (by first|with_reducible rfl | assumption | (simp (disch:=omega) only[ws,wl,wb,hm,hb1,hb2]<;>omega)|omega) ?_|refine(bnd (cU hv hlt)).trans ?_|refine(bnd g2).trans ?_|refine(bnd o1).trans ?_|refine el ?_|refine er ?_)
      rfl
  · refine⟨fun h=>absurd ((h.1.2 h0).2 hk).1 (by rw[hb1];simp),fun _=>?_⟩
    rw[iA]
    repeat (first|refine ip (by first|with_reducible rfl | assumption | (simp (disch:=omega) only[ws,wl,wb,hm,hb1]<;>omega)|omega) ?_|refine jn (by first|with_reducible rfl | assumption | (simp (disch:=omega) only[ws,wl,wb,hm,hb1]<;>omega)|omega) ?_|refine(bnd (cU hv hlt)).trans ?_|refine(bnd g2).trans ?_|refine(bnd o1).trans ?_|refine el ?_|refine er ?_)
    rfl
theorem aEC {l:List Ho} (h:Lk l) (hl:l.length≤100000):o4 l=some true:=by
 rw[o4]
 repeat (first|refine ip0 ?_|refine jn0 ?_|refine(bnd ((aNA hl _ 0 0 rfl (by omega) rfl).1 ((aJ5 h.wf).1 h))).trans ?_|refine el ?_|refine er ?_)
 rfl
theorem pright_f {l:List Ho} (hw:WfH l) (hl:l.length≤100000) (h:¬Lk l):o4 l=some false:=by
 rw[o4]
 repeat (first|refine ip0 ?_|refine jn0 ?_|refine(bnd ((aNA hl _ 0 0 rfl (by omega) rfl).2 (fun hh=>h ((aJ5 hw).2 hh)))).trans ?_|refine el ?_|refine er ?_)
 rfl
def aLN (l:List Ho) (h:Ho) (i j:Nat):Prop:=∀e,j≠i→l[j]? = some e→e.1=h.1→h.2.2=false
theorem rin_l1 {l:List Ho} {h:Ho} {iv:Int} {n:Nat} (hl:l.length≤100000) (hiv:iv=(n:Int)):∀(d i:Nat) (v:Int),l.length - i=d→i≤l.length→v=(i:Int) →
 (aHO (aLN l h n) i→b8 l h v iv=some (.inl iv))∧(¬aHO (aLN l h n) i→b8 l h v iv=some (.inr false)):=by
 intro d
 induction d with
 | zero =>
  intro i v hd hi hv
  refine⟨fun _=>?_,fun hh=>absurd (fun j hj e _ he=>by rw[List.getElem?_eq_none (by omega)] at he;cases he) hh⟩
  rw[lN]
  repeat (first|refine ip0 ?_|refine jn0 ?_|refine el ?_|refine er ?_)
  rfl
 | succ d ih =>
  intro i v hd hi hv
  have hlt:i<l.length:=by omega
  obtain⟨q1,q2⟩:=ih (i+1) (aL .i64 v 1) (by omega) (by omega) sd
  rw[aIE]
  by_cases hin:i=n
  · have e:b8 l h v iv=b8 l h (aL .i64 v 1) iv:=by
     rw[lN]
     repeat (first|refine ip0 ?_|refine jn0 ?_|refine el ?_|refine er ?_)
     rfl
    rw[e]
    exact⟨fun h=>q1 h.2,fun h=>q2 fun hh=>h ⟨fun e he=>absurd hin he,hh⟩⟩
  by_cases hk:l[i].1=h.1
  · cases hb:h.2.2
    · have e:b8 l h v iv=b8 l h (aL .i64 v 1) iv:=by
       rw[lN]
       repeat (first|refine ip (by first|with_reducible rfl | assumption | (simp (disch:=omega) only[ws,wl,wb,hb]<;>omega)|omega) ?_|refine jn (by first|with_reducible rfl | assumption | (simp (disch:=omega) only[ws,wl,wb,hb]<;>omega)|omega) ?_|refine(bnd (cU hv hlt)).trans ?_|refine el ?_|refine er ?_)
       rfl
      rw[e]
      exact⟨fun h=>q1 h.2,fun h=>q2 fun hh=>h ⟨fun _ _ _ _=>hb,hh⟩⟩
    · refine⟨fun hh=>absurd (hh.1 _ hin (List.getElem?_eq_getElem hlt) hk) (by rw[hb];simp),fun _=>?_⟩
      rw[lN]
      repeat (first|refine ip (by first|with_reducible rfl | assumption | (simp (disch:=omega) only[ws,wl,wb,hb]<;>omega)|omega) ?_|refine jn (by first|with_reducible rfl | assumption | (simp (disch:=omega) only[ws,wl,wb,hb]<;>omega)|omega) ?_|refine(bnd (cU hv hlt)).trans ?_|refine el ?_|refine er ?_)
      rfl
  · have e:b8 l h v iv=b8 l h (aL .i64 v 1) iv:=by
     rw[lN]
     repeat (first|refine ip0 ?_|refine jn0 ?_|refine(bnd (cU hv hlt)).trans ?_|refine el ?_|refine er ?_)
     rfl
    rw[e]
    exact⟨fun h=>q1 h.2,fun h=>q2 fun hh=>h ⟨fun e _ he hke=>by rw[List.getElem?_eq_getElem hlt] at he;cases he;exact absurd hke hk,hh⟩⟩
theorem aBG {l:List Ho} (hl:l.length≤100000):∀(d i:Nat) (v:Int),l.length - i=d→i≤l.length→v=(i:Int)→(aHO (okR l) i→gO l v=some (.inl ()))∧(¬aHO (okR l) i→gO l v=some (.inr false)):=by
 intro d
 induction d with
 | zero =>
  intro i v hd hi hv
  refine⟨fun _=>?_,fun h=>absurd (okR_end (by omega)) h⟩
  rw[n9]
  repeat (first|refine ip0 ?_|refine jn0 ?_|refine el ?_|refine er ?_)
  rfl
 | succ d ih =>
  intro i v hd hi hv
  have hlt:i<l.length:=by omega
  obtain⟨q1,q2⟩:=ih (i+1) (aL .i64 v 1) (by omega) (by omega) sd
  rw[aIE]
  have gi:=List.getElem?_eq_getElem hlt
  have hmi:=(zY l[i].2.1 l[i].1).2
  by_cases h1:aHM l[i]
  rotate_left
  · have hm:¬iJ l[i].2.1 l[i].1=true:=fun h=>h1 (hmi.1 h)
    refine⟨fun h=>absurd (h.1 _ gi).1 h1,fun _=>?_⟩
    rw[n9]
    repeat (first|refine ip (by first|with_reducible rfl | assumption | (simp (disch:=omega) only[ws,wl,wb,hm]<;>omega)|omega) ?_|refine jn (by first|with_reducible rfl | assumption | (simp (disch:=omega) only[ws,wl,wb,hm]<;>omega)|omega) ?_|refine(bnd (cU hv hlt)).trans ?_|refine el ?_|refine er ?_)
    rfl
  have hm:iJ l[i].2.1 l[i].1=true:=hmi.2 h1
  obtain⟨r1,r2⟩:=rin_l1 (h:=l[i]) (iv:=v) (n:=i) hl hv _ 0 0 rfl (by omega) rfl
  have hin : (0 < i → aJU (l[i - 1]'(by omega)) l[i]) → (∃ q, b8 l l[i] 0 v = some q ∧ gO l v = Sum.elim (fun x => gO l (aL .i64 x 1)) (fun x => some (.inr x)) q) := by
   intro hx
   have hq:∃q,b8 l l[i] 0 v=some q:=by
    by_cases ha:aHO (aLN l l[i] i) 0
    · exact⟨_,r1 ha⟩
    · exact⟨_,r2 ha⟩
   obtain⟨q,hq⟩:=hq
   refine⟨q,hq,?_⟩
   rw[n9]
   by_cases h0:0<i
   · have g2:=cU (l:=l) (q:=qF .i64 v 1) (i:=i - 1) (by rw[aIV (by omega)];omega) (by omega)
     by_cases hk : (l[i - 1]'(by omega)).1 < l[i].1
     · repeat (first|refine ip (by first|with_reducible rfl | assumption | (simp (disch:=omega) only[ws,wl,wb,hm]<;>omega)|omega) ?_|refine jn (by first|with_reducible rfl | assumption | (simp (disch:=omega) only[ws,wl,wb,hm]<;>omega)|omega) ?_|refine(bnd (cU hv hlt)).trans ?_|refine(bnd g2).trans ?_|refine(bnd hq).trans ?_|refine el ?_|refine er ?_)
       rfl
     · have h2:=hx h0
       unfold aJU at h2
       repeat (first|refine ip (by first|with_reducible rfl | assumption | (simp (disch:=omega) only[ws,wl,wb,hm]<;>omega)|omega) ?_|refine jn (by first|with_reducible rfl | assumption | (simp (disch:=omega) only[ws,wl,wb,hm]<;>omega)|omega) ?_|refine(bnd (cU hv hlt)).trans ?_|refine(bnd g2).trans ?_|refine(bnd hq).trans ?_|refine el ?_|refine er ?_)
       rfl
   · repeat (first|refine ip (by first|with_reducible rfl | assumption | (simp (disch:=omega) only[ws,wl,wb,hm]<;>omega)|omega) ?_|refine jn (by first|with_reducible rfl | assumption | (simp (disch:=omega) only[ws,wl,wb,hm]<;>omega)|omega) ?_|refine(bnd (cU hv hlt)).trans ?_|refine(bnd hq).trans ?_|refine el ?_|refine er ?_)
     rfl
  by_cases h2 : 0 < i → aJU (l[i - 1]'(by omega)) l[i]
  rotate_left
  · have h0:0<i:=Classical.byContradiction fun h=>h2 fun hh=>absurd hh h
    have h2' : ¬ aJU (l[i - 1]'(by omega)) l[i] := fun h => h2 fun _ => h
    have g2:=cU (l:=l) (q:=qF .i64 v 1) (i:=i - 1) (by rw[aIV (by omega)];omega) (by omega)
    refine⟨fun h=>absurd ((h.1 _ gi).2.1 h0 _ (List.getElem?_eq_getElem (by omega))) h2',fun _=>?_⟩
    unfold aJU at h2'
    rw[n9]
    by_cases hk : (l[i - 1]'(by omega)).1 = l[i].1
    · repeat (first|refine ip (by first|with_reducible rfl | assumption | (simp (disch:=omega) only[ws,wl,wb,hm]<;>omega)|omega) ?_|refine jn (by first|with_reducible rfl | assumption | (simp (disch:=omega) only[ws,wl,wb,hm]<;>omega)|omega) ?_|refine(bnd (cU hv hlt)).trans ?_|refine(bnd g2).trans ?_|refine el ?_|refine er ?_)
      rfl
    · repeat (first|refine ip (by first|with_reducible rfl | assumption | (simp (disch:=omega) only[ws,wl,wb,hm]<;>omega)|omega) ?_|refine jn (by first|with_reducible rfl | assumption | (simp (disch:=omega) only[ws,wl,wb,hm]<;>omega)|omega) ?_|refine(bnd (cU hv hlt)).trans ?_|refine(bnd g2).trans ?_|refine el ?_|refine er ?_)
      rfl
  obtain⟨q,hq,he⟩:=hin h2
  rw[he]
  by_cases ha:aHO (aLN l l[i] i) 0
  · have:=r1 ha
    rw[hq] at this
    cases this
    simp only[Sum.elim_inl]
    refine⟨fun h=>q1 h.2,fun h=>q2 fun hh=>h ⟨fun x hx=>?_,hh⟩⟩
    rw[gi] at hx
    cases hx
    refine⟨h1,fun h0 e he=>?_,fun j e hj hje hke=>ha j (Nat.zero_le _) e hj hje hke⟩
    rw[List.getElem?_eq_getElem (show i - 1<l.length by omega)] at he
    cases he
    exact h2 h0
  · have:=r2 ha
    rw[hq] at this
    cases this
    simp only[Sum.elim_inr]
    refine⟨fun h=>absurd (fun j _ e hj hje hke=>(h.1 _ gi).2.2 j e hj hje hke) ha,fun _=>trivial⟩
theorem aA9 {l:List Ho} (h:Lk l) (hl:l.length≤100000):nN l=some true:=by
 rw[nN]
 repeat (first|refine ip0 ?_|refine jn0 ?_|refine(bnd ((aBG hl _ 0 0 rfl (by omega) rfl).1 ((aV2 h.wf).1 h))).trans ?_|refine el ?_|refine er ?_)
 rfl
theorem rright_f {l:List Ho} (hw:WfH l) (hl:l.length≤100000) (h:¬Lk l):nN l=some false:=by
 rw[nN]
 repeat (first|refine ip0 ?_|refine jn0 ?_|refine(bnd ((aBG hl _ 0 0 rfl (by omega) rfl).2 (fun hh=>h ((aV2 hw).2 hh)))).trans ?_|refine el ?_|refine er ?_)
 rfl
theorem aCH {l:List Ho} {i:Nat} (h:i<l.length) (tx:Int):lO (l.take (i+1)) tx=if l[i].2.1=tx then lO (l.take i) tx else lO (l.take i) tx++[l[i]]:=by
 unfold lO
 rw[List.take_add_one,List.getElem?_eq_getElem h,List.filter_append]
 show _++[l[i]].filter _=_
 by_cases hk:l[i].2.1=tx
 · rw[if_pos hk];simp [hk]
 · rw[if_neg hk];simp [hk]
theorem rfree_l0 {l:List Ho} {tx:Int} (hl:l.length≤100000):∀(d i:Nat) (v:Int) (o:List Ho),l.length - i=d→i≤l.length→v=(i:Int)→o=lO (l.take i) tx→mT l tx v o=some (lO l tx):=by
 intro d
 induction d with
 | zero =>
  intro i v o hd hi hv ho
  rw[yO]
  repeat (first|refine ip0 ?_|refine jn0 ?_|refine el ?_|refine er ?_)
  rw[ho,List.take_of_length_le (by omega)]
 | succ d ih =>
  intro i v o hd hi hv ho
  have hlt:i<l.length:=by omega
  have hs:=aCH hlt tx
  have hol:o.length≤i:=by rw[ho];have:=aBI (l.take i) tx;simp at this;omega
  rw[yO]
  by_cases hk:l[i].2.1=tx
  · rw[if_pos hk] at hs
    repeat (first|refine ip0 ?_|refine jn0 ?_|refine(bnd (cU hv hlt)).trans ?_|refine el ?_|refine er ?_)
    exact ih (i+1) _ _ (by omega) (by omega) sd (by rw[hs,ho])
  · rw[if_neg hk] at hs
    repeat (first|refine ip0 ?_|refine jn0 ?_|refine(bnd (cU hv hlt)).trans ?_|refine el ?_|refine er ?_)
    exact ih (i+1) _ _ (by omega) (by omega) sd (by rw[hs,ho])
theorem rfree_ok {l:List Ho} (hl:l.length≤100000) (tx:Int):tQ l tx=some (lO l tx):=by
 rw[tQ]
 repeat (first|refine ip0 ?_|refine jn0 ?_|refine(bnd (rfree_l0 hl _ 0 0 [] rfl (by omega) rfl rfl)).trans ?_|refine el ?_|refine er ?_)
 rfl
theorem fidx_l0 {l:List Ho} {tx:Int} (hl:l.length≤100000):∀(d i:Nat) (v:Int),l.length - i=d→i≤l.length→v=(i:Int)→lO (l.take i) tx=l.take i →
 (eE l tx v=some (.inl ())∧lO l tx=l)∨(∃(n:Nat) (hn:n<l.length),eE l tx v=some (.inr (n:Int))∧lO (l.take n) tx=l.take n∧l[n].2.1=tx):=by
 intro d
 induction d with
 | zero =>
  intro i v hd hi hv hf
  rw[List.take_of_length_le (by omega)] at hf
  refine .inl ⟨?_,hf⟩
  rw[lS]
  repeat (first|refine ip0 ?_|refine jn0 ?_|refine el ?_|refine er ?_)
  rfl
 | succ d ih =>
  intro i v hd hi hv hf
  have hlt:i<l.length:=by omega
  have hs:=aCH hlt tx
  by_cases hk:l[i].2.1=tx
  · refine .inr ⟨i,hlt,?_,hf,hk⟩
    rw[lS]
    repeat (first|refine ip0 ?_|refine jn0 ?_|refine(bnd (cU hv hlt)).trans ?_|refine el ?_|refine er ?_)
    rw[hv]
  · have e:eE l tx v=eE l tx (aL .i64 v 1):=by
     rw[lS]
     repeat (first|refine ip0 ?_|refine jn0 ?_|refine(bnd (cU hv hlt)).trans ?_|refine el ?_|refine er ?_)
     rfl
    rw[e]
    rw[if_neg hk,hf] at hs
    refine ih (i+1) _ (by omega) (by omega) sd ?_
    rw[hs,List.take_add_one,List.getElem?_eq_getElem hlt];rfl
theorem del_l0 {l:List Ho} {tx:Int} (hl:l.length≤100000):∀(d i w:Nat) (v u:Int) (L:List Ho),l.length - i=d→i≤l.length→w<i→v=(i:Int)→u=(w:Int)→L.length=l.length→L.take w=lO (l.take i) tx→L.drop i=l.drop i →
 ∃(w2:Nat) (L2:List Ho),w2<l.length∧L2.length=l.length∧L2.take w2=lO l tx∧iI l tx v u L=some ((w2:Int),L2):=by
 intro d
 induction d with
 | zero =>
  intro i w v u L hd hi hw hv hu hL ht hdr
  refine⟨w,L,by omega,hL,by rw[ht,List.take_of_length_le (by omega)],?_⟩
  rw[rH]
  repeat (first|refine ip0 ?_|refine jn0 ?_|refine el ?_|refine er ?_)
  rw[hu]
 | succ d ih =>
  intro i w v u L hd hi hw hv hu hL ht hdr
  have hlt:i<l.length:=by omega
  have hltL:i<L.length:=by omega
  have hs:=aCH hlt tx
  have e1:L[i]=l[i]:=by
   have:=congrArg (fun x=>x[0]?) hdr
   simp only[List.getElem?_drop,Nat.add_zero] at this
   rw[List.getElem?_eq_getElem hlt,List.getElem?_eq_getElem hltL] at this
   exact Option.some.inj this
  have e2:L.drop (i+1)=l.drop (i+1):=by
   have:=congrArg (List.drop 1) hdr
   rwa [List.drop_drop,List.drop_drop] at this
  have g:=cU (l:=L) hv hltL
  rw[e1] at g
  rw[rH]
  by_cases hk:l[i].2.1=tx
  · rw[if_pos hk] at hs
    obtain⟨w2,L2,r1,r2,r3,r4⟩:=ih (i+1) w (aL .i64 v 1) u L (by omega) (by omega) (by omega) sd hu hL (by rw[hs,ht]) e2
    refine⟨w2,L2,r1,r2,r3,?_⟩
    repeat (first|refine ip (by first|with_reducible rfl | assumption | (simp (disch:=omega) only[ws,wl,wb,hL]<;>omega)|omega) ?_|refine jn (by first|with_reducible rfl | assumption | (simp (disch:=omega) only[ws,wl,wb,hL]<;>omega)|omega) ?_|refine(bnd g).trans ?_|refine el ?_|refine er ?_)
    exact r4
  · rw[if_neg hk] at hs
    have hwL:w<L.length:=by omega
    have e3:(List.set L (tN u) l[i]).take (w+1)=lO (l.take (i+1)) tx:=by
     rw[hu,qQ,hs,List.take_add_one,List.take_set,List.set_eq_of_length_le (by simp;omega),List.getElem?_set_self hwL,ht];rfl
    have e4:(List.set L (tN u) l[i]).drop (i+1)=l.drop (i+1):=by
     rw[hu,qQ,List.drop_set_of_lt (by omega)];exact e2
    obtain⟨w2,L2,r1,r2,r3,r4⟩:=ih (i+1) (w+1) (aL .i64 v 1) (aL .i64 u 1) (List.set L (tN u) l[i]) (by omega) (by omega) (by omega) sd sd (by simp;exact hL) e3 e4
    refine⟨w2,L2,r1,r2,r3,?_⟩
    repeat (first|refine ip (by first|with_reducible rfl | assumption | (simp (disch:=omega) only[ws,wl,wb,hL]<;>omega)|omega) ?_|refine jn (by first|with_reducible rfl | assumption | (simp (disch:=omega) only[ws,wl,wb,hL]<;>omega)|omega) ?_|refine(bnd g).trans ?_|refine(bnd (cU (l:=L) hu hwL)).trans ?_|refine el ?_|refine er ?_)
    exact r4
theorem free_ok {l:List Ho} (hl:l.length≤100000) (tx:Int):mX l tx=some (lO l tx):=by
 have hcl:=mJ l (by omega)
 rcases fidx_l0 (tx:=tx) hl _ 0 0 rfl (by omega) rfl rfl with⟨q1,q2⟩ | ⟨n,hn,q1,q2,q3⟩
 · have hi:gS l tx=some (-1):=by
    rw[gS]
    repeat (first|refine ip0 ?_|refine jn0 ?_|refine(bnd q1).trans ?_|refine el ?_|refine er ?_)
    rfl
   have hd:iM l tx=some (l.length,l):=by
    rw[iM]
    repeat (first|refine ip0 ?_|refine jn0 ?_|refine(bnd hi).trans ?_|refine el ?_|refine er ?_)
    rfl
   rw[mX]
   repeat (first|refine ip0 ?_|refine jn0 ?_|refine(bnd hcl).trans ?_|refine(bnd hd).trans ?_|refine el ?_|refine er ?_)
   rw[List.take_length,q2]
 · have hi:gS l tx=some (n:Int):=by
    rw[gS]
    repeat (first|refine ip0 ?_|refine jn0 ?_|refine(bnd q1).trans ?_|refine el ?_|refine er ?_)
    rfl
   have hs:=aCH hn tx
   rw[if_pos q3,q2] at hs
   obtain⟨w2,L2,r1,r2,r3,r4⟩:=del_l0 (tx:=tx) hl _ (n+1) n (aL .i64 (n:Int) 1) (n:Int) l rfl (by omega) (by omega) (by rw[aD7 (by omega)];omega) rfl rfl hs.symm rfl
   obtain⟨m,hm⟩:∃m,m=l.length - w2:=⟨_,rfl⟩
   have hd:iM l tx=some (w2,(List.take w2 L2++List.replicate m (0,0,false))++List.drop (w2+m) L2):=by
    rw[iM,hm]
    have hw2:tN ((w2:Nat):Int)=w2:=qQ w2
    refine(bnd hi).trans ?_
    refine(if_neg sd).trans ?_
    refine(bnd r4).trans ?_
    simp only[hw2]
    repeat (first|refine ip (by first|with_reducible rfl | assumption | (simp (disch:=omega) only[ws,wl,wb,r2]<;>omega)|omega) ?_|refine jn (by first|with_reducible rfl | assumption | (simp (disch:=omega) only[ws,wl,wb,r2]<;>omega)|omega) ?_|refine el ?_|refine er ?_)
    rfl
   have hlen:((List.take w2 L2++List.replicate m (0,0,false))++List.drop (w2+m) L2).length=l.length:=by
    simp;omega
   rw[mX]
   refine(bnd hcl).trans ?_
   refine(bnd hd).trans ?_
   refine(if_pos (by simp only[aRM,hlen];omega)).trans ?_
   rw[List.append_assoc,List.take_append_of_le_length (by simp;omega),List.take_take,Nat.min_self,r3]
theorem aNL {d:Ho} {l:List Ho} {k t:Int} {w:Bool}:aCM (d::l) k t w↔(d.1=k∧d.2.1≠t∧(w=true∨d.2.2=true))∨aCM l k t w:=by
 constructor
 · rintro⟨h,hm,hh⟩
   rcases List.mem_cons.1 hm with rfl | hm
   · exact .inl hh
   · exact .inr ⟨h,hm,hh⟩
 · rintro (h | ⟨h,hm,hh⟩)
   · exact⟨d,by simp,h⟩
   · exact⟨h,by simp [hm],hh⟩
theorem aSI {l:List Ho} {k t:Int} {w:Bool} (hl:l.length≤100000):∀(d i:Nat) (v:Int),l.length - i=d→i≤l.length→v=(i:Int) →
 (¬aCM (l.drop i) k t w→fI l t k w v=some (.inl ()))∧(aCM (l.drop i) k t w→fI l t k w v=some (.inr (l,9))):=by
 intro d
 induction d with
 | zero =>
  intro i v hd hi hv
  rw[List.drop_of_length_le (by omega)]
  refine⟨fun _=>?_,fun ⟨h,hh,_⟩=>by cases hh⟩
  rw[lB]
  repeat (first|refine ip0 ?_|refine jn0 ?_|refine el ?_|refine er ?_)
  rfl
 | succ d ih =>
  intro i v hd hi hv
  have hlt:i<l.length:=by omega
  have ed:l.drop i=l[i]::l.drop (i+1):=List.drop_eq_getElem_cons hlt
  rw[ed,aNL]
  obtain⟨q1,q2⟩:=ih (i+1) (aL .i64 v 1) (by omega) (by omega) sd
  by_cases hk:l[i].1=k
  rotate_left
  · have e:fI l t k w v=fI l t k w (aL .i64 v 1):=by
     rw[lB]
     repeat (first|refine ip0 ?_|refine jn0 ?_|refine(bnd (cU hv hlt)).trans ?_|refine el ?_|refine er ?_)
     rfl
    rw[e]
    exact⟨fun h=>q1 fun hh=>h (.inr hh),fun h=>q2 (h.resolve_left fun hh=>hk hh.1)⟩
  by_cases ht:l[i].2.1=t
  · have e:fI l t k w v=fI l t k w (aL .i64 v 1):=by
     rw[lB]
     repeat (first|refine ip0 ?_|refine jn0 ?_|refine(bnd (cU hv hlt)).trans ?_|refine el ?_|refine er ?_)
     rfl
    rw[e]
    exact⟨fun h=>q1 fun hh=>h (.inr hh),fun h=>q2 (h.resolve_left fun hh=>hh.2.1 ht)⟩
  cases w with
  | true =>
   refine⟨fun h=>absurd (.inl ⟨hk,ht,.inl rfl⟩) h,fun _=>?_⟩
   rw[lB]
   repeat (first|refine ip0 ?_|refine jn0 ?_|refine(bnd (cU hv hlt)).trans ?_|refine el ?_|refine er ?_)
   rfl
  | false =>
   cases hb:l[i].2.2
   · have e:fI l t k false v=fI l t k false (aL .i64 v 1):=by
      rw[lB]
      repeat (first|refine ip (by first|with_reducible rfl | assumption | (simp (disch:=omega) only[ws,wl,wb,hb]<;>omega)|omega) ?_|refine jn (by first|with_reducible rfl | assumption | (simp (disch:=omega) only[ws,wl,wb,hb]<;>omega)|omega) ?_|refine(bnd (cU hv hlt)).trans ?_|refine el ?_|refine er ?_)
      rfl
     rw[e]
     exact⟨fun h=>q1 fun hh=>h (.inr hh),fun h=>q2 (h.resolve_left fun hh=>by simp at hh)⟩
   · refine⟨fun h=>absurd (.inl ⟨hk,ht,.inr rfl⟩) h,fun _=>?_⟩
     rw[lB]
     repeat (first|refine ip (by first|with_reducible rfl | assumption | (simp (disch:=omega) only[ws,wl,wb,hb]<;>omega)|omega) ?_|refine jn (by first|with_reducible rfl | assumption | (simp (disch:=omega) only[ws,wl,wb,hb]<;>omega)|omega) ?_|refine(bnd (cU hv hlt)).trans ?_|refine el ?_|refine er ?_)
     rfl
theorem aQ7 {l:List Ho} {k t:Int} {w:Bool} (hl:l.length≤100000):∀(d i:Nat) (v:Int),l.length - i=d→i≤l.length→v=(i:Int) →
 (¬aCM (l.drop i) k t w→eU l t k w v=some (.inl ()))∧(aCM (l.drop i) k t w→eU l t k w v=some (.inr (l,9))):=by
 intro d
 induction d with
 | zero =>
  intro i v hd hi hv
  rw[List.drop_of_length_le (by omega)]
  refine⟨fun _=>?_,fun ⟨h,hh,_⟩=>by cases hh⟩
  rw[kJ]
  repeat (first|refine ip0 ?_|refine jn0 ?_|refine el ?_|refine er ?_)
  rfl
 | succ d ih =>
  intro i v hd hi hv
  have hlt:i<l.length:=by omega
  have ed:l.drop i=l[i]::l.drop (i+1):=List.drop_eq_getElem_cons hlt
  rw[ed,aNL]
  obtain⟨q1,q2⟩:=ih (i+1) (aL .i64 v 1) (by omega) (by omega) sd
  by_cases hk:l[i].1=k
  rotate_left
  · have e:eU l t k w v=eU l t k w (aL .i64 v 1):=by
     rw[kJ]
     repeat (first|refine ip0 ?_|refine jn0 ?_|refine(bnd (cU hv hlt)).trans ?_|refine el ?_|refine er ?_)
     rfl
    rw[e]
    exact⟨fun h=>q1 fun hh=>h (.inr hh),fun h=>q2 (h.resolve_left fun hh=>hk hh.1)⟩
  by_cases ht:l[i].2.1=t
  · have e:eU l t k w v=eU l t k w (aL .i64 v 1):=by
     rw[kJ]
     repeat (first|refine ip0 ?_|refine jn0 ?_|refine(bnd (cU hv hlt)).trans ?_|refine el ?_|refine er ?_)
     rfl
    rw[e]
    exact⟨fun h=>q1 fun hh=>h (.inr hh),fun h=>q2 (h.resolve_left fun hh=>hh.2.1 ht)⟩
  cases w with
  | true =>
   refine⟨fun h=>absurd (.inl ⟨hk,ht,.inl rfl⟩) h,fun _=>?_⟩
   rw[kJ]
   repeat (first|refine ip0 ?_|refine jn0 ?_|refine(bnd (cU hv hlt)).trans ?_|refine el ?_|refine er ?_)
   rfl
  | false =>
   cases hb:l[i].2.2
   · have e:eU l t k false v=eU l t k false (aL .i64 v 1):=by
      rw[kJ]
      repeat (first|refine ip (by first|with_reducible rfl | assumption | (simp (disch:=omega) only[ws,wl,wb,hb]<;>omega)|omega) ?_|refine jn (by first|with_reducible rfl | assumption | (simp (disch:=omega) only[ws,wl,wb,hb]<;>omega)|omega) ?_|refine(bnd (cU hv hlt)).trans ?_|refine el ?_|refine er ?_)
      rfl
     rw[e]
     exact⟨fun h=>q1 fun hh=>h (.inr hh),fun h=>q2 (h.resolve_left fun hh=>by simp at hh)⟩
   · refine⟨fun h=>absurd (.inl ⟨hk,ht,.inr rfl⟩) h,fun _=>?_⟩
     rw[kJ]
     repeat (first|refine ip (by first|with_reducible rfl | assumption | (simp (disch:=omega) only[ws,wl,wb,hb]<;>omega)|omega) ?_|refine jn (by first|with_reducible rfl | assumption | (simp (disch:=omega) only[ws,wl,wb,hb]<;>omega)|omega) ?_|refine(bnd (cU hv hlt)).trans ?_|refine el ?_|refine er ?_)
     rfl
theorem aNB {l:List Ho} (h:Lk l):∀i j (hi:i<l.length) (hj:j<l.length),i≤j→cd l[i]≤cd l[j]:=by
 intro i j hi hj hij
 by_cases e:i=j
 · subst e;omega
 · have:=List.pairwise_iff_getElem.1 h.1 i j hi hj (by omega)
   omega
theorem bs_l0 {l:List Ho} {x:Ho} (h:Lk l) (hx:May x) (hl:l.length≤100000):∀(d a b:Nat) (v w:Int),b - a≤d→a≤b→b≤l.length→v=(a:Int)→w=(b:Int) →
 (∀j (hj:j<l.length),j<a→cd l[j]<cd x)→(∀j (hj:j<l.length),b≤j→cd x≤cd l[j]) →
 ∃i:Nat,i≤l.length∧fE l x.1 x.2.1 x.2.2 v w=some (i:Int)∧(∀j (hj:j<l.length),j<i→cd l[j]<cd x)∧(∀j (hj:j<l.length),i≤j→cd x≤cd l[j]):=by
 have hs:=aNB h
 intro d
 induction d with
 | zero =>
  intro a b v w hd hab hb hv hw h1 h2
  obtain rfl:a=b:=by omega
  refine⟨a,by omega,?_,h1,h2⟩
  rw[hO]
  repeat (first|refine ip0 ?_|refine jn0 ?_|refine el ?_|refine er ?_)
  rw[hv]
 | succ d ih =>
  intro a b v w hd hab hb hv hw h1 h2
  by_cases hlt:a<b
  rotate_left
  · obtain rfl:a=b:=by omega
    refine⟨a,by omega,?_,h1,h2⟩
    rw[hO]
    repeat (first|refine ip0 ?_|refine jn0 ?_|refine el ?_|refine er ?_)
    rw[hv]
  subst hv hw
  have hm:=mid64 (a:=a) (b:=b) (by omega)
  obtain⟨m,hme⟩:∃m,m=(a+b) / 2:=⟨_,rfl⟩
  rw[← hme] at hm
  have hml:m<l.length:=by omega
  obtain⟨o,o1,o2,_⟩:=aLI l[m] x
  have hc:o<0↔cd l[m]<cd x:=o2.trans (aSF (h.2.1 _ (List.getElem_mem hml)) hx).symm
  by_cases hk:cd l[m]<cd x
  · obtain⟨i,i1,i2,i3,i4⟩:=ih (m+1) b (aL .i64 (m:Int) 1) b (by omega) (by omega) hb sd rfl (fun j hj hjm=>by have:=hs j m hj hml (by omega);omega) h2
    refine⟨i,i1,?_,i3,i4⟩
    have hc2:=hc.2 hk
    rw[hO]
    simp only[hm]
    repeat (first|refine ip0 ?_|refine jn0 ?_|refine(bnd (cU (l:=l) (i:=m) rfl hml)).trans ?_|refine(bnd o1).trans ?_|refine el ?_|refine er ?_)
    exact i2
  · obtain⟨i,i1,i2,i3,i4⟩:=ih a m a m (by omega) (by omega) (by omega) rfl rfl h1 (fun j hj hjm=>by have:=hs m j hml hj hjm;omega)
    refine⟨i,i1,?_,i3,i4⟩
    have hc2:¬o<0:=fun h=>hk (hc.1 h)
    rw[hO]
    simp only[hm]
    repeat (first|refine ip0 ?_|refine jn0 ?_|refine(bnd (cU (l:=l) (i:=m) rfl hml)).trans ?_|refine(bnd o1).trans ?_|refine el ?_|refine er ?_)
    exact i2
theorem aQ4 {l:List Ho} (h:Lk l) (hl:l.length≤100000) {k t:Int} {w:Bool} (hx:May (k,t,w)) :
 (∃A b R,l=A++(k,t,b)::R∧d8 l k t w=some ((A.length:Int),true)) ∨
 (∃A R,l=A++R∧(∀d∈A,cd d<cd (k,t,w))∧(∀d∈R,cd (k,t,w)<cd d)∧d8 l k t w=some ((A.length:Int),false)):=by
 obtain⟨i,i1,i2,i3,i4⟩:=bs_l0 (x:=(k,t,w)) h hx hl l.length 0 l.length 0 (nI l.length) (by omega) (by omega) (by omega) rfl rfl (fun j hj h=>by omega) (fun j hj h=>by omega)
 have e0:l=l.take i++l.drop i:=(List.take_append_drop i l).symm
 have elen:(l.take i).length=i:=by simp;omega
 have hA:∀d∈l.take i,cd d<cd (k,t,w):=fun d hd=>by
  obtain⟨j,hj⟩:=List.mem_iff_getElem?.1 hd
  rw[List.getElem?_take] at hj
  split at hj
  · obtain⟨hj1,rfl⟩:=List.getElem?_eq_some_iff.1 hj
    exact i3 j hj1 (by assumption)
  · cases hj
 by_cases hi:i<l.length
 rotate_left
 · right
   refine⟨l.take i,l.drop i,e0,hA,fun d hd=>?_,?_⟩
   · rw[List.drop_of_length_le (by omega)] at hd;cases hd
   · rw[d8,elen]
     repeat (first|refine ip0 ?_|refine jn0 ?_|refine(bnd i2).trans ?_|refine el ?_|refine er ?_)
     rfl
 have ed:l.drop i=l[i]::l.drop (i+1):=List.drop_eq_getElem_cons hi
 obtain⟨o,o1,_,o2⟩:=aLI l[i] (k,t,w)
 have hb:d8 l k t w=some ((i:Int),eqI o 0):=by
  rw[d8]
  repeat (first|refine ip0 ?_|refine jn0 ?_|refine(bnd i2).trans ?_|refine(bnd (cU (l:=l) (i:=i) rfl hi)).trans ?_|refine(bnd o1).trans ?_|refine el ?_|refine er ?_)
  rfl
 by_cases hk:l[i].1=k∧l[i].2.1=t
 · left
   refine⟨l.take i,l[i].2.2,l.drop (i+1),?_,?_⟩
   · rw[← hk.1,← hk.2]
     show l=l.take i++l[i]::l.drop (i+1)
     rw[← ed];exact e0
   · have:eqI o 0=true:=cA.2 (o2.2 hk)
     rw[elen,← this]
     exact hb
 · right
   refine⟨l.take i,l.drop i,e0,hA,fun d hd=>?_,?_⟩
   · obtain⟨j,hj⟩:=List.mem_iff_getElem?.1 hd
     rw[List.getElem?_drop] at hj
     obtain⟨hj1,rfl⟩:=List.getElem?_eq_some_iff.1 hj
     have h1:=i4 i hi (Nat.le_refl _)
     have h2:=aNB h i (i+j) hi hj1 (by omega)
     have h3:cd l[i]≠cd (k,t,w):=fun hh=>hk ((cd_eq (h.2.1 _ (List.getElem_mem hi)) hx).1 hh)
     omega
   · have:eqI o 0=false:=by rw[← Bool.not_eq_true];exact fun h=>hk (o2.1 (cA.1 h))
     rw[elen,← this]
     exact hb
theorem aQY {A R:List Ho} {x:Ho} (hl:A.length+R.length≤1000000):aJM 24 (A.length:Int) (A++R) [x]=some (A++x::R):=by
 unfold aJM
 rw[if_pos ⟨rfl,by omega,by simp;omega,by simp;omega⟩]
 simp
theorem aVX {l:List Ho} {k t:Int} {hw:Bool} (hl:l.length≤100000):∀(d i:Nat) (v:Int) (o:List Ho),l.length - i=d→i≤l.length→v=(i:Int)→o.length≤i+1→(∀j (hj:j<l.length),i≤j→¬(l[j].1=k∧l[j].2.1=t))→bP l t k true v o hw=some (true,hw,o++l.drop i):=by
 intro d
 induction d with
 | zero =>
  intro i v o hd hi hv ho hn
  rw[kG]
  repeat (first|refine ip0 ?_|refine jn0 ?_|refine el ?_|refine er ?_)
  rw[List.drop_of_length_le (by omega),List.append_nil]
 | succ d ih =>
  intro i v o hd hi hv ho hn
  have hlt:i<l.length:=by omega
  have ed:l.drop i=l[i]::l.drop (i+1):=List.drop_eq_getElem_cons hlt
  have hni:=hn i hlt (Nat.le_refl _)
  have hr:=ih (i+1) (aL .i64 v 1) (o++[l[i]]) (by omega) (by omega) sd (by simp;omega) (fun j hj h=>hn j hj (by omega))
  have e:o++l.drop i=o++[l[i]]++l.drop (i+1):=by rw[ed];simp
  rw[kG,e]
  by_cases hk:l[i].1=k
  · have ht:l[i].2.1≠t:=fun h=>hni ⟨hk,h⟩
    repeat (first|refine ip0 ?_|refine jn0 ?_|refine(bnd (cU hv hlt)).trans ?_|refine el ?_|refine er ?_)
    exact hr
  · repeat (first|refine ip0 ?_|refine jn0 ?_|refine(bnd (cU hv hlt)).trans ?_|refine el ?_|refine er ?_)
    exact hr
theorem aWX {A S:List Ho} {k t:Int} {hw:Bool} (hl:(A++S).length≤100000) (hA:∀x∈A,x.1<k∨(x.1=k∧x.2.1<t)):∀(d i:Nat) (v:Int) (o:List Ho),A.length - i=d→i≤A.length→v=(i:Int)→o=A.take i→bP (A++S) t k false v o hw=bP (A++S) t k false (A.length:Int) A hw:=by
 intro d
 induction d with
 | zero =>
  intro i v o hd hi hv ho
  have:i=A.length:=by omega
  subst this
  rw[ho,hv,List.take_length]
 | succ d ih =>
  intro i v o hd hi hv ho
  have hlt:i<A.length:=by omega
  have hlt2:i<(A++S).length:=by simp;omega
  have g:(A++S)[tN v]? = some A[i]:=by rw[hv,qQ,List.getElem?_append_left hlt,List.getElem?_eq_getElem hlt]
  have hol:o.length=i:=by rw[ho];simp;omega
  have hi2:=hA A[i] (List.getElem_mem hlt)
  have hal:A.length+S.length≤100000:=by simpa using hl
  have hr:=ih (i+1) (aL .i64 v 1) (o++[A[i]]) (by omega) (by omega) sd (by rw[ho,List.take_add_one,List.getElem?_eq_getElem hlt];rfl)
  rw[← hr,kG]
  by_cases hk:A[i].1=k
  · repeat (first|refine ip (by first|with_reducible rfl | assumption | (simp (disch:=omega) only[ws,wl,wb,hol]<;>omega)|omega) ?_|refine jn (by first|with_reducible rfl | assumption | (simp (disch:=omega) only[ws,wl,wb,hol]<;>omega)|omega) ?_|refine(bnd g).trans ?_|refine el ?_|refine er ?_)
    rfl
  · repeat (first|refine ip (by first|with_reducible rfl | assumption | (simp (disch:=omega) only[ws,wl,wb,hol]<;>omega)|omega) ?_|refine jn (by first|with_reducible rfl | assumption | (simp (disch:=omega) only[ws,wl,wb,hol]<;>omega)|omega) ?_|refine(bnd g).trans ?_|refine el ?_|refine er ?_)
    rfl
theorem row_all {l:List Ho} (hl:l.length≤10000) {k t:Int} {hw:Bool} {A R:List Ho} (hA:∀x∈A,x.1<k∨(x.1=k∧x.2.1<t)) (hR:∀x∈R,k<x.1∨(x.1=k∧t<x.2.1)) (h:l=A++R∨∃b,l=A++(k,t,b)::R) :
 (bP l t k false 0 [] hw=some (true,hw,A++(k,t,hw)::R))∨(bP l t k false 0 [] hw=some (false,hw,A)∧R=[]∧l=A):=by
 rcases h with rfl | ⟨b,rfl⟩
 · have hal:A.length+R.length≤10000:=by simpa using hl
   rw[aWX (by simp;omega) hA _ 0 0 [] rfl (by omega) rfl rfl]
   match R,hR with
   | [],_ =>
    right
    refine⟨?_,rfl,by simp⟩
    rw[kG]
    repeat (first|refine ip0 ?_|refine jn0 ?_|refine el ?_|refine er ?_)
    rfl
   | e::R,hR =>
    left
    have hal2:A.length+(R.length+1)≤10000:=by simpa using hl
    have he:=hR e (by simp)
    have g:(A++e::R)[tN (A.length:Int)]? = some e:=by rw[qQ];exact vV A R e
    have hr:=aVX (l:=A++e::R) (k:=k) (t:=t) (hw:=hw) (by simp;omega) _ (A.length+1) (aL .i64 (A.length:Int) 1) (A++[(k,t,hw)]++[e]) rfl (by simp) (by rw[aD7 (by omega)];omega) (by simp) (fun j hj hja hh=>by
     have hm:(A++e::R)[j]∈R:=by
      rw[List.getElem_append_right (by omega)]
      obtain⟨q,hq⟩:∃q,j - A.length=q+1:=⟨j - A.length - 1,by omega⟩
      simp only[hq,List.getElem_cons_succ]
      exact List.getElem_mem _
     have:=hR _ (List.mem_cons_of_mem _ hm)
     omega)
    have ed:(A++e::R).drop (A.length+1)=R:=by simp
    have e1:A++[(k,t,hw)]++[e]++(A++e::R).drop (A.length+1)=A++(k,t,hw)::e::R:=by rw[ed];simp
    rw[e1] at hr
    rw[kG]
    by_cases hk:k<e.1
    · repeat (first|refine ip0 ?_|refine jn0 ?_|refine(bnd g).trans ?_|refine el ?_|refine er ?_)
      exact hr
    · have hk2:k=e.1:=by omega
      repeat (first|refine ip0 ?_|refine jn0 ?_|refine(bnd g).trans ?_|refine el ?_|refine er ?_)
      exact hr
 · left
   have hal:A.length+(R.length+1)≤10000:=by simpa using hl
   rw[aWX (by simp;omega) hA _ 0 0 [] rfl (by omega) rfl rfl]
   have g:(A++(k,t,b)::R)[tN (A.length:Int)]? = some (k,t,b):=by rw[qQ];exact vV A R _
   have hr:=aVX (l:=A++(k,t,b)::R) (k:=k) (t:=t) (hw:=hw) (by simp;omega) _ (A.length+1) (aL .i64 (A.length:Int) 1) (A++[(k,t,hw)]) rfl (by simp) (by rw[aD7 (by omega)];omega) (by simp) (fun j hj hja hh=>by
    have hm:(A++(k,t,b)::R)[j]∈R:=by
     rw[List.getElem_append_right (by omega)]
     obtain⟨q,hq⟩:∃q,j - A.length=q+1:=⟨j - A.length - 1,by omega⟩
     simp only[hq,List.getElem_cons_succ]
     exact List.getElem_mem _
    have:=hR _ hm
    omega)
   have ed:(A++(k,t,b)::R).drop (A.length+1)=R:=by simp
   have e1:A++[(k,t,hw)]++(A++(k,t,b)::R).drop (A.length+1)=A++(k,t,hw)::R:=by rw[ed];simp
   rw[e1] at hr
   rw[kG]
   repeat (first|refine ip0 ?_|refine jn0 ?_|refine(bnd g).trans ?_|refine el ?_|refine er ?_)
   exact hr
def Got (l:List Ho) (k t:Int) (w:Bool) (l':List Ho):Prop :=
 (∃A b R,l=A++(k,t,b)::R∧l'=A++(k,t,b || w)::R)∨(∃A R,l=A++R∧(∀d∈A,cd d<cd (k,t,w))∧(∀d∈R,cd (k,t,w)<cd d)∧l'=A++(k,t,w)::R)
theorem take_f {l:List Ho} {k t:Int} {w:Bool} (hw:WfH l) (hl:l.length≤10000) (h:¬(Lk l∧aHM (k,t,w))):jD l t k w=some (l,2)∧iH l t k w=some (l,2):=by
 by_cases hr:Lk l
 · have hm:¬aHM (k,t,w):=fun hm=>h ⟨hr,hm⟩
   have m1:¬jR t k=true:=fun hh=>hm ((zY t k).1.1 hh)
   have m2:¬iJ t k=true:=fun hh=>hm ((zY t k).2.1 hh)
   constructor
   · rw[jD]
     repeat (first|refine ip (by first|with_reducible rfl | assumption | (simp (disch:=omega) only[ws,wl,wb,m1]<;>omega)|omega) ?_|refine jn (by first|with_reducible rfl | assumption | (simp (disch:=omega) only[ws,wl,wb,m1]<;>omega)|omega) ?_|refine(bnd (mJ l (by omega))).trans ?_|refine(bnd (aEC hr (by omega))).trans ?_|refine el ?_|refine er ?_)
     rfl
   · rw[iH]
     repeat (first|refine ip (by first|with_reducible rfl | assumption | (simp (disch:=omega) only[ws,wl,wb,m2]<;>omega)|omega) ?_|refine jn (by first|with_reducible rfl | assumption | (simp (disch:=omega) only[ws,wl,wb,m2]<;>omega)|omega) ?_|refine(bnd (aA9 hr (by omega))).trans ?_|refine el ?_|refine er ?_)
     rfl
 · constructor
   · rw[jD]
     repeat (first|refine ip0 ?_|refine jn0 ?_|refine(bnd (mJ l (by omega))).trans ?_|refine(bnd (pright_f hw (by omega) hr)).trans ?_|refine el ?_|refine er ?_)
     rfl
   · rw[iH]
     repeat (first|refine ip0 ?_|refine jn0 ?_|refine(bnd (rright_f hw (by omega) hr)).trans ?_|refine el ?_|refine er ?_)
     rfl
theorem aQJ {l:List Ho} {k t:Int} {w:Bool} (hr:Lk l) (hl:l.length≤10000) (hm:aHM (k,t,w)) (hc:aCM l k t w):jD l t k w=some (l,9)∧iH l t k w=some (l,9):=by
 have m1:jR t k=true:=(zY t k).1.2 hm
 have m2:iJ t k=true:=(zY t k).2.2 hm
 have c1:=(aSI (l:=l) (k:=k) (t:=t) (w:=w) (by omega) _ 0 0 rfl (by omega) rfl).2 hc
 have c2:=(aQ7 (l:=l) (k:=k) (t:=t) (w:=w) (by omega) _ 0 0 rfl (by omega) rfl).2 hc
 constructor
 · rw[jD]
   repeat (first|refine ip (by first|with_reducible rfl | assumption | (simp (disch:=omega) only[ws,wl,wb,m1]<;>omega)|omega) ?_|refine jn (by first|with_reducible rfl | assumption | (simp (disch:=omega) only[ws,wl,wb,m1]<;>omega)|omega) ?_|refine(bnd (mJ l (by omega))).trans ?_|refine(bnd (aEC hr (by omega))).trans ?_|refine(bnd c1).trans ?_|refine el ?_|refine er ?_)
   rfl
 · rw[iH]
   repeat (first|refine ip (by first|with_reducible rfl | assumption | (simp (disch:=omega) only[ws,wl,wb,m2]<;>omega)|omega) ?_|refine jn (by first|with_reducible rfl | assumption | (simp (disch:=omega) only[ws,wl,wb,m2]<;>omega)|omega) ?_|refine(bnd (aA9 hr (by omega))).trans ?_|refine(bnd c2).trans ?_|refine el ?_|refine er ?_)
   rfl
theorem take_t {l:List Ho} {k t:Int} {w:Bool} (hr:Lk l) (hl:l.length≤10000) (hk:0≤k) (hm:aHM (k,t,w)) (hc:¬aCM l k t w):∃l',jD l t k w=some (l',0)∧iH l t k w=some (l',0)∧Got l k t w l':=by
 have m1:jR t k=true:=(zY t k).1.2 hm
 have m2:iJ t k=true:=(zY t k).2.2 hm
 have c1:=(aSI (l:=l) (k:=k) (t:=t) (w:=w) (by omega) _ 0 0 rfl (by omega) rfl).1 hc
 have c2:=(aQ7 (l:=l) (k:=k) (t:=t) (w:=w) (by omega) _ 0 0 rfl (by omega) rfl).1 hc
 have hM:May (k,t,w):=(aL4 hk).1 hm
 have tolex:∀{x y:Ho},May x→May y→cd x<cd y→x.1<y.1∨(x.1=y.1∧x.2.1<y.2.1):=fun hx hy h=>(aSF hx hy).1 h
 have href:∀(A R:List Ho) (hw:Bool),(∀x∈A,x.1<k∨(x.1=k∧x.2.1<t))→(∀x∈R,k<x.1∨(x.1=k∧t<x.2.1))→(l=A++R∨∃b,l=A++(k,t,b)::R)→hw=(if w then true else eqI (qO l t k) 2)→iH l t k w=some (A++(k,t,hw)::R,0):=by
  intro A R hw hA hR h hh
  have hq:=aXF (l:=l) (by omega) t k
  rcases row_all hl (hw:=hw) hA hR h with p | ⟨p,rfl,rfl⟩
  · rw[iH]
    cases w with
    | true =>
     rw[if_pos rfl] at hh
     rw[hh] at p ⊢
     repeat (first|refine ip (by first|with_reducible rfl | assumption | (simp (disch:=omega) only[ws,wl,wb,m2]<;>omega)|omega) ?_|refine jn (by first|with_reducible rfl | assumption | (simp (disch:=omega) only[ws,wl,wb,m2]<;>omega)|omega) ?_|refine(bnd (aA9 hr (by omega))).trans ?_|refine(bnd c2).trans ?_|refine(bnd p).trans ?_|refine el ?_|refine er ?_)
     rfl
    | false =>
     rw[if_neg (by simp)] at hh
     rw[hh] at p ⊢
     repeat (first|refine ip (by first|with_reducible rfl | assumption | (simp (disch:=omega) only[ws,wl,wb,m2]<;>omega)|omega) ?_|refine jn (by first|with_reducible rfl | assumption | (simp (disch:=omega) only[ws,wl,wb,m2]<;>omega)|omega) ?_|refine(bnd (aA9 hr (by omega))).trans ?_|refine(bnd c2).trans ?_|refine(bnd hq).trans ?_|refine(bnd p).trans ?_|refine el ?_|refine er ?_)
     rfl
  · rw[iH]
    cases w with
    | true =>
     rw[if_pos rfl] at hh
     rw[hh] at p ⊢
     repeat (first|refine ip (by first|with_reducible rfl | assumption | (simp (disch:=omega) only[ws,wl,wb,m2]<;>omega)|omega) ?_|refine jn (by first|with_reducible rfl | assumption | (simp (disch:=omega) only[ws,wl,wb,m2]<;>omega)|omega) ?_|refine(bnd (aA9 hr (by omega))).trans ?_|refine(bnd c2).trans ?_|refine(bnd p).trans ?_|refine el ?_|refine er ?_)
     rfl
    | false =>
     rw[if_neg (by simp)] at hh
     rw[hh] at p ⊢
     repeat (first|refine ip (by first|with_reducible rfl | assumption | (simp (disch:=omega) only[ws,wl,wb,m2]<;>omega)|omega) ?_|refine jn (by first|with_reducible rfl | assumption | (simp (disch:=omega) only[ws,wl,wb,m2]<;>omega)|omega) ?_|refine(bnd (aA9 hr (by omega))).trans ?_|refine(bnd c2).trans ?_|refine(bnd hq).trans ?_|refine(bnd p).trans ?_|refine el ?_|refine er ?_)
     rfl
 rcases aQ4 hr (by omega) hM with⟨A,b,R,rfl,hf⟩ | ⟨A,R,rfl,hA,hR,hf⟩
 · obtain⟨l1,l2,l3,l4⟩:=aVA hr
   have hal:A.length+(R.length+1)≤10000:=by simpa using hl
   have hMb:May (k,t,b):=hM
   have hho:qO (A++(k,t,b)::R) t k=if b then 2 else 1:=hold_mid l2 hMb (fun x hx=>hr.2.1 x (by simp [hx]))
   refine⟨A++(k,t,b || w)::R,?_,?_,.inl ⟨A,b,R,rfl,rfl⟩⟩
   · have g1:(A++(k,t,b)::R)[tN (A.length:Int)]? = some (k,t,b):=by rw[qQ];exact vV A R _
     have g2:∀y:Ho,List.set (A++(k,t,b)::R) (tN (A.length:Int)) y=A++y::R:=fun y=>by rw[qQ];exact aKE A R _ y
     rw[jD]
     cases b with
     | true =>
      repeat (first|refine ip (by first|with_reducible rfl | assumption | (simp (disch:=omega) only[ws,wl,wb,m1]<;>omega)|omega) ?_|refine jn (by first|with_reducible rfl | assumption | (simp (disch:=omega) only[ws,wl,wb,m1]<;>omega)|omega) ?_|refine(bnd (mJ _ (by simp;omega))).trans ?_|refine(bnd (aEC hr (by omega))).trans ?_|refine(bnd c1).trans ?_|refine(bnd hf).trans ?_|refine(bnd g1).trans ?_|refine el ?_|refine er ?_)
      rw[g2];rfl
     | false =>
      repeat (first|refine ip (by first|with_reducible rfl | assumption | (simp (disch:=omega) only[ws,wl,wb,m1]<;>omega)|omega) ?_|refine jn (by first|with_reducible rfl | assumption | (simp (disch:=omega) only[ws,wl,wb,m1]<;>omega)|omega) ?_|refine(bnd (mJ _ (by simp;omega))).trans ?_|refine(bnd (aEC hr (by omega))).trans ?_|refine(bnd c1).trans ?_|refine(bnd hf).trans ?_|refine(bnd g1).trans ?_|refine el ?_|refine er ?_)
      rw[g2];rfl
   · refine href A R (b || w) (fun x hx=>?_) (fun x hx=>?_) (.inr ⟨b,rfl⟩) ?_
     · exact tolex (hr.2.1 x (by simp [hx])) hMb (l2 x hx)
     · have:=tolex hMb (hr.2.1 x (by simp [hx])) (l3 x hx)
       simp only at this
       omega
     · rw[hho]
       cases b<;>cases w<;>rfl
 · have hal:A.length+R.length≤10000:=by simpa using hl
   have hho:qO (A++R) t k=0:=aXO fun x hx hh=>by
    have hmx:=hr.2.1 x hx
    have he:=(cd_eq hmx hM).2 hh
    rcases List.mem_append.1 hx with hx | hx
    · have:=hA x hx;omega
    · have:=hR x hx;omega
   refine⟨A++(k,t,w)::R,?_,?_,.inr ⟨A,R,rfl,hA,hR,rfl⟩⟩
   · have hi:pV (A.length:Int) (A++R) [(k,t,w)]=some (A++(k,t,w)::R):=by
      rw[pV];exact aQY (by omega)
     rw[jD]
     repeat (first|refine ip (by first|with_reducible rfl | assumption | (simp (disch:=omega) only[ws,wl,wb,m1]<;>omega)|omega) ?_|refine jn (by first|with_reducible rfl | assumption | (simp (disch:=omega) only[ws,wl,wb,m1]<;>omega)|omega) ?_|refine(bnd (mJ _ (by simp;omega))).trans ?_|refine(bnd (aEC hr (by omega))).trans ?_|refine(bnd c1).trans ?_|refine(bnd hf).trans ?_|refine(bnd hi).trans ?_|refine el ?_|refine er ?_)
     rfl
   · refine href A R w (fun x hx=>?_) (fun x hx=>?_) (.inl rfl) ?_
     · exact tolex (hr.2.1 x (by simp [hx])) hM (hA x hx)
     · have:=tolex hM (hr.2.1 x (by simp [hx])) (hR x hx)
       simp only at this
       omega
     · rw[hho]
       cases w<;>rfl
theorem Got.lk {l l':List Ho} {k t:Int} {w:Bool} (h:Got l k t w l') (hr:Lk l) (hm:May (k,t,w)) (hc:¬aCM l k t w):Lk l'∧l'.length≤l.length+1∧lO l' t=lO l t∧∃b',(k,t,b')∈l'∧(w=true→b'=true):=by
 rcases h with⟨A,b,R,rfl,rfl⟩ | ⟨A,R,rfl,hA,hR,rfl⟩
 · obtain⟨l1,l2,l3,l4⟩:=aVA hr
   refine⟨lk_new l1 (w:=b || w) hm l2 l3 fun x hx hk ht=>?_,by simp,by simp [lO],_,List.mem_append.2 (.inr (List.mem_cons_self ..)),fun h=>by simp [h]⟩
   obtain⟨f1,f2⟩:=l4 x hx hk ht
   simp only at f1
   refine⟨?_,f2⟩
   rw[f1,Bool.false_or]
   cases hw:w
   · rfl
   · exact absurd ⟨x,by rcases List.mem_append.1 hx with h | h<;>simp [h],hk,ht,.inl hw⟩ hc
 · refine⟨lk_new hr hm hA hR fun x hx hk ht=>?_,by simp;omega,by simp [lO],_,List.mem_append.2 (.inr (List.mem_cons_self ..)),fun h=>h⟩
   cases hw:w
   · cases hx2:x.2.2
     · exact⟨rfl,rfl⟩
     · exact absurd ⟨x,hx,hk,ht,.inr hx2⟩ hc
   · exact absurd ⟨x,hx,hk,ht,.inl hw⟩ hc
end Go.Ws.L7
