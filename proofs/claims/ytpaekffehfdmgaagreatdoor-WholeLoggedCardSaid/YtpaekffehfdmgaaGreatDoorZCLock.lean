/-
  Locks, plain: what the functions make of them.
  Conditions: none.
-/
import Derived.Test.YtpaekffehfdmgaaGreatDoorZPlain
import Derived.Test.YtpaekffehfdmgaaGreatDoorZCLockT
import Derived.KernelRfl
set_option linter.unusedVariables false
set_option linter.unusedSimpArgs false
namespace Go.Ws.L7
open Go.Ws
set_option linter.unusedVariables false
set_option linter.unusedSimpArgs false
set_option maxHeartbeats 1000000

theorem gN (l:List Ho) (h:l.length≤1000000):jH l=some ():=by
 rw[jH,j1]
 repeat (first|refine ip0 ?_|refine jn0 ?_)
 rfl
theorem cmp_val (a k:Int):bC a k=if a<k then -1 else if k<a then 1 else 0:=by
 have hn:∀x:Int,iS x=false:=fun x=>by unfold iS;rw[aKW];rfl
 unfold bC
 rw[hn,hn]
 simp only[Bool.false_eq_true,if_false,qI]
theorem cmp_val2 (a k:Int):dC a k=if a<k then -1 else if k<a then 1 else 0:=by
 have hn:∀x:Int,eW x=false:=fun x=>by unfold eW;rw[aKW];rfl
 unfold dC
 rw[hn,hn]
 simp only[Bool.false_eq_true,if_false,qI]
theorem or_ok (x y:Int):aBV [x,y]=some (if x=0 then y else x):=by
 have g0:([x,y]:List Int)[tN 0]? = some x:=rfl
 have g1:([x,y]:List Int)[tN (aH .i64 0 1)]? = some y:=rfl
 rw[aBV]
 by_cases hx:x=0
 · rw[if_pos hx]
   by_cases hy:y=0
   · have:oP [x,y] 0=some (.inl ()):=by
      rw[lU]
      repeat (first|refine ip0 ?_|refine jn0 ?_|refine(bnd g0).trans ?_|refine el ?_|refine er ?_)
      rw[lU]
      repeat (first|refine ip0 ?_|refine jn0 ?_|refine(bnd g1).trans ?_|refine el ?_|refine er ?_)
      rw[lU]
      repeat (first|refine ip0 ?_|refine jn0 ?_|refine el ?_|refine er ?_)
      rfl
     repeat (first|refine ip0 ?_|refine jn0 ?_|refine(bnd this).trans ?_|refine el ?_|refine er ?_)
     rw[hy]
   · have:oP [x,y] 0=some (.inr y):=by
      rw[lU]
      repeat (first|refine ip0 ?_|refine jn0 ?_|refine(bnd g0).trans ?_|refine el ?_|refine er ?_)
      rw[lU]
      repeat (first|refine ip0 ?_|refine jn0 ?_|refine(bnd g1).trans ?_|refine el ?_|refine er ?_)
      rfl
     repeat (first|refine ip0 ?_|refine jn0 ?_|refine(bnd this).trans ?_|refine el ?_|refine er ?_)
     rfl
 · rw[if_neg hx]
   have:oP [x,y] 0=some (.inr x):=by
    rw[lU]
    repeat (first|refine ip0 ?_|refine jn0 ?_|refine(bnd g0).trans ?_|refine el ?_|refine er ?_)
    rfl
   repeat (first|refine ip0 ?_|refine jn0 ?_|refine(bnd this).trans ?_|refine el ?_|refine er ?_)
   rfl
def lexP (a b:Ho):Prop:=a.1<b.1∨(a.1=b.1∧a.2.1<b.2.1)
theorem aKJ (a b:Ho):∃o,mK a.1 a.2.1 a.2.2 b.1 b.2.1 b.2.2=some o∧(o<0↔lexP a b)∧(o=0↔a.1=b.1∧a.2.1=b.2.1):=by
 have h:=or_ok (bC a.1 b.1) (dC a.2.1 b.2.1)
 refine⟨if bC a.1 b.1=0 then dC a.2.1 b.2.1 else bC a.1 b.1,?_,?_⟩
 · rw[mK]
   repeat (first|refine ip0 ?_|refine jn0 ?_|refine(bnd h).trans ?_)
   rfl
 · rw[cmp_val,cmp_val2]
   unfold lexP
   constructor<;>(repeat' split)<;>omega
def aKE (h:Ho):Prop:=h.1<64∧0≤h.2.1∧h.2.1<1000
theorem aIS (t k:Int):(iP t k=true↔k<64∧0≤t∧t<1000)∧True:=by
 refine⟨?_,trivial⟩
 unfold iP
 by_cases h1:k<64
 · rw[if_pos (qI.2 h1)]
   by_cases h2:t<0
   · rw[if_pos (qI.2 h2)];simp;omega
   · rw[if_neg (fun h=>h2 (qI.1 h)),qI];omega
 · rw[if_neg (fun h=>h1 (qI.1 h))];simp;omega
def okP (l:List Ho) (i:Nat):Prop:=∀h,l[i]? = some h→aKE h∧(0<i→∀e,l[i - 1]? = some e→lexP e h∧(e.1=h.1→e.2.2=false∧h.2.2=false))
def allF (p:Nat→Prop) (i:Nat):Prop:=∀j,i≤j→p j
theorem aU9 {p:Nat→Prop} {i:Nat}:allF p i↔p i∧allF p (i+1):=by
 constructor
 · exact fun h=>⟨h i (Nat.le_refl _),fun j hj=>h j (by omega)⟩
 · rintro⟨h1,h2⟩ j hj
   by_cases e:j=i
   · subst e;exact h1
   · exact h2 j (by omega)
theorem okP_end {l:List Ho} {i:Nat} (h:l.length≤i):allF (okP l) i:=fun j hj d hd=>by
 rw[List.getElem?_eq_none (by omega)] at hd;cases hd
theorem aS6 {l : List Ho} {i : Nat} (h : i < l.length) : okP l i ↔ aKE l[i] ∧ ∀ h0 : 0 < i, lexP (l[i - 1]'(by omega)) l[i] ∧ ((l[i - 1]'(by omega)).1 = l[i].1 → (l[i - 1]'(by omega)).2.2 = false ∧ l[i].2.2 = false) := by
 unfold okP
 constructor
 · intro hh
   obtain⟨h1,h2⟩:=hh _ (List.getElem?_eq_getElem h)
   exact⟨h1,fun h0=>h2 h0 _ (List.getElem?_eq_getElem _)⟩
 · rintro⟨h1,h2⟩ d hd
   rw[List.getElem?_eq_getElem h] at hd
   cases hd
   refine⟨h1,fun h0 e he=>?_⟩
   rw[List.getElem?_eq_getElem (show i - 1<l.length by omega)] at he
   cases he
   exact h2 h0
abbrev WfH (l:List Ho):Prop:=∀h∈l,0≤h.1
theorem Lk.wf {l:List Ho} (h:Lk l):WfH l:=fun x hx=>(h.2.1 x hx).1.1
theorem aJJ {h:Ho} (h0:0≤h.1):aKE h↔May h:=by unfold aKE May;omega
theorem aUG {l:List Ho} (hw:WfH l):Lk l↔allF (okP l) 0:=by
 constructor
 · rintro⟨h1,h2,h3⟩ j _ d hd
   obtain⟨hj,he⟩:=List.getElem?_eq_some_iff.1 hd
   have hm:=h2 d (List.mem_of_getElem? hd)
   refine⟨(aJJ hm.1.1).2 hm,fun h0 e he2=>?_⟩
   obtain⟨hj2,he3⟩:=List.getElem?_eq_some_iff.1 he2
   have hme:=h2 e (List.mem_of_getElem? he2)
   have:=List.pairwise_iff_getElem.1 h1 (j - 1) j hj2 hj (by omega)
   rw[he,he3] at this
   have hx:=(aQR hme hm).1 this
   refine⟨hx,fun hk=>?_⟩
   have ht:e.2.1≠d.2.1:=by rcases hx with hx | hx<;>omega
   exact⟨h3 e (List.mem_of_getElem? he2) d (List.mem_of_getElem? hd) hk ht,h3 d (List.mem_of_getElem? hd) e (List.mem_of_getElem? he2) hk.symm (Ne.symm ht)⟩
 · intro h
   have hm:∀x∈l,May x:=fun x hx=>by
    obtain⟨j,hj⟩:=List.mem_iff_getElem?.1 hx
    exact(aJJ (hw x hx)).1 (h j (Nat.zero_le _) x hj).1
   have adj:∀i (hi:i+1<l.length),lexP l[i] l[i+1]∧(l[i].1=l[i+1].1→l[i].2.2=false∧l[i+1].2.2=false):=fun i hi=>((aS6 hi).1 (h (i+1) (Nat.zero_le _))).2 (by omega)
   have step:∀i (hi:i+1<l.length),cd l[i]<cd l[i+1]:=fun i hi=>(aQR (hm _ (List.getElem_mem _)) (hm _ (List.getElem_mem _))).2 (adj i hi).1
   have hp:l.Pairwise (fun a b=>cd a<cd b):=by
    rw[List.pairwise_iff_getElem]
    intro i j hi hj hij
    obtain⟨k,rfl⟩:∃k,j=i+1+k:=⟨j - i - 1,by omega⟩
    induction k with
    | zero=>exact step i hj
    | succ k ih =>
     have:=ih (by omega) (by omega)
     have:=step (i+1+k) (by omega)
     have e:i+1+(k+1)=i+1+k+1:=by omega
     simp only[e]
     omega
   have key:∀i j (hi:i<l.length) (hj:j<l.length),i≤j→l[i].1≤l[j].1:=fun i j hi hj hij=>by
    by_cases e:i=j
    · subst e;omega
    · have:=(aQR (hm _ (List.getElem_mem hi)) (hm _ (List.getElem_mem hj))).1 (List.pairwise_iff_getElem.1 hp i j hi hj (by omega))
      omega
   refine⟨hp,hm,fun a ha b hb hk ht=>?_⟩
   obtain⟨i,hi,rfl⟩:=List.mem_iff_getElem.1 ha
   obtain⟨j,hj,rfl⟩:=List.mem_iff_getElem.1 hb
   rcases Nat.lt_trichotomy i j with hlt | rfl | hgt
   · have h1:=key i (i+1) hi (by omega) (by omega)
     have h2:=key (i+1) j (by omega) hj (by omega)
     exact((adj i (by omega)).2 (by omega)).1
   · exact absurd rfl ht
   · obtain⟨i',rfl⟩:∃i',i=i'+1:=⟨i - 1,by omega⟩
     have h1:=key i' (i'+1) (by omega) hi (by omega)
     have h2:=key j i' hj (by omega) (by omega)
     exact((adj i' hi).2 (by omega)).2
theorem aMJ {l:List Ho} (hl:l.length≤100000):∀(d i:Nat) (v:Int),l.length - i=d→i≤l.length→v=(i:Int)→(allF (okP l) i→dN l v=some (.inl ()))∧(¬allF (okP l) i→dN l v=some (.inr false)):=by
 intro d
 induction d with
 | zero =>
  intro i v hd hi hv
  refine⟨fun _=>?_,fun h=>absurd (okP_end (by omega)) h⟩
  rw[fV]
  repeat (first|refine ip0 ?_|refine jn0 ?_|refine el ?_|refine er ?_)
  rfl
 | succ d ih =>
  intro i v hd hi hv
  have hlt:i<l.length:=by omega
  obtain⟨q1,q2⟩:=ih (i+1) (aH .i64 v 1) (by omega) (by omega) sd
  rw[aU9,aS6 hlt]
  have hmi:=(aIS l[i].2.1 l[i].1).1
  by_cases h1:aKE l[i]
  rotate_left
  · have hm:¬iP l[i].2.1 l[i].1=true:=fun h=>h1 (hmi.1 h)
    refine⟨fun h=>absurd h.1.1 h1,fun _=>?_⟩
    rw[fV]
    repeat (first|refine ip (by first|with_reducible rfl | assumption | (simp (disch:=omega) only[ws,wl,wb,hm]<;>omega)|omega) ?_|refine jn (by first|with_reducible rfl | assumption | (simp (disch:=omega) only[ws,wl,wb,hm]<;>omega)|omega) ?_|refine(bnd (kG hv hlt)).trans ?_|refine el ?_|refine er ?_)
    rfl
  have hm:iP l[i].2.1 l[i].1=true:=hmi.2 h1
  by_cases h0:0<i
  rotate_left
  · have e:dN l v=dN l (aH .i64 v 1):=by
     rw[fV]
     repeat (first|refine ip (by first|with_reducible rfl | assumption | (simp (disch:=omega) only[ws,wl,wb,hm]<;>omega)|omega) ?_|refine jn (by first|with_reducible rfl | assumption | (simp (disch:=omega) only[ws,wl,wb,hm]<;>omega)|omega) ?_|refine(bnd (kG hv hlt)).trans ?_|refine el ?_|refine er ?_)
     rfl
    rw[e]
    exact⟨fun h=>q1 h.2,fun h=>q2 fun hh=>h ⟨⟨h1,fun h=>absurd h h0⟩,hh⟩⟩
  have g2:=kG (l:=l) (q:=vS .i64 v 1) (i:=i - 1) (by rw[aJO (by omega)];omega) (by omega)
  obtain ⟨o, o1, o2, _⟩ := aKJ (l[i - 1]'(by omega)) l[i]
  by_cases h2 : lexP (l[i - 1]'(by omega)) l[i]
  rotate_left
  · have ho:¬o<0:=fun h=>h2 (o2.1 h)
    refine⟨fun h=>absurd (h.1.2 h0).1 h2,fun _=>?_⟩
    rw[fV]
    repeat (first|refine ip (by first|with_reducible rfl | assumption | (simp (disch:=omega) only[ws,wl,wb,hm]<;>omega)|omega) ?_|refine jn (by first|with_reducible rfl | assumption | (simp (disch:=omega) only[ws,wl,wb,hm]<;>omega)|omega) ?_|refine(bnd (kG hv hlt)).trans ?_|refine(bnd g2).trans ?_|refine(bnd o1).trans ?_|refine el ?_|refine er ?_)
    rfl
  have ho:o<0:=o2.2 h2
  by_cases hk : (l[i - 1]'(by omega)).1 = l[i].1
  rotate_left
  · have e:dN l v=dN l (aH .i64 v 1):=by
     rw[fV]
     repeat (first|refine ip (by first|with_reducible rfl | assumption | (simp (disch:=omega) only[ws,wl,wb,hm]<;>omega)|omega) ?_|refine jn (by first|with_reducible rfl | assumption | (simp (disch:=omega) only[ws,wl,wb,hm]<;>omega)|omega) ?_|refine(bnd (kG hv hlt)).trans ?_|refine(bnd g2).trans ?_|refine(bnd o1).trans ?_|refine el ?_|refine er ?_)
     rfl
    rw[e]
    exact⟨fun h=>q1 h.2,fun h=>q2 fun hh=>h ⟨⟨h1,fun _=>⟨h2,fun h=>absurd h hk⟩⟩,hh⟩⟩
  cases hb1 : (l[i - 1]'(by omega)).2.2
  · cases hb2:l[i].2.2
    · have e:dN l v=dN l (aH .i64 v 1):=by
       rw[fV]
       repeat (first|refine ip (by first|with_reducible rfl | assumption | (simp (disch:=omega) only[ws,wl,wb,hm,hb1,hb2]<;>omega)|omega) ?_|refine jn (by first|with_reducible rfl | assumption | (simp (disch:=omega) only[ws,wl,wb,hm,hb1,hb2]<;>omega)|omega) ?_|refine(bnd (kG hv hlt)).trans ?_|refine(bnd g2).trans ?_|refine(bnd o1).trans ?_|refine el ?_|refine er ?_)
       rfl
      rw[e]
      exact⟨fun h=>q1 h.2,fun h=>q2 fun hh=>h ⟨⟨h1,fun _=>⟨h2,fun _=>⟨hb1,rfl⟩⟩⟩,hh⟩⟩
    · refine⟨fun h=>absurd ((h.1.2 h0).2 hk).2 (by simp),fun _=>?_⟩
      rw[fV]
      repeat (first|refine ip (by first|with_reducible rfl | assumption | (simp (disch:=omega) only[ws,wl,wb,hm,hb1,hb2]<;>omega)|omega) ?_|refine jn (by first|with_reducible rfl | assumption | (simp (disch:=omega) only[ws,wl,wb,hm,hb1,hb2]<;>omega)|omega) ?_|refine(bnd (kG hv hlt)).trans ?_|refine(bnd g2).trans ?_|refine(bnd o1).trans ?_|refine el ?_|refine er ?_)
      rfl
  · refine⟨fun h=>absurd ((h.1.2 h0).2 hk).1 (by rw[hb1];simp),fun _=>?_⟩
    rw[fV]
    repeat (first|refine ip (by first|with_reducible rfl | assumption | (simp (disch:=omega) only[ws,wl,wb,hm,hb1]<;>omega)|omega) ?_|refine jn (by first|with_reducible rfl | assumption | (simp (disch:=omega) only[ws,wl,wb,hm,hb1]<;>omega)|omega) ?_|refine(bnd (kG hv hlt)).trans ?_|refine(bnd g2).trans ?_|refine(bnd o1).trans ?_|refine el ?_|refine er ?_)
    rfl
theorem aBM {l:List Ho} (h:Lk l) (hl:l.length≤100000):mL l=some true:=by
 rw[mL]
 repeat (first|refine ip0 ?_|refine jn0 ?_|refine(bnd ((aMJ hl _ 0 0 rfl (by omega) rfl).1 ((aUG h.wf).1 h))).trans ?_|refine el ?_|refine er ?_)
 rfl
theorem pright_f {l:List Ho} (hw:WfH l) (hl:l.length≤100000) (h:¬Lk l):mL l=some false:=by
 rw[mL]
 repeat (first|refine ip0 ?_|refine jn0 ?_|refine(bnd ((aMJ hl _ 0 0 rfl (by omega) rfl).2 (fun hh=>h ((aUG hw).2 hh)))).trans ?_|refine el ?_|refine er ?_)
 rfl
theorem aEI {l:List Ho} {i:Nat} (h:i<l.length) (tx:Int):lI (l.take (i+1)) tx=if l[i].2.1=tx then lI (l.take i) tx else lI (l.take i) tx++[l[i]]:=by
 unfold lI
 rw[List.take_add_one,List.getElem?_eq_getElem h,List.filter_append]
 show _++[l[i]].filter _=_
 by_cases hk:l[i].2.1=tx
 · rw[if_pos hk];simp [hk]
 · rw[if_neg hk];simp [hk]
theorem fidx_l0 {l:List Ho} {tx:Int} (hl:l.length≤100000):∀(d i:Nat) (v:Int),l.length - i=d→i≤l.length→v=(i:Int)→lI (l.take i) tx=l.take i →
 (dD l tx v=some (.inl ())∧lI l tx=l)∨(∃(n:Nat) (hn:n<l.length),dD l tx v=some (.inr (n:Int))∧lI (l.take n) tx=l.take n∧l[n].2.1=tx):=by
 intro d
 induction d with
 | zero =>
  intro i v hd hi hv hf
  rw[List.take_of_length_le (by omega)] at hf
  refine .inl ⟨?_,hf⟩
  rw[jS]
  repeat (first|refine ip0 ?_|refine jn0 ?_|refine el ?_|refine er ?_)
  rfl
 | succ d ih =>
  intro i v hd hi hv hf
  have hlt:i<l.length:=by omega
  have hs:=aEI hlt tx
  by_cases hk:l[i].2.1=tx
  · refine .inr ⟨i,hlt,?_,hf,hk⟩
    rw[jS]
    repeat (first|refine ip0 ?_|refine jn0 ?_|refine(bnd (kG hv hlt)).trans ?_|refine el ?_|refine er ?_)
    rw[hv]
  · have e:dD l tx v=dD l tx (aH .i64 v 1):=by
     rw[jS]
     repeat (first|refine ip0 ?_|refine jn0 ?_|refine(bnd (kG hv hlt)).trans ?_|refine el ?_|refine er ?_)
     rfl
    rw[e]
    rw[if_neg hk,hf] at hs
    refine ih (i+1) _ (by omega) (by omega) sd ?_
    rw[hs,List.take_add_one,List.getElem?_eq_getElem hlt];rfl
theorem del_l0 {l:List Ho} {tx:Int} (hl:l.length≤100000):∀(d i w:Nat) (v u:Int) (L:List Ho),l.length - i=d→i≤l.length→w<i→v=(i:Int)→u=(w:Int)→L.length=l.length→L.take w=lI (l.take i) tx→L.drop i=l.drop i →
 ∃(w2:Nat) (L2:List Ho),w2<l.length∧L2.length=l.length∧L2.take w2=lI l tx∧gM l tx v u L=some ((w2:Int),L2):=by
 intro d
 induction d with
 | zero =>
  intro i w v u L hd hi hw hv hu hL ht hdr
  refine⟨w,L,by omega,hL,by rw[ht,List.take_of_length_le (by omega)],?_⟩
  rw[pC]
  repeat (first|refine ip0 ?_|refine jn0 ?_|refine el ?_|refine er ?_)
  rw[hu]
 | succ d ih =>
  intro i w v u L hd hi hw hv hu hL ht hdr
  have hlt:i<l.length:=by omega
  have hltL:i<L.length:=by omega
  have hs:=aEI hlt tx
  have e1:L[i]=l[i]:=by
   have:=congrArg (fun x=>x[0]?) hdr
   simp only[List.getElem?_drop,Nat.add_zero] at this
   rw[List.getElem?_eq_getElem hlt,List.getElem?_eq_getElem hltL] at this
   exact Option.some.inj this
  have e2:L.drop (i+1)=l.drop (i+1):=by
   have:=congrArg (List.drop 1) hdr
   rwa [List.drop_drop,List.drop_drop] at this
  have g:=kG (l:=L) hv hltL
  rw[e1] at g
  rw[pC]
  by_cases hk:l[i].2.1=tx
  · rw[if_pos hk] at hs
    obtain⟨w2,L2,r1,r2,r3,r4⟩:=ih (i+1) w (aH .i64 v 1) u L (by omega) (by omega) (by omega) sd hu hL (by rw[hs,ht]) e2
    refine⟨w2,L2,r1,r2,r3,?_⟩
    repeat (first|refine ip (by first|with_reducible rfl | assumption | (simp (disch:=omega) only[ws,wl,wb,hL]<;>omega)|omega) ?_|refine jn (by first|with_reducible rfl | assumption | (simp (disch:=omega) only[ws,wl,wb,hL]<;>omega)|omega) ?_|refine(bnd g).trans ?_|refine el ?_|refine er ?_)
    exact r4
  · rw[if_neg hk] at hs
    have hwL:w<L.length:=by omega
    have e3:(List.set L (tN u) l[i]).take (w+1)=lI (l.take (i+1)) tx:=by
     rw[hu,pE,hs,List.take_add_one,List.take_set,List.set_eq_of_length_le (by simp;omega),List.getElem?_set_self hwL,ht];rfl
    have e4:(List.set L (tN u) l[i]).drop (i+1)=l.drop (i+1):=by
     rw[hu,pE,List.drop_set_of_lt (by omega)];exact e2
    obtain⟨w2,L2,r1,r2,r3,r4⟩:=ih (i+1) (w+1) (aH .i64 v 1) (aH .i64 u 1) (List.set L (tN u) l[i]) (by omega) (by omega) (by omega) sd sd (by simp;exact hL) e3 e4
    refine⟨w2,L2,r1,r2,r3,?_⟩
    repeat (first|refine ip (by first|with_reducible rfl | assumption | (simp (disch:=omega) only[ws,wl,wb,hL]<;>omega)|omega) ?_|refine jn (by first|with_reducible rfl | assumption | (simp (disch:=omega) only[ws,wl,wb,hL]<;>omega)|omega) ?_|refine(bnd g).trans ?_|refine(bnd (kG (l:=L) hu hwL)).trans ?_|refine el ?_|refine er ?_)
    exact r4
theorem free_ok {l:List Ho} (hl:l.length≤100000) (tx:Int):k9 l tx=some (lI l tx):=by
 have hcl:=gN l (by omega)
 rcases fidx_l0 (tx:=tx) hl _ 0 0 rfl (by omega) rfl rfl with⟨q1,q2⟩ | ⟨n,hn,q1,q2,q3⟩
 · have hi:fC l tx=some (-1):=by
    rw[fC]
    repeat (first|refine ip0 ?_|refine jn0 ?_|refine(bnd q1).trans ?_|refine el ?_|refine er ?_)
    rfl
   have hd:gP l tx=some (l.length,l):=by
    rw[gP]
    repeat (first|refine ip0 ?_|refine jn0 ?_|refine(bnd hi).trans ?_|refine el ?_|refine er ?_)
    rfl
   rw[k9]
   repeat (first|refine ip0 ?_|refine jn0 ?_|refine(bnd hcl).trans ?_|refine(bnd hd).trans ?_|refine el ?_|refine er ?_)
   rw[List.take_length,q2]
 · have hi:fC l tx=some (n:Int):=by
    rw[fC]
    repeat (first|refine ip0 ?_|refine jn0 ?_|refine(bnd q1).trans ?_|refine el ?_|refine er ?_)
    rfl
   have hs:=aEI hn tx
   rw[if_pos q3,q2] at hs
   obtain⟨w2,L2,r1,r2,r3,r4⟩:=del_l0 (tx:=tx) hl _ (n+1) n (aH .i64 (n:Int) 1) (n:Int) l rfl (by omega) (by omega) (by rw[qW (by omega)];omega) rfl rfl hs.symm rfl
   obtain⟨m,hm⟩:∃m,m=l.length - w2:=⟨_,rfl⟩
   have hd:gP l tx=some (w2,(List.take w2 L2++List.replicate m (0,0,false))++List.drop (w2+m) L2):=by
    rw[gP,hm]
    have hw2:tN ((w2:Nat):Int)=w2:=pE w2
    refine(bnd hi).trans ?_
    refine(if_neg sd).trans ?_
    refine(bnd r4).trans ?_
    simp only[hw2]
    repeat (first|refine ip (by first|with_reducible rfl | assumption | (simp (disch:=omega) only[ws,wl,wb,r2]<;>omega)|omega) ?_|refine jn (by first|with_reducible rfl | assumption | (simp (disch:=omega) only[ws,wl,wb,r2]<;>omega)|omega) ?_|refine el ?_|refine er ?_)
    rfl
   have hlen:((List.take w2 L2++List.replicate m (0,0,false))++List.drop (w2+m) L2).length=l.length:=by
    simp;omega
   rw[k9]
   refine(bnd hcl).trans ?_
   refine(bnd hd).trans ?_
   refine(if_pos (by simp only[aP8,hlen];omega)).trans ?_
   rw[List.append_assoc,List.take_append_of_le_length (by simp;omega),List.take_take,Nat.min_self,r3]
theorem aVB {d:Ho} {l:List Ho} {k t:Int} {w:Bool}:aE1 (d::l) k t w↔(d.1=k∧d.2.1≠t∧(w=true∨d.2.2=true))∨aE1 l k t w:=by
 constructor
 · rintro⟨h,hm,hh⟩
   rcases List.mem_cons.1 hm with rfl | hm
   · exact .inl hh
   · exact .inr ⟨h,hm,hh⟩
 · rintro (h | ⟨h,hm,hh⟩)
   · exact⟨d,by simp,h⟩
   · exact⟨h,by simp [hm],hh⟩
theorem aPH {l:List Ho} {k t:Int} {w:Bool} (hl:l.length≤100000):∀(d i:Nat) (v:Int),l.length - i=d→i≤l.length→v=(i:Int) →
 (¬aE1 (l.drop i) k t w→dV l t k w v=some (.inl ()))∧(aE1 (l.drop i) k t w→dV l t k w v=some (.inr (l,9))):=by
 intro d
 induction d with
 | zero =>
  intro i v hd hi hv
  rw[List.drop_of_length_le (by omega)]
  refine⟨fun _=>?_,fun ⟨h,hh,_⟩=>by cases hh⟩
  rw[jM]
  repeat (first|refine ip0 ?_|refine jn0 ?_|refine el ?_|refine er ?_)
  rfl
 | succ d ih =>
  intro i v hd hi hv
  have hlt:i<l.length:=by omega
  have ed:l.drop i=l[i]::l.drop (i+1):=List.drop_eq_getElem_cons hlt
  rw[ed,aVB]
  obtain⟨q1,q2⟩:=ih (i+1) (aH .i64 v 1) (by omega) (by omega) sd
  by_cases hk:l[i].1=k
  rotate_left
  · have e:dV l t k w v=dV l t k w (aH .i64 v 1):=by
     rw[jM]
     repeat (first|refine ip0 ?_|refine jn0 ?_|refine(bnd (kG hv hlt)).trans ?_|refine el ?_|refine er ?_)
     rfl
    rw[e]
    exact⟨fun h=>q1 fun hh=>h (.inr hh),fun h=>q2 (h.resolve_left fun hh=>hk hh.1)⟩
  by_cases ht:l[i].2.1=t
  · have e:dV l t k w v=dV l t k w (aH .i64 v 1):=by
     rw[jM]
     repeat (first|refine ip0 ?_|refine jn0 ?_|refine(bnd (kG hv hlt)).trans ?_|refine el ?_|refine er ?_)
     rfl
    rw[e]
    exact⟨fun h=>q1 fun hh=>h (.inr hh),fun h=>q2 (h.resolve_left fun hh=>hh.2.1 ht)⟩
  cases w with
  | true =>
   refine⟨fun h=>absurd (.inl ⟨hk,ht,.inl rfl⟩) h,fun _=>?_⟩
   rw[jM]
   repeat (first|refine ip0 ?_|refine jn0 ?_|refine(bnd (kG hv hlt)).trans ?_|refine el ?_|refine er ?_)
   rfl
  | false =>
   cases hb:l[i].2.2
   · have e:dV l t k false v=dV l t k false (aH .i64 v 1):=by
      rw[jM]
      repeat (first|refine ip (by first|with_reducible rfl | assumption | (simp (disch:=omega) only[ws,wl,wb,hb]<;>omega)|omega) ?_|refine jn (by first|with_reducible rfl | assumption | (simp (disch:=omega) only[ws,wl,wb,hb]<;>omega)|omega) ?_|refine(bnd (kG hv hlt)).trans ?_|refine el ?_|refine er ?_)
      rfl
     rw[e]
     exact⟨fun h=>q1 fun hh=>h (.inr hh),fun h=>q2 (h.resolve_left fun hh=>by simp at hh)⟩
   · refine⟨fun h=>absurd (.inl ⟨hk,ht,.inr rfl⟩) h,fun _=>?_⟩
     rw[jM]
     repeat (first|refine ip (by first|with_reducible rfl | assumption | (simp (disch:=omega) only[ws,wl,wb,hb]<;>omega)|omega) ?_|refine jn (by first|with_reducible rfl | assumption | (simp (disch:=omega) only[ws,wl,wb,hb]<;>omega)|omega) ?_|refine(bnd (kG hv hlt)).trans ?_|refine el ?_|refine er ?_)
     rfl
theorem aLX {l:List Ho} (h:Lk l):∀i j (hi:i<l.length) (hj:j<l.length),i≤j→cd l[i]≤cd l[j]:=by
 intro i j hi hj hij
 by_cases e:i=j
 · subst e;omega
 · have:=List.pairwise_iff_getElem.1 h.1 i j hi hj (by omega)
   omega
theorem bs_l0 {l:List Ho} {x:Ho} (h:Lk l) (hx:May x) (hl:l.length≤100000):∀(d a b:Nat) (v w:Int),b - a≤d→a≤b→b≤l.length→v=(a:Int)→w=(b:Int) →
 (∀j (hj:j<l.length),j<a→cd l[j]<cd x)→(∀j (hj:j<l.length),b≤j→cd x≤cd l[j]) →
 ∃i:Nat,i≤l.length∧dU l x.1 x.2.1 x.2.2 v w=some (i:Int)∧(∀j (hj:j<l.length),j<i→cd l[j]<cd x)∧(∀j (hj:j<l.length),i≤j→cd x≤cd l[j]):=by
 have hs:=aLX h
 intro d
 induction d with
 | zero =>
  intro a b v w hd hab hb hv hw h1 h2
  obtain rfl:a=b:=by omega
  refine⟨a,by omega,?_,h1,h2⟩
  rw[fS]
  repeat (first|refine ip0 ?_|refine jn0 ?_|refine el ?_|refine er ?_)
  rw[hv]
 | succ d ih =>
  intro a b v w hd hab hb hv hw h1 h2
  by_cases hlt:a<b
  rotate_left
  · obtain rfl:a=b:=by omega
    refine⟨a,by omega,?_,h1,h2⟩
    rw[fS]
    repeat (first|refine ip0 ?_|refine jn0 ?_|refine el ?_|refine er ?_)
    rw[hv]
  subst hv hw
  have hm:=mid64 (a:=a) (b:=b) (by omega)
  obtain⟨m,hme⟩:∃m,m=(a+b) / 2:=⟨_,rfl⟩
  rw[← hme] at hm
  have hml:m<l.length:=by omega
  obtain⟨o,o1,o2,_⟩:=aKJ l[m] x
  have hc:o<0↔cd l[m]<cd x:=o2.trans (aQR (h.2.1 _ (List.getElem_mem hml)) hx).symm
  by_cases hk:cd l[m]<cd x
  · obtain⟨i,i1,i2,i3,i4⟩:=ih (m+1) b (aH .i64 (m:Int) 1) b (by omega) (by omega) hb sd rfl (fun j hj hjm=>by have:=hs j m hj hml (by omega);omega) h2
    refine⟨i,i1,?_,i3,i4⟩
    have hc2:=hc.2 hk
    rw[fS]
    simp only[hm]
    repeat (first|refine ip0 ?_|refine jn0 ?_|refine(bnd (kG (l:=l) (i:=m) rfl hml)).trans ?_|refine(bnd o1).trans ?_|refine el ?_|refine er ?_)
    exact i2
  · obtain⟨i,i1,i2,i3,i4⟩:=ih a m a m (by omega) (by omega) (by omega) rfl rfl h1 (fun j hj hjm=>by have:=hs m j hml hj hjm;omega)
    refine⟨i,i1,?_,i3,i4⟩
    have hc2:¬o<0:=fun h=>hk (hc.1 h)
    rw[fS]
    simp only[hm]
    repeat (first|refine ip0 ?_|refine jn0 ?_|refine(bnd (kG (l:=l) (i:=m) rfl hml)).trans ?_|refine(bnd o1).trans ?_|refine el ?_|refine er ?_)
    exact i2
theorem aN3 {l:List Ho} (h:Lk l) (hl:l.length≤100000) {k t:Int} {w:Bool} (hx:May (k,t,w)) :
 (∃A b R,l=A++(k,t,b)::R∧dE l k t w=some ((A.length:Int),true)) ∨
 (∃A R,l=A++R∧(∀d∈A,cd d<cd (k,t,w))∧(∀d∈R,cd (k,t,w)<cd d)∧dE l k t w=some ((A.length:Int),false)):=by
 obtain⟨i,i1,i2,i3,i4⟩:=bs_l0 (x:=(k,t,w)) h hx hl l.length 0 l.length 0 (nI l.length) (by omega) (by omega) (by omega) rfl rfl (fun j hj h=>by omega) (fun j hj h=>by omega)
 have e0:l=l.take i++l.drop i:=(List.take_append_drop i l).symm
 have elen:(l.take i).length=i:=by simp;omega
 have hA:∀d∈l.take i,cd d<cd (k,t,w):=fun d hd=>by
  obtain⟨j,hj⟩:=List.mem_iff_getElem?.1 hd
  rw[List.getElem?_take] at hj
  split at hj
  · obtain⟨hj1,rfl⟩:=List.getElem?_eq_some_iff.1 hj
    exact i3 j hj1 (by assumption)
  · cases hj
 by_cases hi:i<l.length
 rotate_left
 · right
   refine⟨l.take i,l.drop i,e0,hA,fun d hd=>?_,?_⟩
   · rw[List.drop_of_length_le (by omega)] at hd;cases hd
   · rw[dE,elen]
     repeat (first|refine ip0 ?_|refine jn0 ?_|refine(bnd i2).trans ?_)
     rfl
 have ed:l.drop i=l[i]::l.drop (i+1):=List.drop_eq_getElem_cons hi
 obtain⟨o,o1,_,o2⟩:=aKJ l[i] (k,t,w)
 have hb:dE l k t w=some ((i:Int),eqI o 0):=by
  rw[dE]
  repeat (first|refine ip0 ?_|refine jn0 ?_|refine(bnd i2).trans ?_|refine(bnd (kG (l:=l) (i:=i) rfl hi)).trans ?_|refine(bnd o1).trans ?_)
  rfl
 by_cases hk:l[i].1=k∧l[i].2.1=t
 · left
   refine⟨l.take i,l[i].2.2,l.drop (i+1),?_,?_⟩
   · rw[← hk.1,← hk.2]
     show l=l.take i++l[i]::l.drop (i+1)
     rw[← ed];exact e0
   · have:eqI o 0=true:=jK.2 (o2.2 hk)
     rw[elen,← this]
     exact hb
 · right
   refine⟨l.take i,l.drop i,e0,hA,fun d hd=>?_,?_⟩
   · obtain⟨j,hj⟩:=List.mem_iff_getElem?.1 hd
     rw[List.getElem?_drop] at hj
     obtain⟨hj1,rfl⟩:=List.getElem?_eq_some_iff.1 hj
     have h1:=i4 i hi (Nat.le_refl _)
     have h2:=aLX h i (i+j) hi hj1 (by omega)
     have h3:cd l[i]≠cd (k,t,w):=fun hh=>hk ((cd_eq (h.2.1 _ (List.getElem_mem hi)) hx).1 hh)
     omega
   · have:eqI o 0=false:=by rw[← Bool.not_eq_true];exact fun h=>hk (o2.1 (jK.1 h))
     rw[elen,← this]
     exact hb
theorem aOY {A R:List Ho} {x:Ho} (hl:A.length+R.length≤1000000):aIQ 24 (A.length:Int) (A++R) [x]=some (A++x::R):=by
 unfold aIQ
 rw[if_pos ⟨rfl,by omega,by simp;omega,by simp;omega⟩]
 simp
def Got (l:List Ho) (k t:Int) (w:Bool) (l':List Ho):Prop :=
 (∃A b R,l=A++(k,t,b)::R∧l'=A++(k,t,b || w)::R)∨(∃A R,l=A++R∧(∀d∈A,cd d<cd (k,t,w))∧(∀d∈R,cd (k,t,w)<cd d)∧l'=A++(k,t,w)::R)
theorem take_f {l:List Ho} {k t:Int} {w:Bool} (hw:WfH l) (hl:l.length≤10000) (h:¬(Lk l∧aKE (k,t,w))):iA l t k w=some (l,2)∧True:=by
 by_cases hr:Lk l
 · have hm:¬aKE (k,t,w):=fun hm=>h ⟨hr,hm⟩
   have m1:¬iP t k=true:=fun hh=>hm ((aIS t k).1.1 hh)
   constructor
   · rw[iA]
     repeat (first|refine ip (by first|with_reducible rfl | assumption | (simp (disch:=omega) only[ws,wl,wb,m1]<;>omega)|omega) ?_|refine jn (by first|with_reducible rfl | assumption | (simp (disch:=omega) only[ws,wl,wb,m1]<;>omega)|omega) ?_|refine(bnd (gN l (by omega))).trans ?_|refine(bnd (aBM hr (by omega))).trans ?_|refine el ?_|refine er ?_)
     rfl
   · trivial
 · constructor
   · rw[iA]
     repeat (first|refine ip0 ?_|refine jn0 ?_|refine(bnd (gN l (by omega))).trans ?_|refine(bnd (pright_f hw (by omega) hr)).trans ?_|refine el ?_|refine er ?_)
     rfl
   · trivial
theorem take_c {l:List Ho} {k t:Int} {w:Bool} (hr:Lk l) (hl:l.length≤10000) (hm:aKE (k,t,w)) (hc:aE1 l k t w):iA l t k w=some (l,9)∧True:=by
 have m1:iP t k=true:=(aIS t k).1.2 hm
 have c1:=(aPH (l:=l) (k:=k) (t:=t) (w:=w) (by omega) _ 0 0 rfl (by omega) rfl).2 hc
 constructor
 · rw[iA]
   repeat (first|refine ip (by first|with_reducible rfl | assumption | (simp (disch:=omega) only[ws,wl,wb,m1]<;>omega)|omega) ?_|refine jn (by first|with_reducible rfl | assumption | (simp (disch:=omega) only[ws,wl,wb,m1]<;>omega)|omega) ?_|refine(bnd (gN l (by omega))).trans ?_|refine(bnd (aBM hr (by omega))).trans ?_|refine(bnd c1).trans ?_|refine el ?_|refine er ?_)
   rfl
 · trivial
theorem take_t {l:List Ho} {k t:Int} {w:Bool} (hr:Lk l) (hl:l.length≤10000) (hk:0≤k) (hm:aKE (k,t,w)) (hc:¬aE1 l k t w):∃l',iA l t k w=some (l',0)∧True∧Got l k t w l':=by
 have m1:iP t k=true:=(aIS t k).1.2 hm
 have c1:=(aPH (l:=l) (k:=k) (t:=t) (w:=w) (by omega) _ 0 0 rfl (by omega) rfl).1 hc
 have hM:May (k,t,w):=(aJJ hk).1 hm
 have tolex:∀{x y:Ho},May x→May y→cd x<cd y→x.1<y.1∨(x.1=y.1∧x.2.1<y.2.1):=fun hx hy h=>(aQR hx hy).1 h
 rcases aN3 hr (by omega) hM with⟨A,b,R,rfl,hf⟩ | ⟨A,R,rfl,hA,hR,hf⟩
 · obtain⟨l1,l2,l3,l4⟩:=aTP hr
   have hal:A.length+(R.length+1)≤10000:=by simpa using hl
   have hMb:May (k,t,b):=hM
   have hho:sU (A++(k,t,b)::R) t k=if b then 2 else 1:=hold_mid l2 hMb (fun x hx=>hr.2.1 x (by simp [hx]))
   refine⟨A++(k,t,b || w)::R,?_,?_,.inl ⟨A,b,R,rfl,rfl⟩⟩
   · have g1:(A++(k,t,b)::R)[tN (A.length:Int)]? = some (k,t,b):=by rw[pE];exact aFA A R _
     have g2:∀y:Ho,List.set (A++(k,t,b)::R) (tN (A.length:Int)) y=A++y::R:=fun y=>by rw[pE];exact aO7 A R _ y
     rw[iA]
     cases b with
     | true =>
      repeat (first|refine ip (by first|with_reducible rfl | assumption | (simp (disch:=omega) only[ws,wl,wb,m1]<;>omega)|omega) ?_|refine jn (by first|with_reducible rfl | assumption | (simp (disch:=omega) only[ws,wl,wb,m1]<;>omega)|omega) ?_|refine(bnd (gN _ (by simp;omega))).trans ?_|refine(bnd (aBM hr (by omega))).trans ?_|refine(bnd c1).trans ?_|refine(bnd hf).trans ?_|refine(bnd g1).trans ?_|refine el ?_|refine er ?_)
      rw[g2];rfl
     | false =>
      repeat (first|refine ip (by first|with_reducible rfl | assumption | (simp (disch:=omega) only[ws,wl,wb,m1]<;>omega)|omega) ?_|refine jn (by first|with_reducible rfl | assumption | (simp (disch:=omega) only[ws,wl,wb,m1]<;>omega)|omega) ?_|refine(bnd (gN _ (by simp;omega))).trans ?_|refine(bnd (aBM hr (by omega))).trans ?_|refine(bnd c1).trans ?_|refine(bnd hf).trans ?_|refine(bnd g1).trans ?_|refine el ?_|refine er ?_)
      rw[g2];rfl
   · trivial
 · have hal:A.length+R.length≤10000:=by simpa using hl
   have hho:sU (A++R) t k=0:=aVM fun x hx hh=>by
    have hmx:=hr.2.1 x hx
    have he:=(cd_eq hmx hM).2 hh
    rcases List.mem_append.1 hx with hx | hx
    · have:=hA x hx;omega
    · have:=hR x hx;omega
   refine⟨A++(k,t,w)::R,?_,?_,.inr ⟨A,R,rfl,hA,hR,rfl⟩⟩
   · have hi:mU (A.length:Int) (A++R) [(k,t,w)]=some (A++(k,t,w)::R):=by
      rw[mU];exact aOY (by omega)
     rw[iA]
     repeat (first|refine ip (by first|with_reducible rfl | assumption | (simp (disch:=omega) only[ws,wl,wb,m1]<;>omega)|omega) ?_|refine jn (by first|with_reducible rfl | assumption | (simp (disch:=omega) only[ws,wl,wb,m1]<;>omega)|omega) ?_|refine(bnd (gN _ (by simp;omega))).trans ?_|refine(bnd (aBM hr (by omega))).trans ?_|refine(bnd c1).trans ?_|refine(bnd hf).trans ?_|refine(bnd hi).trans ?_|refine el ?_|refine er ?_)
     rfl
   · trivial
theorem Got.lk {l l':List Ho} {k t:Int} {w:Bool} (h:Got l k t w l') (hr:Lk l) (hm:May (k,t,w)) (hc:¬aE1 l k t w):Lk l'∧l'.length≤l.length+1∧lI l' t=lI l t∧∃b',(k,t,b')∈l'∧(w=true→b'=true):=by
 rcases h with⟨A,b,R,rfl,rfl⟩ | ⟨A,R,rfl,hA,hR,rfl⟩
 · obtain⟨l1,l2,l3,l4⟩:=aTP hr
   refine⟨lk_new l1 (w:=b || w) hm l2 l3 fun x hx hk ht=>?_,by simp,by simp [lI],_,List.mem_append.2 (.inr (List.mem_cons_self ..)),fun h=>by simp [h]⟩
   obtain⟨f1,f2⟩:=l4 x hx hk ht
   simp only at f1
   refine⟨?_,f2⟩
   rw[f1,Bool.false_or]
   cases hw:w
   · rfl
   · exact absurd ⟨x,by rcases List.mem_append.1 hx with h | h<;>simp [h],hk,ht,.inl hw⟩ hc
 · refine⟨lk_new hr hm hA hR fun x hx hk ht=>?_,by simp;omega,by simp [lI],_,List.mem_append.2 (.inr (List.mem_cons_self ..)),fun h=>h⟩
   cases hw:w
   · cases hx2:x.2.2
     · exact⟨rfl,rfl⟩
     · exact absurd ⟨x,hx,hk,ht,.inr hx2⟩ hc
   · exact absurd ⟨x,hx,hk,ht,.inl hw⟩ hc
end Go.Ws.L7
