/-
  Ledgers, plain: what the functions make of them.
  Conditions: none.
-/
import Derived.Test.YtipeekdnpocclaaZPlain
import Derived.Test.YtipeekdnpocclaaZCLedT
import Derived.KernelRfl
set_option linter.unusedVariables false
set_option linter.unusedSimpArgs false
namespace Go.Ws.L8
open Go.Ws
set_option linter.unusedVariables false
set_option linter.unusedSimpArgs false
set_option maxHeartbeats 1000000

theorem hZ (l:List (Int × Int)) (h:l.length≤1000000):kZ l=some ():=by
 rw[kZ,jW]
 repeat (first|refine ip0 ?_|refine jn0 ?_|refine el ?_|refine er ?_)
 rfl
def okAt (l:List (Int × Int)) (j:Nat):Prop:=∀d,l[j]? = some d→d.1<64∧d.2≠0∧(0<j→∀e,l[j - 1]? = some e→e.1<d.1)
def aED (l:List (Int × Int)) (i:Nat):Prop:=∀j,i≤j→okAt l j
theorem aN6 {l:List (Int × Int)} {i:Nat} (h:l.length≤i):aED l i:=fun j hj d hd=>by
 rw[List.getElem?_eq_none (by omega)] at hd;cases hd
theorem aLU {l:List (Int × Int)} {i:Nat}:aED l i↔okAt l i∧aED l (i+1):=by
 constructor
 · exact fun h=>⟨h i (Nat.le_refl _),fun j hj=>h j (by omega)⟩
 · rintro⟨h1,h2⟩ j hj
   by_cases e:j=i
   · subst e;exact h1
   · exact h2 j (by omega)
theorem aM4 {l : List (Int × Int)} {i : Nat} (h : i < l.length) : okAt l i ↔ l[i].1 < 64 ∧ l[i].2 ≠ 0 ∧ (∀ h0 : 0 < i, (l[i - 1]'(by omega)).1 < l[i].1) := by
 unfold okAt
 constructor
 · intro hh
   obtain⟨h1,h2,h3⟩:=hh _ (List.getElem?_eq_getElem h)
   exact⟨h1,h2,fun h0=>h3 h0 _ (List.getElem?_eq_getElem _)⟩
 · rintro⟨h1,h2,h3⟩ d hd
   rw[List.getElem?_eq_getElem h] at hd
   cases hd
   refine⟨h1,h2,fun h0 e he=>?_⟩
   rw[List.getElem?_eq_getElem (show i - 1<l.length by omega)] at he
   cases he
   exact h3 h0
abbrev WfL (l:List (Int × Int)):Prop:=∀d∈l,0≤d.1∧InR d.2
theorem led_iff {l:List (Int × Int)} (hw:WfL l):Led l↔aED l 0:=by
 constructor
 · rintro⟨h1,h2⟩ j _ d hd
   obtain⟨hj,he⟩:=List.getElem?_eq_some_iff.1 hd
   obtain⟨k1,k2,k3,k4⟩:=h2 d (List.mem_of_getElem? hd)
   refine⟨k2,k3,fun h0 e he2=>?_⟩
   obtain⟨hj2,he2⟩:=List.getElem?_eq_some_iff.1 he2
   rw[List.pairwise_iff_getElem] at h1
   have:=h1 (j - 1) j hj2 hj (by omega)
   rw[he,he2] at this
   exact this
 · intro h
   have step:∀i (hi:i+1<l.length),l[i].1<l[i+1].1:=fun i hi=>by
    have:=(aM4 hi).1 (h (i+1) (Nat.zero_le _))
    exact this.2.2 (by omega)
   refine⟨?_,fun d hd=>?_⟩
   · rw[List.pairwise_iff_getElem]
     intro i j hi hj hij
     obtain⟨k,rfl⟩:∃k,j=i+1+k:=⟨j - i - 1,by omega⟩
     induction k with
     | zero=>exact step i hj
     | succ k ih =>
      have:=ih (by omega) (by omega)
      have:=step (i+1+k) (by omega)
      have e:i+1+(k+1)=i+1+k+1:=by omega
      simp only[e]
      omega
   · obtain⟨j,hj⟩:=List.mem_iff_getElem?.1 hd
     obtain⟨h1,h2,_⟩:=h j (Nat.zero_le _) d hj
     exact⟨(hw d hd).1,h1,h2,(hw d hd).2⟩
theorem aFQ {l:List (Int × Int)} (hl:l.length≤1000000):∀(d i:Nat) (v:Int),l.length - i=d→i≤l.length→v=(i:Int)→(aED l i→dV l v=some (.inl ()))∧(¬aED l i→dV l v=some (.inr false)):=by
 intro d
 induction d with
 | zero =>
  intro i v hd hi hv
  refine⟨fun _=>?_,fun h=>absurd (aN6 (by omega)) h⟩
  rw[g6]
  repeat (first|refine ip0 ?_|refine jn0 ?_|refine el ?_|refine er ?_)
  rfl
 | succ d ih =>
  intro i v hd hi hv
  have hlt:i<l.length:=by omega
  obtain⟨q1,q2⟩:=ih (i+1) (aH .i64 v 1) (by omega) (by omega) sd
  rw[aLU,aM4 hlt]
  by_cases h1:l[i].1<64
  rotate_left
  · refine⟨fun h=>absurd h.1.1 h1,fun _=>?_⟩
    rw[g6]
    repeat (first|refine ip0 ?_|refine jn0 ?_|refine(bnd (eJ hv hlt)).trans ?_|refine el ?_|refine er ?_)
    rfl
  by_cases h2:l[i].2=0
  · refine⟨fun h=>absurd h2 h.1.2.1,fun _=>?_⟩
    rw[g6]
    repeat (first|refine ip0 ?_|refine jn0 ?_|refine(bnd (eJ hv hlt)).trans ?_|refine el ?_|refine er ?_)
    rfl
  by_cases h0:0<i
  rotate_left
  · have e:dV l v=dV l (aH .i64 v 1):=by
     rw[g6]
     repeat (first|refine ip0 ?_|refine jn0 ?_|refine(bnd (eJ hv hlt)).trans ?_|refine el ?_|refine er ?_)
     rfl
    rw[e]
    exact⟨fun h=>q1 h.2,fun h=>q2 fun hh=>h ⟨⟨h1,h2,fun h=>absurd h h0⟩,hh⟩⟩
  have g2:=eJ (l:=l) (q:=sQ .i64 v 1) (i:=i - 1) (by rw[aHU (by omega)];omega) (by omega)
  by_cases h3 : (l[i - 1]'(by omega)).1 < l[i].1
  · have e:dV l v=dV l (aH .i64 v 1):=by
     rw[g6]
     repeat (first|refine ip0 ?_|refine jn0 ?_|refine(bnd (eJ hv hlt)).trans ?_|refine(bnd g2).trans ?_|refine el ?_|refine er ?_)
     rfl
    rw[e]
    exact⟨fun h=>q1 h.2,fun h=>q2 fun hh=>h ⟨⟨h1,h2,fun _=>h3⟩,hh⟩⟩
  · refine⟨fun h=>absurd (h.1.2.2 h0) h3,fun _=>?_⟩
    rw[g6]
    repeat (first|refine ip0 ?_|refine jn0 ?_|refine(bnd (eJ hv hlt)).trans ?_|refine(bnd g2).trans ?_|refine el ?_|refine er ?_)
    rfl
theorem aHH {l:List (Int × Int)} (h:Led l):nW l=some true:=by
 have hw:WfL l:=fun d hd=>⟨(h.2 d hd).1,(h.2 d hd).2.2.2⟩
 have hl:=h.len
 rw[nW]
 repeat (first|refine ip0 ?_|refine jn0 ?_|refine(bnd ((aFQ (by omega) _ 0 0 rfl (by omega) rfl).1 ((led_iff hw).1 h))).trans ?_|refine el ?_|refine er ?_)
 rfl
def l7 (l:List (Int × Int)):Prop:=∀d∈l,d.1<64
theorem vL {l:List (Int × Int)} {i:Nat} (h:i<l.length):l7 (l.drop i)↔l[i].1<64∧l7 (l.drop (i+1)):=by
 rw[List.drop_eq_getElem_cons h]
 unfold l7
 simp only[List.mem_cons,forall_eq_or_imp]
theorem aNH {l:List (Int × Int)} (hl:l.length≤1000000):∀(d i:Nat) (v:Int),l.length - i=d→i≤l.length→v=(i:Int) →
 (l7 (l.drop i)→fN l v=some (.inl ()))∧(¬l7 (l.drop i)→∃j:Int,0≤j∧fN l v=some (.inr j)):=by
 intro d
 induction d with
 | zero =>
  intro i v hd hi hv
  rw[List.drop_of_length_le (by omega)]
  refine⟨fun _=>?_,fun h=>absurd (fun x hx=>by cases hx) h⟩
  rw[hO]
  repeat (first|refine ip0 ?_|refine jn0 ?_|refine el ?_|refine er ?_)
  rfl
 | succ d ih =>
  intro i v hd hi hv
  have hlt:i<l.length:=by omega
  rw[vL hlt]
  obtain⟨q1,q2⟩:=ih (i+1) (aH .i64 v 1) (by omega) (by omega) sd
  by_cases hw:l[i].1<64
  · skip
    refine⟨fun h=>?_,fun h=>?_⟩
    · rw[hO]
      repeat (first|refine ip0 ?_|refine jn0 ?_|refine(bnd (eJ hv hlt)).trans ?_|refine el ?_|refine er ?_)
      exact q1 h.2
    · obtain⟨j,j0,hj⟩:=q2 (fun hh=>h ⟨hw,hh⟩)
      refine⟨j,j0,?_⟩
      rw[hO]
      repeat (first|refine ip0 ?_|refine jn0 ?_|refine(bnd (eJ hv hlt)).trans ?_|refine el ?_|refine er ?_)
      exact hj
  · skip
    refine⟨fun h=>absurd h.1 hw,fun _=>⟨v,by omega,?_⟩⟩
    rw[hO]
    repeat (first|refine ip0 ?_|refine jn0 ?_|refine(bnd (eJ hv hlt)).trans ?_|refine el ?_|refine er ?_)
    rfl
theorem vR {l:List (Int × Int)} (hl:l.length≤1000000):(l7 l→eL l=some false)∧(¬l7 l→eL l=some true):=by
 obtain⟨q1,q2⟩:=aNH hl _ 0 0 rfl (by omega) rfl
 rw[List.drop_zero] at q1 q2
 refine⟨fun h=>?_,fun h=>?_⟩
 · have:fU l=some (-1):=by
    rw[fU]
    repeat (first|refine ip0 ?_|refine jn0 ?_|refine(bnd (q1 h)).trans ?_|refine el ?_|refine er ?_)
    rfl
   rw[eL]
   repeat (first|refine ip0 ?_|refine jn0 ?_|refine(bnd this).trans ?_|refine el ?_|refine er ?_)
   rfl
 · obtain⟨j,j0,hj⟩:=q2 h
   have:fU l=some j:=by
    rw[fU]
    repeat (first|refine ip0 ?_|refine jn0 ?_|refine(bnd hj).trans ?_|refine el ?_|refine er ?_)
    rfl
   rw[eL]
   repeat (first|refine ip0 ?_|refine jn0 ?_|refine(bnd this).trans ?_|refine el ?_|refine er ?_)
   exact congrArg some sd
theorem cmp_ok (a k:Int):(ltI (bD a k) 0=true↔a<k)∧(eqI (bD a k) 0=true↔a=k):=by
 have hn:∀x:Int,iG x=false:=fun x=>by unfold iG;rw[qL];rfl
 unfold bD
 rw[hn,hn]
 simp only[Bool.false_eq_true,if_false]
 by_cases h1:a<k
 · rw[if_pos (pJ.2 h1)];constructor
   · simp [ltI,h1]
   · simp [eqI];omega
 · rw[if_neg (fun h=>h1 (pJ.1 h))]
   by_cases h2:k<a
   · rw[if_pos (pJ.2 h2)];constructor
     · simp [ltI,h1]
     · simp [eqI];omega
   · rw[if_neg (fun h=>h2 (pJ.1 h))];constructor
     · simp [ltI,h1]
     · simp [eqI];omega
theorem bs_l0 {l:List (Int × Int)} {k:Int} (hl:l.length≤1000000) (hs:∀i j (hi:i<l.length) (hj:j<l.length),i≤j→l[i].1≤l[j].1):∀(d a b:Nat) (v w:Int),b - a≤d→a≤b→b≤l.length→v=(a:Int)→w=(b:Int) →
 (∀j (hj:j<l.length),j<a→l[j].1<k)→(∀j (hj:j<l.length),b≤j→k≤l[j].1) →
 ∃i:Nat,i≤l.length∧cY l k v w=some (i:Int)∧(∀j (hj:j<l.length),j<i→l[j].1<k)∧(∀j (hj:j<l.length),i≤j→k≤l[j].1):=by
 intro d
 induction d with
 | zero =>
  intro a b v w hd hab hb hv hw h1 h2
  obtain rfl:a=b:=by omega
  refine⟨a,by omega,?_,h1,h2⟩
  rw[eW]
  repeat (first|refine ip0 ?_|refine jn0 ?_|refine el ?_|refine er ?_)
  rw[hv]
 | succ d ih =>
  intro a b v w hd hab hb hv hw h1 h2
  by_cases hlt:a<b
  rotate_left
  · obtain rfl:a=b:=by omega
    refine⟨a,by omega,?_,h1,h2⟩
    rw[eW]
    repeat (first|refine ip0 ?_|refine jn0 ?_|refine el ?_|refine er ?_)
    rw[hv]
  subst hv hw
  have hm:=mid64 (a:=a) (b:=b) (by omega)
  obtain⟨m,hme⟩:∃m,m=(a+b) / 2:=⟨_,rfl⟩
  rw[← hme] at hm
  have hml:m<l.length:=by omega
  have hc:=(cmp_ok l[m].1 k).1
  by_cases hk:l[m].1<k
  · obtain⟨i,i1,i2,i3,i4⟩:=ih (m+1) b (aH .i64 (m:Int) 1) b (by omega) (by omega) hb sd rfl (fun j hj hjm=>by have:=hs j m hj hml (by omega);omega) h2
    refine⟨i,i1,?_,i3,i4⟩
    have hc2:ltI (bD l[m].1 k) 0=true:=hc.2 hk
    rw[eW]
    simp only[hm]
    repeat (first|refine ip (by first|with_reducible rfl | assumption | (simp (disch:=omega) only[ws,wl,wb,hc2]<;>omega)|omega) ?_|refine jn (by first|with_reducible rfl | assumption | (simp (disch:=omega) only[ws,wl,wb,hc2]<;>omega)|omega) ?_|refine(bnd (eJ (l:=l) (i:=m) rfl hml)).trans ?_|refine el ?_|refine er ?_)
    exact i2
  · obtain⟨i,i1,i2,i3,i4⟩:=ih a m a m (by omega) (by omega) (by omega) rfl rfl h1 (fun j hj hjm=>by have:=hs m j hml hj hjm;omega)
    refine⟨i,i1,?_,i3,i4⟩
    have hc2:¬ltI (bD l[m].1 k) 0=true:=fun h=>hk (hc.1 h)
    rw[eW]
    simp only[hm]
    repeat (first|refine ip (by first|with_reducible rfl | assumption | (simp (disch:=omega) only[ws,wl,wb,hc2]<;>omega)|omega) ?_|refine jn (by first|with_reducible rfl | assumption | (simp (disch:=omega) only[ws,wl,wb,hc2]<;>omega)|omega) ?_|refine(bnd (eJ (l:=l) (i:=m) rfl hml)).trans ?_|refine el ?_|refine er ?_)
    exact i2
theorem aHD {l:List (Int × Int)} (h:Led l):∀i j (hi:i<l.length) (hj:j<l.length),i≤j→l[i].1≤l[j].1:=by
 intro i j hi hj hij
 by_cases e:i=j
 · subst e;omega
 · have:=List.pairwise_iff_getElem.1 h.1 i j hi hj (by omega)
   omega
theorem aLG {l:List (Int × Int)} (h:Led l) (k:Int) :
 (∃A b R,l=A++(k,b)::R∧jY l k=some ((A.length:Int),true)) ∨
 (∃A R,l=A++R∧(∀d∈A,d.1<k)∧(∀d∈R,k<d.1)∧jY l k=some ((A.length:Int),false)):=by
 have hl:=h.len
 obtain⟨i,i1,i2,i3,i4⟩:=bs_l0 (k:=k) (by omega) (aHD h) l.length 0 l.length 0 (nI l.length) (by omega) (by omega) (by omega) rfl rfl (fun j hj h=>by omega) (fun j hj h=>by omega)
 have e0:l=l.take i++l.drop i:=(List.take_append_drop i l).symm
 have elen:(l.take i).length=i:=by simp;omega
 have hA:∀d∈l.take i,d.1<k:=fun d hd=>by
  obtain⟨j,hj⟩:=List.mem_iff_getElem?.1 hd
  rw[List.getElem?_take] at hj
  split at hj
  · obtain⟨hj1,rfl⟩:=List.getElem?_eq_some_iff.1 hj
    exact i3 j hj1 (by assumption)
  · cases hj
 by_cases hi:i<l.length
 rotate_left
 · right
   refine⟨l.take i,l.drop i,e0,hA,fun d hd=>?_,?_⟩
   · rw[List.drop_of_length_le (by omega)] at hd;cases hd
   · have:cT l k=some ((i:Int),false):=by
      rw[cT]
      repeat (first|refine ip0 ?_|refine jn0 ?_|refine(bnd i2).trans ?_|refine el ?_|refine er ?_)
      rfl
     rw[jY,elen]
     repeat (first|refine ip0 ?_|refine jn0 ?_|refine(bnd this).trans ?_|refine el ?_|refine er ?_)
     rfl
 have ed:l.drop i=l[i]::l.drop (i+1):=List.drop_eq_getElem_cons hi
 have hc:=(cmp_ok l[i].1 k).2
 have hb:cT l k=some ((i:Int),eqI (bD l[i].1 k) 0):=by
  rw[cT]
  repeat (first|refine ip0 ?_|refine jn0 ?_|refine(bnd i2).trans ?_|refine(bnd (eJ (l:=l) (i:=i) rfl hi)).trans ?_|refine el ?_|refine er ?_)
  rfl
 by_cases hk:l[i].1=k
 · left
   refine⟨l.take i,l[i].2,l.drop (i+1),?_,?_⟩
   · rw[← hk]
     show l=l.take i++l[i]::l.drop (i+1)
     rw[← ed];exact e0
   · have:eqI (bD l[i].1 k) 0=true:=hc.2 hk
     rw[jY,elen,← this]
     repeat (first|refine ip0 ?_|refine jn0 ?_|refine(bnd hb).trans ?_|refine el ?_|refine er ?_)
     rfl
 · right
   refine⟨l.take i,l.drop i,e0,hA,fun d hd=>?_,?_⟩
   · obtain⟨j,hj⟩:=List.mem_iff_getElem?.1 hd
     rw[List.getElem?_drop] at hj
     obtain⟨hj1,rfl⟩:=List.getElem?_eq_some_iff.1 hj
     have h1:=i4 i hi (Nat.le_refl _)
     have h2:=aHD h i (i+j) hi hj1 (by omega)
     omega
   · have:eqI (bD l[i].1 k) 0=false:=by
      rw[← Bool.not_eq_true];exact fun h=>hk (hc.1 h)
     rw[jY,elen,← this]
     repeat (first|refine ip0 ?_|refine jn0 ?_|refine(bnd hb).trans ?_|refine el ?_|refine er ?_)
     rfl
theorem aPH {A R:List (Int × Int)} {x:Int × Int} {j:Int} (hj:j=(A.length:Int)+1) (hl:A.length+R.length≤1000000):delP (A.length:Int) j (A++x::R)=some (A++R):=by
 unfold delP
 rw[if_pos ⟨by omega,by simp;omega,hj,by simp;omega⟩]
 simp
theorem aLC {A R:List (Int × Int)} {x:Int × Int} (hl:A.length+R.length≤1000000):aFN 16 (A.length:Int) (A++R) [x]=some (A++x::R):=by
 unfold aFN
 rw[if_pos ⟨rfl,by omega,by simp;omega,by simp;omega⟩]
 simp
theorem put_l0 {d:List (Int × Int)} (hd:∀x∈d,0≤x.1∧x.1<64∧InR x.2) (hdl:d.length≤1000000):∀(n i:Nat) (v:Int) (l:List (Int × Int)),d.length - i=n→i≤d.length→v=(i:Int)→Led l →
 ∃r,iK d v l=some r∧Led r∧∀j,nC r j=nC (l++d.drop i) j:=by
 intro n
 induction n with
 | zero =>
  intro i v l hn hi hv h
  refine⟨l,?_,h,fun j=>by rw[List.drop_of_length_le (by omega),List.append_nil]⟩
  rw[kI]
  repeat (first|refine ip0 ?_|refine jn0 ?_|refine el ?_|refine er ?_)
  rfl
 | succ n ih =>
  intro i v l hn hi hv h
  have hlt:i<d.length:=by omega
  obtain⟨k1,k2,k3⟩:=hd d[i] (List.getElem_mem hlt)
  have hll:=h.len
  have hv1:aH .i64 v 1=((i+1:Nat):Int):=sd
  rcases aLG h d[i].1 with⟨A,b,R,rfl,hf⟩ | ⟨A,R,rfl,hA,hR,hf⟩
  · obtain⟨h1,hA,hR⟩:=led_less h
    have hal:A.length+R.length≤1000:=by simp at hll;omega
    obtain⟨q1,q2⟩:=aP2 h1 ⟨k1,k2⟩ (aKP (b+d[i].2)) hA hR
    obtain⟨r,p1,p2,p3⟩:=ih (i+1) (aH .i64 v 1) (put1 A R d[i].1 (W64 (b+d[i].2))) (by omega) (by omega) hv1 q1
    refine⟨r,?_,p2,fun j=>(p3 j).trans ?_⟩
    · have g1:=yC A R (d[i].1,b)
      have g2:=yC A R (d[i].1,aH .i64 b d[i].2)
      have g3:=aKB A R (d[i].1,b) (d[i].1,aH .i64 b d[i].2)
      have hin:inI (A.length:Int) (A++(d[i].1,b)::R).length=true:=by rw[aJD];simp;omega
      unfold put1 at p1
      by_cases hz:W64 (b+d[i].2)=0
      · rw[if_pos hz] at p1
        have hz2:aH .i64 b d[i].2=0:=hz
        have hdel:m8 (A.length:Int) (aH .i64 (A.length:Int) 1) (A++(d[i].1,aH .i64 b d[i].2)::R)=some (A++R):=by
         rw[m8];exact aPH (by rw[zX (by omega)]) (by omega)
        rw[kI]
        refine(if_pos sd).trans ?_
        refine(if_pos sd).trans ?_
        refine(bnd (eJ hv hlt)).trans ?_
        refine(bnd hf).trans ?_
        refine(if_pos rfl).trans ?_
        refine(if_pos hin).trans ?_
        simp only[rU]
        refine(bnd g1).trans ?_
        simp only[g3]
        refine(bnd g2).trans ?_
        refine(if_pos (dM.2 hz2)).trans ?_
        refine(bnd hdel).trans ?_
        exact p1
      · rw[if_neg hz] at p1
        rw[kI]
        refine(if_pos sd).trans ?_
        refine(if_pos sd).trans ?_
        refine(bnd (eJ hv hlt)).trans ?_
        refine(bnd hf).trans ?_
        refine(if_pos rfl).trans ?_
        refine(if_pos hin).trans ?_
        simp only[rU]
        refine(bnd g1).trans ?_
        simp only[g3]
        refine(bnd g2).trans ?_
        refine(if_neg (fun hh=>hz (dM.1 hh))).trans ?_
        exact p1
    · unfold nC
      rw[gG,gG,q2,gG,gG,nZ,List.drop_eq_getElem_cons hlt,nZ]
      refine wH ?_
      have:=aDN (b+d[i].2)
      simp only[W64]
      split
      · rename_i hk
        omega
      · omega
  · have hal:A.length+R.length≤1000:=by simp at hll;omega
    have hb0:aH .i64 0 d[i].2=d[i].2:=by rw[zX (by simp only[InR] at k3;omega)];omega
    obtain⟨q1,q2⟩:=aP2 h ⟨k1,k2⟩ k3 hA hR
    obtain⟨r,p1,p2,p3⟩:=ih (i+1) (aH .i64 v 1) (put1 A R d[i].1 d[i].2) (by omega) (by omega) hv1 q1
    refine⟨r,?_,p2,fun j=>(p3 j).trans ?_⟩
    · have g1:=yC A R (d[i].1,(0:Int))
      have g2:=yC A R (d[i].1,d[i].2)
      have g3:=aKB A R (d[i].1,(0:Int)) (d[i].1,d[i].2)
      have hin:inI (A.length:Int) (A++(d[i].1,(0:Int))::R).length=true:=by rw[aJD];simp;omega
      have hins:kM (A.length:Int) (A++R) [(d[i].1,0)]=some (A++(d[i].1,0)::R):=by
       rw[kM];exact aLC (by omega)
      unfold put1 at p1
      by_cases hz:d[i].2=0
      · rw[if_pos hz] at p1
        have hdel:k8 (A.length:Int) (aH .i64 (A.length:Int) 1) (A++(d[i].1,d[i].2)::R)=some (A++R):=by
         rw[k8];exact aPH (by rw[zX (by omega)]) (by omega)
        rw[kI]
        refine(if_pos sd).trans ?_
        refine(if_pos sd).trans ?_
        refine(bnd (eJ hv hlt)).trans ?_
        refine(bnd hf).trans ?_
        refine(if_neg (by simp)).trans ?_
        refine(bnd hins).trans ?_
        refine(if_pos hin).trans ?_
        simp only[rU]
        refine(bnd g1).trans ?_
        simp only[hb0,g3]
        refine(bnd g2).trans ?_
        refine(if_pos (dM.2 hz)).trans ?_
        refine(bnd hdel).trans ?_
        exact p1
      · rw[if_neg hz] at p1
        rw[kI]
        refine(if_pos sd).trans ?_
        refine(if_pos sd).trans ?_
        refine(bnd (eJ hv hlt)).trans ?_
        refine(bnd hf).trans ?_
        refine(if_neg (by simp)).trans ?_
        refine(bnd hins).trans ?_
        refine(if_pos hin).trans ?_
        simp only[rU]
        refine(bnd g1).trans ?_
        simp only[hb0,g3]
        refine(bnd g2).trans ?_
        refine(if_neg (fun hh=>hz (dM.1 hh))).trans ?_
        exact p1
    · unfold nC
      rw[gG,gG,q2,List.drop_eq_getElem_cons hlt,nZ,gG]
      refine wH ?_
      omega
theorem put_t {l d:List (Int × Int)} (h:Led l) (hd:∀x∈d,0≤x.1∧x.1<64∧InR x.2) (hdl:d.length≤100000):fH l d=some (ofL (l++d),0):=by
 have hl:=h.len
 obtain⟨r,p1,p2,p3⟩:=put_l0 hd (by omega) _ 0 0 l rfl (by omega) rfl h
 rw[List.drop_zero] at p3
 have hk:l7 d:=fun x hx=>(hd x hx).2.1
 rw[← p2.eq p3,fH]
 repeat (first|refine ip0 ?_|refine jn0 ?_|refine(bnd (hZ l (by omega))).trans ?_|refine(bnd (aHH h)).trans ?_|refine(bnd ((vR (by omega)).1 hk)).trans ?_|refine(bnd p1).trans ?_|refine el ?_|refine er ?_)
 rfl
def aA4:List (Int × Int)→Int→Int
 | [],_=>0
 | d::l,k=>if d.1=k then d.2 else aA4 l k
theorem get_l0 {l:List (Int × Int)} {k:Int} (hl:l.length≤100000):∀(d i:Nat) (v:Int),l.length - i=d→i≤l.length→v=(i:Int)→(∃q,mV l k v=some q∧Sum.elim (fun _=>0) (fun x=>x) q=aA4 (l.drop i) k):=by
 intro d
 induction d with
 | zero =>
  intro i v hd hi hv
  refine⟨.inl (),?_,by rw[List.drop_of_length_le (by omega)];rfl⟩
  rw[pS]
  repeat (first|refine ip0 ?_|refine jn0 ?_|refine el ?_|refine er ?_)
  rfl
 | succ d ih =>
  intro i v hd hi hv
  have hlt:i<l.length:=by omega
  have ed:l.drop i=l[i]::l.drop (i+1):=List.drop_eq_getElem_cons hlt
  rw[ed]
  by_cases hk:l[i].1=k
  · refine⟨.inr l[i].2,?_,by simp [aA4,hk]⟩
    rw[pS]
    repeat (first|refine ip0 ?_|refine jn0 ?_|refine(bnd (eJ hv hlt)).trans ?_|refine el ?_|refine er ?_)
    rfl
  · obtain⟨q,q1,q2⟩:=ih (i+1) (aH .i64 v 1) (by omega) (by omega) sd
    refine⟨q,?_,by rw[q2];simp [aA4,hk]⟩
    rw[pS]
    repeat (first|refine ip0 ?_|refine jn0 ?_|refine(bnd (eJ hv hlt)).trans ?_|refine el ?_|refine er ?_)
    exact q1
theorem get_ok {l:List (Int × Int)} (hl:l.length≤100000) (k:Int):mN l k=some (aA4 l k):=by
 obtain⟨q,q1,q2⟩:=get_l0 (k:=k) hl _ 0 0 rfl (by omega) rfl
 rw[mN]
 rw[List.drop_zero] at q2
 rw[← q2]
 refine(bnd q1).trans ?_
 cases q<;>rfl
theorem rget_l0 {l:List (Int × Int)} {k:Int} (hl:l.length≤100000):∀(d i:Nat) (v:Int),l.length - i=d→i≤l.length→v=(i:Int)→(∃q,oG l k v=some q∧Sum.elim (fun _=>0) (fun x=>x) q=aA4 (l.drop i) k):=by
 intro d
 induction d with
 | zero =>
  intro i v hd hi hv
  refine⟨.inl (),?_,by rw[List.drop_of_length_le (by omega)];rfl⟩
  rw[qP]
  repeat (first|refine ip0 ?_|refine jn0 ?_|refine el ?_|refine er ?_)
  rfl
 | succ d ih =>
  intro i v hd hi hv
  have hlt:i<l.length:=by omega
  have ed:l.drop i=l[i]::l.drop (i+1):=List.drop_eq_getElem_cons hlt
  rw[ed]
  by_cases hk:l[i].1=k
  · refine⟨.inr l[i].2,?_,by simp [aA4,hk]⟩
    rw[qP]
    repeat (first|refine ip0 ?_|refine jn0 ?_|refine(bnd (eJ hv hlt)).trans ?_|refine el ?_|refine er ?_)
    rfl
  · obtain⟨q,q1,q2⟩:=ih (i+1) (aH .i64 v 1) (by omega) (by omega) sd
    refine⟨q,?_,by rw[q2];simp [aA4,hk]⟩
    rw[qP]
    repeat (first|refine ip0 ?_|refine jn0 ?_|refine(bnd (eJ hv hlt)).trans ?_|refine el ?_|refine er ?_)
    exact q1
theorem rget_ok {l:List (Int × Int)} (hl:l.length≤100000) (k:Int):sS l k=some (aA4 l k):=by
 obtain⟨q,q1,q2⟩:=rget_l0 (k:=k) hl _ 0 0 rfl (by omega) rfl
 rw[sS]
 rw[List.drop_zero] at q2
 rw[← q2]
 refine(bnd q1).trans ?_
 cases q<;>rfl
theorem aGO:∀{l:List (Int × Int)},Led l→∀k,aA4 l k=nC l k:=by
 intro l h k
 by_cases hk:∃d∈l,d.1=k
 · obtain⟨d,hd,rfl⟩:=hk
   rw[(h.mem.1 hd).2.1]
   have h1:=h.1
   clear h
   induction l with
   | nil=>cases hd
   | cons e l ih =>
    rw[List.pairwise_cons] at h1
    rcases List.mem_cons.1 hd with rfl | hd
    · simp [aA4]
    · have:=h1.1 d hd
      rw[aA4,if_neg (by omega)]
      exact ih hd h1.2
 · have h1:∀d∈l,d.1≠k:=fun d hd hh=>hk ⟨d,hd,hh⟩
   unfold nC
   rw[aDW h1]
   refine Eq.trans ?_ w64_0.symm
   clear hk h
   induction l with
   | nil=>rfl
   | cons e l ih =>
    rw[aA4,if_neg (h1 e (by simp))]
    exact ih fun d hd=>h1 d (by simp [hd])
end Go.Ws.L8
