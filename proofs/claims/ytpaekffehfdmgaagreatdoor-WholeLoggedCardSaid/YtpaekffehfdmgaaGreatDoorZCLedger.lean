/-
  Ledgers, plain: what the functions make of them.
  Conditions: none.
-/
import Derived.Test.YtpaekffehfdmgaaGreatDoorZPlain
import Derived.Test.YtpaekffehfdmgaaGreatDoorZCLedT
import Derived.KernelRfl
set_option linter.unusedVariables false
set_option linter.unusedSimpArgs false
namespace Go.Ws.L8
open Go.Ws
set_option linter.unusedVariables false
set_option linter.unusedSimpArgs false
set_option maxHeartbeats 1000000

theorem gN (l:List (Int × Int)) (h:l.length≤1000000):k8 l=some ():=by
 rw[k8,jZ]
 repeat (first|refine ip0 ?_|refine jn0 ?_)
 rfl
def okAt (l:List (Int × Int)) (j:Nat):Prop:=∀d,l[j]? = some d→d.1<64∧d.2≠0∧(0<j→∀e,l[j - 1]? = some e→e.1<d.1)
def aHN (l:List (Int × Int)) (i:Nat):Prop:=∀j,i≤j→okAt l j
theorem aSH {l:List (Int × Int)} {i:Nat} (h:l.length≤i):aHN l i:=fun j hj d hd=>by
 rw[List.getElem?_eq_none (by omega)] at hd;cases hd
theorem aPF {l:List (Int × Int)} {i:Nat}:aHN l i↔okAt l i∧aHN l (i+1):=by
 constructor
 · exact fun h=>⟨h i (Nat.le_refl _),fun j hj=>h j (by omega)⟩
 · rintro⟨h1,h2⟩ j hj
   by_cases e:j=i
   · subst e;exact h1
   · exact h2 j (by omega)
theorem aQY {l : List (Int × Int)} {i : Nat} (h : i < l.length) : okAt l i ↔ l[i].1 < 64 ∧ l[i].2 ≠ 0 ∧ (∀ h0 : 0 < i, (l[i - 1]'(by omega)).1 < l[i].1) := by
 unfold okAt
 constructor
 · intro hh
   obtain⟨h1,h2,h3⟩:=hh _ (List.getElem?_eq_getElem h)
   exact⟨h1,h2,fun h0=>h3 h0 _ (List.getElem?_eq_getElem _)⟩
 · rintro⟨h1,h2,h3⟩ d hd
   rw[List.getElem?_eq_getElem h] at hd
   cases hd
   refine⟨h1,h2,fun h0 e he=>?_⟩
   rw[List.getElem?_eq_getElem (show i - 1<l.length by omega)] at he
   cases he
   exact h3 h0
abbrev WfL (l:List (Int × Int)):Prop:=∀d∈l,0≤d.1∧InR d.2
theorem led_iff {l:List (Int × Int)} (hw:WfL l):Led l↔aHN l 0:=by
 constructor
 · rintro⟨h1,h2⟩ j _ d hd
   obtain⟨hj,he⟩:=List.getElem?_eq_some_iff.1 hd
   obtain⟨k1,k2,k3,k4⟩:=h2 d (List.mem_of_getElem? hd)
   refine⟨k2,k3,fun h0 e he2=>?_⟩
   obtain⟨hj2,he2⟩:=List.getElem?_eq_some_iff.1 he2
   rw[List.pairwise_iff_getElem] at h1
   have:=h1 (j - 1) j hj2 hj (by omega)
   rw[he,he2] at this
   exact this
 · intro h
   have step:∀i (hi:i+1<l.length),l[i].1<l[i+1].1:=fun i hi=>by
    have:=(aQY hi).1 (h (i+1) (Nat.zero_le _))
    exact this.2.2 (by omega)
   refine⟨?_,fun d hd=>?_⟩
   · rw[List.pairwise_iff_getElem]
     intro i j hi hj hij
     obtain⟨k,rfl⟩:∃k,j=i+1+k:=⟨j - i - 1,by omega⟩
     induction k with
     | zero=>exact step i hj
     | succ k ih =>
      have:=ih (by omega) (by omega)
      have:=step (i+1+k) (by omega)
      have e:i+1+(k+1)=i+1+k+1:=by omega
      simp only[e]
      omega
   · obtain⟨j,hj⟩:=List.mem_iff_getElem?.1 hd
     obtain⟨h1,h2,_⟩:=h j (Nat.zero_le _) d hj
     exact⟨(hw d hd).1,h1,h2,(hw d hd).2⟩
theorem aIN {l:List (Int × Int)} (hl:l.length≤1000000):∀(d i:Nat) (v:Int),l.length - i=d→i≤l.length→v=(i:Int)→(aHN l i→dW l v=some (.inl ()))∧(¬aHN l i→dW l v=some (.inr false)):=by
 intro d
 induction d with
 | zero =>
  intro i v hd hi hv
  refine⟨fun _=>?_,fun h=>absurd (aSH (by omega)) h⟩
  rw[hI]
  repeat (first|refine ip0 ?_|refine jn0 ?_|refine el ?_|refine er ?_)
  rfl
 | succ d ih =>
  intro i v hd hi hv
  have hlt:i<l.length:=by omega
  obtain⟨q1,q2⟩:=ih (i+1) (aH .i64 v 1) (by omega) (by omega) sd
  rw[aPF,aQY hlt]
  by_cases h1:l[i].1<64
  rotate_left
  · refine⟨fun h=>absurd h.1.1 h1,fun _=>?_⟩
    rw[hI]
    repeat (first|refine ip0 ?_|refine jn0 ?_|refine(bnd (kG hv hlt)).trans ?_|refine el ?_|refine er ?_)
    rfl
  by_cases h2:l[i].2=0
  · refine⟨fun h=>absurd h2 h.1.2.1,fun _=>?_⟩
    rw[hI]
    repeat (first|refine ip0 ?_|refine jn0 ?_|refine(bnd (kG hv hlt)).trans ?_|refine el ?_|refine er ?_)
    rfl
  by_cases h0:0<i
  rotate_left
  · have e:dW l v=dW l (aH .i64 v 1):=by
     rw[hI]
     repeat (first|refine ip0 ?_|refine jn0 ?_|refine(bnd (kG hv hlt)).trans ?_|refine el ?_|refine er ?_)
     rfl
    rw[e]
    exact⟨fun h=>q1 h.2,fun h=>q2 fun hh=>h ⟨⟨h1,h2,fun h=>absurd h h0⟩,hh⟩⟩
  have g2:=kG (l:=l) (q:=vS .i64 v 1) (i:=i - 1) (by rw[aJO (by omega)];omega) (by omega)
  by_cases h3 : (l[i - 1]'(by omega)).1 < l[i].1
  · have e:dW l v=dW l (aH .i64 v 1):=by
     rw[hI]
     repeat (first|refine ip0 ?_|refine jn0 ?_|refine(bnd (kG hv hlt)).trans ?_|refine(bnd g2).trans ?_|refine el ?_|refine er ?_)
     rfl
    rw[e]
    exact⟨fun h=>q1 h.2,fun h=>q2 fun hh=>h ⟨⟨h1,h2,fun _=>h3⟩,hh⟩⟩
  · refine⟨fun h=>absurd (h.1.2.2 h0) h3,fun _=>?_⟩
    rw[hI]
    repeat (first|refine ip0 ?_|refine jn0 ?_|refine(bnd (kG hv hlt)).trans ?_|refine(bnd g2).trans ?_|refine el ?_|refine er ?_)
    rfl
theorem aJR {l:List (Int × Int)} (h:Led l):oF l=some true:=by
 have hw:WfL l:=fun d hd=>⟨(h.2 d hd).1,(h.2 d hd).2.2.2⟩
 have hl:=h.len
 rw[oF]
 repeat (first|refine ip0 ?_|refine jn0 ?_|refine(bnd ((aIN (by omega) _ 0 0 rfl (by omega) rfl).1 ((led_iff hw).1 h))).trans ?_|refine el ?_|refine er ?_)
 rfl
def nO (l:List (Int × Int)):Prop:=∀d∈l,d.1<64
theorem aBH {l:List (Int × Int)} {i:Nat} (h:i<l.length):nO (l.drop i)↔l[i].1<64∧nO (l.drop (i+1)):=by
 rw[List.drop_eq_getElem_cons h]
 unfold nO
 simp only[List.mem_cons,forall_eq_or_imp]
theorem aSP {l:List (Int × Int)} (hl:l.length≤1000000):∀(d i:Nat) (v:Int),l.length - i=d→i≤l.length→v=(i:Int) →
 (nO (l.drop i)→fQ l v=some (.inl ()))∧(¬nO (l.drop i)→∃j:Int,0≤j∧fQ l v=some (.inr j)):=by
 intro d
 induction d with
 | zero =>
  intro i v hd hi hv
  rw[List.drop_of_length_le (by omega)]
  refine⟨fun _=>?_,fun h=>absurd (fun x hx=>by cases hx) h⟩
  rw[iL]
  repeat (first|refine ip0 ?_|refine jn0 ?_|refine el ?_|refine er ?_)
  rfl
 | succ d ih =>
  intro i v hd hi hv
  have hlt:i<l.length:=by omega
  rw[aBH hlt]
  obtain⟨q1,q2⟩:=ih (i+1) (aH .i64 v 1) (by omega) (by omega) sd
  by_cases hw:l[i].1<64
  · skip
    refine⟨fun h=>?_,fun h=>?_⟩
    · rw[iL]
      repeat (first|refine ip0 ?_|refine jn0 ?_|refine(bnd (kG hv hlt)).trans ?_|refine el ?_|refine er ?_)
      exact q1 h.2
    · obtain⟨j,j0,hj⟩:=q2 (fun hh=>h ⟨hw,hh⟩)
      refine⟨j,j0,?_⟩
      rw[iL]
      repeat (first|refine ip0 ?_|refine jn0 ?_|refine(bnd (kG hv hlt)).trans ?_|refine el ?_|refine er ?_)
      exact hj
  · skip
    refine⟨fun h=>absurd h.1 hw,fun _=>⟨v,by omega,?_⟩⟩
    rw[iL]
    repeat (first|refine ip0 ?_|refine jn0 ?_|refine(bnd (kG hv hlt)).trans ?_|refine el ?_|refine er ?_)
    rfl
theorem xD {l:List (Int × Int)} (hl:l.length≤1000000):(nO l→eK l=some false)∧(¬nO l→eK l=some true):=by
 obtain⟨q1,q2⟩:=aSP hl _ 0 0 rfl (by omega) rfl
 rw[List.drop_zero] at q1 q2
 refine⟨fun h=>?_,fun h=>?_⟩
 · have:gB l=some (-1):=by
    rw[gB]
    repeat (first|refine ip0 ?_|refine jn0 ?_|refine(bnd (q1 h)).trans ?_|refine el ?_|refine er ?_)
    rfl
   rw[eK]
   repeat (first|refine ip0 ?_|refine jn0 ?_|refine(bnd this).trans ?_|refine el ?_|refine er ?_)
   rfl
 · obtain⟨j,j0,hj⟩:=q2 h
   have:gB l=some j:=by
    rw[gB]
    repeat (first|refine ip0 ?_|refine jn0 ?_|refine(bnd hj).trans ?_|refine el ?_|refine er ?_)
    rfl
   rw[eK]
   repeat (first|refine ip0 ?_|refine jn0 ?_|refine(bnd this).trans ?_|refine el ?_|refine er ?_)
   exact congrArg some sd
theorem cmp_ok (a k:Int):(ltI (bC a k) 0=true↔a<k)∧(eqI (bC a k) 0=true↔a=k):=by
 have hn:∀x:Int,iS x=false:=fun x=>by unfold iS;rw[aKW];rfl
 unfold bC
 rw[hn,hn]
 simp only[Bool.false_eq_true,if_false]
 by_cases h1:a<k
 · rw[if_pos (qI.2 h1)];constructor
   · simp [ltI,h1]
   · simp [eqI];omega
 · rw[if_neg (fun h=>h1 (qI.1 h))]
   by_cases h2:k<a
   · rw[if_pos (qI.2 h2)];constructor
     · simp [ltI,h1]
     · simp [eqI];omega
   · rw[if_neg (fun h=>h2 (qI.1 h))];constructor
     · simp [ltI,h1]
     · simp [eqI];omega
theorem bs_l0 {l:List (Int × Int)} {k:Int} (hl:l.length≤1000000) (hs:∀i j (hi:i<l.length) (hj:j<l.length),i≤j→l[i].1≤l[j].1):∀(d a b:Nat) (v w:Int),b - a≤d→a≤b→b≤l.length→v=(a:Int)→w=(b:Int) →
 (∀j (hj:j<l.length),j<a→l[j].1<k)→(∀j (hj:j<l.length),b≤j→k≤l[j].1) →
 ∃i:Nat,i≤l.length∧cZ l k v w=some (i:Int)∧(∀j (hj:j<l.length),j<i→l[j].1<k)∧(∀j (hj:j<l.length),i≤j→k≤l[j].1):=by
 intro d
 induction d with
 | zero =>
  intro a b v w hd hab hb hv hw h1 h2
  obtain rfl:a=b:=by omega
  refine⟨a,by omega,?_,h1,h2⟩
  rw[eX]
  repeat (first|refine ip0 ?_|refine jn0 ?_|refine el ?_|refine er ?_)
  rw[hv]
 | succ d ih =>
  intro a b v w hd hab hb hv hw h1 h2
  by_cases hlt:a<b
  rotate_left
  · obtain rfl:a=b:=by omega
    refine⟨a,by omega,?_,h1,h2⟩
    rw[eX]
    repeat (first|refine ip0 ?_|refine jn0 ?_|refine el ?_|refine er ?_)
    rw[hv]
  subst hv hw
  have hm:=mid64 (a:=a) (b:=b) (by omega)
  obtain⟨m,hme⟩:∃m,m=(a+b) / 2:=⟨_,rfl⟩
  rw[← hme] at hm
  have hml:m<l.length:=by omega
  have hc:=(cmp_ok l[m].1 k).1
  by_cases hk:l[m].1<k
  · obtain⟨i,i1,i2,i3,i4⟩:=ih (m+1) b (aH .i64 (m:Int) 1) b (by omega) (by omega) hb sd rfl (fun j hj hjm=>by have:=hs j m hj hml (by omega);omega) h2
    refine⟨i,i1,?_,i3,i4⟩
    have hc2:ltI (bC l[m].1 k) 0=true:=hc.2 hk
    rw[eX]
    simp only[hm]
    repeat (first|refine ip (by first|with_reducible rfl | assumption | (simp (disch:=omega) only[ws,wl,wb,hc2]<;>omega)|omega) ?_|refine jn (by first|with_reducible rfl | assumption | (simp (disch:=omega) only[ws,wl,wb,hc2]<;>omega)|omega) ?_|refine(bnd (kG (l:=l) (i:=m) rfl hml)).trans ?_|refine el ?_|refine er ?_)
    exact i2
  · obtain⟨i,i1,i2,i3,i4⟩:=ih a m a m (by omega) (by omega) (by omega) rfl rfl h1 (fun j hj hjm=>by have:=hs m j hml hj hjm;omega)
    refine⟨i,i1,?_,i3,i4⟩
    have hc2:¬ltI (bC l[m].1 k) 0=true:=fun h=>hk (hc.1 h)
    rw[eX]
    simp only[hm]
    repeat (first|refine ip (by first|with_reducible rfl | assumption | (simp (disch:=omega) only[ws,wl,wb,hc2]<;>omega)|omega) ?_|refine jn (by first|with_reducible rfl | assumption | (simp (disch:=omega) only[ws,wl,wb,hc2]<;>omega)|omega) ?_|refine(bnd (kG (l:=l) (i:=m) rfl hml)).trans ?_|refine el ?_|refine er ?_)
    exact i2
theorem aK0 {l:List (Int × Int)} (h:Led l):∀i j (hi:i<l.length) (hj:j<l.length),i≤j→l[i].1≤l[j].1:=by
 intro i j hi hj hij
 by_cases e:i=j
 · subst e;omega
 · have:=List.pairwise_iff_getElem.1 h.1 i j hi hj (by omega)
   omega
theorem aN3 {l:List (Int × Int)} (h:Led l) (k:Int) :
 (∃A b R,l=A++(k,b)::R∧j8 l k=some ((A.length:Int),true)) ∨
 (∃A R,l=A++R∧(∀d∈A,d.1<k)∧(∀d∈R,k<d.1)∧j8 l k=some ((A.length:Int),false)):=by
 have hl:=h.len
 obtain⟨i,i1,i2,i3,i4⟩:=bs_l0 (k:=k) (by omega) (aK0 h) l.length 0 l.length 0 (nI l.length) (by omega) (by omega) (by omega) rfl rfl (fun j hj h=>by omega) (fun j hj h=>by omega)
 have e0:l=l.take i++l.drop i:=(List.take_append_drop i l).symm
 have elen:(l.take i).length=i:=by simp;omega
 have hA:∀d∈l.take i,d.1<k:=fun d hd=>by
  obtain⟨j,hj⟩:=List.mem_iff_getElem?.1 hd
  rw[List.getElem?_take] at hj
  split at hj
  · obtain⟨hj1,rfl⟩:=List.getElem?_eq_some_iff.1 hj
    exact i3 j hj1 (by assumption)
  · cases hj
 by_cases hi:i<l.length
 rotate_left
 · right
   refine⟨l.take i,l.drop i,e0,hA,fun d hd=>?_,?_⟩
   · rw[List.drop_of_length_le (by omega)] at hd;cases hd
   · have:cS l k=some ((i:Int),false):=by
      rw[cS]
      repeat (first|refine ip0 ?_|refine jn0 ?_|refine(bnd i2).trans ?_)
      rfl
     rw[j8,elen]
     repeat (first|refine ip0 ?_|refine jn0 ?_|refine(bnd this).trans ?_)
     rfl
 have ed:l.drop i=l[i]::l.drop (i+1):=List.drop_eq_getElem_cons hi
 have hc:=(cmp_ok l[i].1 k).2
 have hb:cS l k=some ((i:Int),eqI (bC l[i].1 k) 0):=by
  rw[cS]
  repeat (first|refine ip0 ?_|refine jn0 ?_|refine(bnd i2).trans ?_|refine(bnd (kG (l:=l) (i:=i) rfl hi)).trans ?_)
  rfl
 by_cases hk:l[i].1=k
 · left
   refine⟨l.take i,l[i].2,l.drop (i+1),?_,?_⟩
   · rw[← hk]
     show l=l.take i++l[i]::l.drop (i+1)
     rw[← ed];exact e0
   · have:eqI (bC l[i].1 k) 0=true:=hc.2 hk
     rw[j8,elen,← this]
     repeat (first|refine ip0 ?_|refine jn0 ?_|refine(bnd hb).trans ?_)
     rfl
 · right
   refine⟨l.take i,l.drop i,e0,hA,fun d hd=>?_,?_⟩
   · obtain⟨j,hj⟩:=List.mem_iff_getElem?.1 hd
     rw[List.getElem?_drop] at hj
     obtain⟨hj1,rfl⟩:=List.getElem?_eq_some_iff.1 hj
     have h1:=i4 i hi (Nat.le_refl _)
     have h2:=aK0 h i (i+j) hi hj1 (by omega)
     omega
   · have:eqI (bC l[i].1 k) 0=false:=by
      rw[← Bool.not_eq_true];exact fun h=>hk (hc.1 h)
     rw[j8,elen,← this]
     repeat (first|refine ip0 ?_|refine jn0 ?_|refine(bnd hb).trans ?_)
     rfl
theorem aTK {A R:List (Int × Int)} {x:Int × Int} {j:Int} (hj:j=(A.length:Int)+1) (hl:A.length+R.length≤1000000):delP (A.length:Int) j (A++x::R)=some (A++R):=by
 unfold delP
 rw[if_pos ⟨by omega,by simp;omega,hj,by simp;omega⟩]
 simp
theorem aOY {A R:List (Int × Int)} {x:Int × Int} (hl:A.length+R.length≤1000000):aIQ 16 (A.length:Int) (A++R) [x]=some (A++x::R):=by
 unfold aIQ
 rw[if_pos ⟨rfl,by omega,by simp;omega,by simp;omega⟩]
 simp
theorem put_l0 {d:List (Int × Int)} (hd:∀x∈d,0≤x.1∧x.1<64∧InR x.2) (hdl:d.length≤1000000):∀(n i:Nat) (v:Int) (l:List (Int × Int)),d.length - i=n→i≤d.length→v=(i:Int)→Led l →
 ∃r,iW d v l=some r∧Led r∧∀j,nP r j=nP (l++d.drop i) j:=by
 intro n
 induction n with
 | zero =>
  intro i v l hn hi hv h
  refine⟨l,?_,h,fun j=>by rw[List.drop_of_length_le (by omega),List.append_nil]⟩
  rw[kH]
  repeat (first|refine ip0 ?_|refine jn0 ?_|refine el ?_|refine er ?_)
  rfl
 | succ n ih =>
  intro i v l hn hi hv h
  have hlt:i<d.length:=by omega
  obtain⟨k1,k2,k3⟩:=hd d[i] (List.getElem_mem hlt)
  have hll:=h.len
  have hv1:aH .i64 v 1=((i+1:Nat):Int):=sd
  rcases aN3 h d[i].1 with⟨A,b,R,rfl,hf⟩ | ⟨A,R,rfl,hA,hR,hf⟩
  · obtain⟨h1,hA,hR⟩:=led_less h
    have hal:A.length+R.length≤1000:=by simp at hll;omega
    obtain⟨q1,q2⟩:=aTQ h1 ⟨k1,k2⟩ (aOZ (b+d[i].2)) hA hR
    obtain⟨r,p1,p2,p3⟩:=ih (i+1) (aH .i64 v 1) (put1 A R d[i].1 (W64 (b+d[i].2))) (by omega) (by omega) hv1 q1
    refine⟨r,?_,p2,fun j=>(p3 j).trans ?_⟩
    · have g1:=aFA A R (d[i].1,b)
      have g2:=aFA A R (d[i].1,aH .i64 b d[i].2)
      have g3:=aO7 A R (d[i].1,b) (d[i].1,aH .i64 b d[i].2)
      have hin:inI (A.length:Int) (A++(d[i].1,b)::R).length=true:=by rw[aO2];simp;omega
      unfold put1 at p1
      by_cases hz:W64 (b+d[i].2)=0
      · rw[if_pos hz] at p1
        have hz2:aH .i64 b d[i].2=0:=hz
        have hdel:mY (A.length:Int) (aH .i64 (A.length:Int) 1) (A++(d[i].1,aH .i64 b d[i].2)::R)=some (A++R):=by
         rw[mY];exact aTK (by rw[qW (by omega)]) (by omega)
        rw[kH]
        refine(if_pos sd).trans ?_
        refine(if_pos sd).trans ?_
        refine(bnd (kG hv hlt)).trans ?_
        refine(bnd hf).trans ?_
        refine(if_pos rfl).trans ?_
        refine(if_pos hin).trans ?_
        simp only[pE]
        refine(bnd g1).trans ?_
        simp only[g3]
        refine(bnd g2).trans ?_
        refine(if_pos (jK.2 hz2)).trans ?_
        refine(bnd hdel).trans ?_
        exact p1
      · rw[if_neg hz] at p1
        rw[kH]
        refine(if_pos sd).trans ?_
        refine(if_pos sd).trans ?_
        refine(bnd (kG hv hlt)).trans ?_
        refine(bnd hf).trans ?_
        refine(if_pos rfl).trans ?_
        refine(if_pos hin).trans ?_
        simp only[pE]
        refine(bnd g1).trans ?_
        simp only[g3]
        refine(bnd g2).trans ?_
        refine(if_neg (fun hh=>hz (jK.1 hh))).trans ?_
        exact p1
    · unfold nP
      rw[jX,jX,q2,jX,jX,oJ,List.drop_eq_getElem_cons hlt,oJ]
      refine aCW ?_
      have:=aFJ (b+d[i].2)
      simp only[W64]
      split
      · rename_i hk
        omega
      · omega
  · have hal:A.length+R.length≤1000:=by simp at hll;omega
    have hb0:aH .i64 0 d[i].2=d[i].2:=by rw[qW (by simp only[InR] at k3;omega)];omega
    obtain⟨q1,q2⟩:=aTQ h ⟨k1,k2⟩ k3 hA hR
    obtain⟨r,p1,p2,p3⟩:=ih (i+1) (aH .i64 v 1) (put1 A R d[i].1 d[i].2) (by omega) (by omega) hv1 q1
    refine⟨r,?_,p2,fun j=>(p3 j).trans ?_⟩
    · have g1:=aFA A R (d[i].1,(0:Int))
      have g2:=aFA A R (d[i].1,d[i].2)
      have g3:=aO7 A R (d[i].1,(0:Int)) (d[i].1,d[i].2)
      have hin:inI (A.length:Int) (A++(d[i].1,(0:Int))::R).length=true:=by rw[aO2];simp;omega
      have hins:kN (A.length:Int) (A++R) [(d[i].1,0)]=some (A++(d[i].1,0)::R):=by
       rw[kN];exact aOY (by omega)
      unfold put1 at p1
      by_cases hz:d[i].2=0
      · rw[if_pos hz] at p1
        have hdel:lA (A.length:Int) (aH .i64 (A.length:Int) 1) (A++(d[i].1,d[i].2)::R)=some (A++R):=by
         rw[lA];exact aTK (by rw[qW (by omega)]) (by omega)
        rw[kH]
        refine(if_pos sd).trans ?_
        refine(if_pos sd).trans ?_
        refine(bnd (kG hv hlt)).trans ?_
        refine(bnd hf).trans ?_
        refine(if_neg (by simp)).trans ?_
        refine(bnd hins).trans ?_
        refine(if_pos hin).trans ?_
        simp only[pE]
        refine(bnd g1).trans ?_
        simp only[hb0,g3]
        refine(bnd g2).trans ?_
        refine(if_pos (jK.2 hz)).trans ?_
        refine(bnd hdel).trans ?_
        exact p1
      · rw[if_neg hz] at p1
        rw[kH]
        refine(if_pos sd).trans ?_
        refine(if_pos sd).trans ?_
        refine(bnd (kG hv hlt)).trans ?_
        refine(bnd hf).trans ?_
        refine(if_neg (by simp)).trans ?_
        refine(bnd hins).trans ?_
        refine(if_pos hin).trans ?_
        simp only[pE]
        refine(bnd g1).trans ?_
        simp only[hb0,g3]
        refine(bnd g2).trans ?_
        refine(if_neg (fun hh=>hz (jK.1 hh))).trans ?_
        exact p1
    · unfold nP
      rw[jX,jX,q2,List.drop_eq_getElem_cons hlt,oJ,jX]
      refine aCW ?_
      omega
theorem put_t {l d:List (Int × Int)} (h:Led l) (hd:∀x∈d,0≤x.1∧x.1<64∧InR x.2) (hdl:d.length≤100000):j3 l d=some (ofL (l++d),0):=by
 have hl:=h.len
 obtain⟨r,p1,p2,p3⟩:=put_l0 hd (by omega) _ 0 0 l rfl (by omega) rfl h
 rw[List.drop_zero] at p3
 have hk:nO d:=fun x hx=>(hd x hx).2.1
 rw[← p2.eq p3,j3]
 repeat (first|refine ip0 ?_|refine jn0 ?_|refine(bnd (gN l (by omega))).trans ?_|refine(bnd (aJR h)).trans ?_|refine(bnd ((xD (by omega)).1 hk)).trans ?_|refine(bnd p1).trans ?_)
 rfl
def aHD:List (Int × Int)→Int→Int
 | [],_=>0
 | d::l,k=>if d.1=k then d.2 else aHD l k
theorem get_l0 {l:List (Int × Int)} {k:Int} (hl:l.length≤100000):∀(d i:Nat) (v:Int),l.length - i=d→i≤l.length→v=(i:Int)→(∃q,m5 l k v=some q∧Sum.elim (fun _=>0) (fun x=>x) q=aHD (l.drop i) k):=by
 intro d
 induction d with
 | zero =>
  intro i v hd hi hv
  refine⟨.inl (),?_,by rw[List.drop_of_length_le (by omega)];rfl⟩
  rw[qS]
  repeat (first|refine ip0 ?_|refine jn0 ?_|refine el ?_|refine er ?_)
  rfl
 | succ d ih =>
  intro i v hd hi hv
  have hlt:i<l.length:=by omega
  have ed:l.drop i=l[i]::l.drop (i+1):=List.drop_eq_getElem_cons hlt
  rw[ed]
  by_cases hk:l[i].1=k
  · refine⟨.inr l[i].2,?_,by simp [aHD,hk]⟩
    rw[qS]
    repeat (first|refine ip0 ?_|refine jn0 ?_|refine(bnd (kG hv hlt)).trans ?_|refine el ?_|refine er ?_)
    rfl
  · obtain⟨q,q1,q2⟩:=ih (i+1) (aH .i64 v 1) (by omega) (by omega) sd
    refine⟨q,?_,by rw[q2];simp [aHD,hk]⟩
    rw[qS]
    repeat (first|refine ip0 ?_|refine jn0 ?_|refine(bnd (kG hv hlt)).trans ?_|refine el ?_|refine er ?_)
    exact q1
theorem get_ok {l:List (Int × Int)} (hl:l.length≤100000) (k:Int):oZ l k=some (aHD l k):=by
 obtain⟨q,q1,q2⟩:=get_l0 (k:=k) hl _ 0 0 rfl (by omega) rfl
 rw[oZ]
 rw[List.drop_zero] at q2
 rw[← q2]
 refine(bnd q1).trans ?_
 cases q<;>rfl
theorem getK_led:∀{l:List (Int × Int)},Led l→∀k,aHD l k=nP l k:=by
 intro l h k
 by_cases hk:∃d∈l,d.1=k
 · obtain⟨d,hd,rfl⟩:=hk
   rw[(h.mem.1 hd).2.1]
   have h1:=h.1
   clear h
   induction l with
   | nil=>cases hd
   | cons e l ih =>
    rw[List.pairwise_cons] at h1
    rcases List.mem_cons.1 hd with rfl | hd
    · simp [aHD]
    · have:=h1.1 d hd
      rw[aHD,if_neg (by omega)]
      exact ih hd h1.2
 · have h1:∀d∈l,d.1≠k:=fun d hd hh=>hk ⟨d,hd,hh⟩
   unfold nP
   rw[aFK h1]
   refine Eq.trans ?_ w64_0.symm
   clear hk h
   induction l with
   | nil=>rfl
   | cons e l ih =>
    rw[aHD,if_neg (h1 e (by simp))]
    exact ih fun d hd=>h1 d (by simp [hd])
end Go.Ws.L8
