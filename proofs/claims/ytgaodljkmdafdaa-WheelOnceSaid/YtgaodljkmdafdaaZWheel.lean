/-
  Wheels, plain: what the functions make of them.
  Conditions: none.
-/
import Derived.Test.YtgaodljkmdafdaaZPlain
import Derived.Test.YtgaodljkmdafdaaZWheelT
import Derived.Test.YtgaodljkmdafdaaZWf
import Derived.KernelRfl
set_option linter.unusedVariables false
set_option linter.unusedSimpArgs false
namespace Go.Ws
set_option linter.unusedVariables false
set_option linter.unusedSimpArgs false
set_option maxHeartbeats 1000000
set_option maxRecDepth 100000

theorem clone_ok (l:List Tm) (h:l.length≤1000000):P_slices_Clone l=some ():=by
 rw[P_slices_Clone,P_slices_Clone_1001]
 repeat (first|refine ip0 ?_|refine jn0 ?_|refine el ?_|refine er ?_)
 rfl
theorem cmp_val (a k:Int):cmp_Compare a k=if a<k then -1 else if k<a then 1 else 0:=by
 have hn:∀x:Int,cmp_isNaN x=false:=fun x=>by unfold cmp_isNaN;rw[eqI_self];rfl
 unfold cmp_Compare
 rw[hn,hn]
 simp only[Bool.false_eq_true,if_false,ltI_iff]
theorem cmp_val2 (a k:Int):cmp_Compare_36 a k=if a<k then -1 else if k<a then 1 else 0:=by
 have hn:∀x:Int,cmp_isNaN_40 x=false:=fun x=>by unfold cmp_isNaN_40;rw[eqI_self];rfl
 unfold cmp_Compare_36
 rw[hn,hn]
 simp only[Bool.false_eq_true,if_false,ltI_iff]
theorem or_ok (x y:Int):P_cmp_Or [x,y]=some (if x=0 then y else x):=by
 have g0:([x,y]:List Int)[tN 0]? = some x:=rfl
 have g1:([x,y]:List Int)[tN (iadd .i64 0 1)]? = some y:=rfl
 rw[P_cmp_Or]
 by_cases hx:x=0
 · rw[if_pos hx]
   by_cases hy:y=0
   · have:P_cmp_Or_l0 [x,y] 0=some (.inl ()):=by
      rw[P_cmp_Or_l0_eq]
      repeat (first|refine ip0 ?_|refine jn0 ?_|refine(bnd g0).trans ?_|refine el ?_|refine er ?_)
      rw[P_cmp_Or_l0_eq]
      repeat (first|refine ip0 ?_|refine jn0 ?_|refine(bnd g1).trans ?_|refine el ?_|refine er ?_)
      rw[P_cmp_Or_l0_eq]
      repeat (first|refine ip0 ?_|refine jn0 ?_|refine el ?_|refine er ?_)
      rfl
     repeat (first|refine ip0 ?_|refine jn0 ?_|refine(bnd this).trans ?_|refine el ?_|refine er ?_)
     rw[hy]
   · have:P_cmp_Or_l0 [x,y] 0=some (.inr y):=by
      rw[P_cmp_Or_l0_eq]
      repeat (first|refine ip0 ?_|refine jn0 ?_|refine(bnd g0).trans ?_|refine el ?_|refine er ?_)
      rw[P_cmp_Or_l0_eq]
      repeat (first|refine ip0 ?_|refine jn0 ?_|refine(bnd g1).trans ?_|refine el ?_|refine er ?_)
      rfl
     repeat (first|refine ip0 ?_|refine jn0 ?_|refine(bnd this).trans ?_|refine el ?_|refine er ?_)
     rfl
 · rw[if_neg hx]
   have:P_cmp_Or_l0 [x,y] 0=some (.inr x):=by
    rw[P_cmp_Or_l0_eq]
    repeat (first|refine ip0 ?_|refine jn0 ?_|refine(bnd g0).trans ?_|refine el ?_|refine er ?_)
    rfl
   repeat (first|refine ip0 ?_|refine jn0 ?_|refine(bnd this).trans ?_|refine el ?_|refine er ?_)
   rfl
theorem order_ok (a b:Tm):∃o,P_wheel_order a.1 a.2 b.1 b.2=some o∧(o<0↔ahead a b):=by
 have h:=or_ok (cmp_Compare a.2 b.2) (cmp_Compare_36 a.1 b.1)
 refine⟨if cmp_Compare a.2 b.2=0 then cmp_Compare_36 a.1 b.1 else cmp_Compare a.2 b.2,?_,?_⟩
 · rw[P_wheel_order]
   repeat (first|refine ip0 ?_|refine jn0 ?_|refine(bnd h).trans ?_|refine el ?_|refine er ?_)
   rfl
 · rw[cmp_val,cmp_val2]
   unfold ahead
   (repeat' split)<;>omega
theorem ahead_iff (a b:Tm):ref06_ahead a.1 a.2 b.1 b.2=true↔ahead a b:=by
 unfold ref06_ahead ahead
 by_cases h1:a.2<b.2
 · rw[if_pos (ltI_iff.2 h1)];simp [h1]
 · rw[if_neg (fun h=>h1 (ltI_iff.1 h))]
   by_cases h2:a.2=b.2
   · rw[if_pos (eqI_iff.2 h2),ltI_iff];omega
   · rw[if_neg (fun h=>h2 (eqI_iff.1 h))];simp;omega
def okW (now:Int) (l:List Tm) (i:Nat):Prop:=∀t,l[i]? = some t→now<t.2∧t.2≤1099511627776∧(0<i→∀e,l[i - 1]? = some e→ahead e t)∧(∀j e,j<i→l[j]? = some e→e.1≠t.1)
def allF (p:Nat→Prop) (i:Nat):Prop:=∀j,i≤j→p j
theorem allF_succ {p:Nat→Prop} {i:Nat}:allF p i↔p i∧allF p (i+1):=by
 constructor
 · exact fun h=>⟨h i (Nat.le_refl _),fun j hj=>h j (by omega)⟩
 · rintro⟨h1,h2⟩ j hj
   by_cases e:j=i
   · subst e;exact h1
   · exact h2 j (by omega)
theorem okW_end {now:Int} {l:List Tm} {i:Nat} (h:l.length≤i):allF (okW now l) i:=fun j hj d hd=>by
 rw[List.getElem?_eq_none (by omega)] at hd;cases hd
theorem okW_iff {now : Int} {l : List Tm} {i : Nat} (h : i < l.length) : okW now l i ↔ now < l[i].2 ∧ l[i].2 ≤ 1099511627776 ∧ (∀ h0 : 0 < i, ahead (l[i - 1]'(by omega)) l[i]) ∧ ∀ j (hj : j < i), (l[j]'(by omega)).1 ≠ l[i].1 := by
 unfold okW
 constructor
 · intro hh
   obtain⟨h1,h2,h3,h4⟩:=hh _ (List.getElem?_eq_getElem h)
   exact⟨h1,h2,fun h0=>h3 h0 _ (List.getElem?_eq_getElem _),fun j hj=>h4 j _ hj (List.getElem?_eq_getElem _)⟩
 · rintro⟨h1,h2,h3,h4⟩ d hd
   rw[List.getElem?_eq_getElem h] at hd
   cases hd
   refine⟨h1,h2,fun h0 e he=>?_,fun j e hj he=>?_⟩
   · rw[List.getElem?_eq_getElem (show i - 1<l.length by omega)] at he
     cases he
     exact h3 h0
   · rw[List.getElem?_eq_getElem (show j<l.length by omega)] at he
     cases he
     exact h4 j hj
theorem wl_iff {now:Int} {l:List Tm}:Wl now l↔allF (okW now l) 0:=by
 constructor
 · rintro⟨h1,h2⟩ j _ d hd
   obtain⟨hj,he⟩:=List.getElem?_eq_some_iff.1 hd
   obtain⟨k1,k2⟩:=h2 d (List.mem_of_getElem? hd)
   refine⟨k1,k2,fun h0 e he2=>?_,fun i e hi he2=>?_⟩
   · obtain⟨hj2,he3⟩:=List.getElem?_eq_some_iff.1 he2
     have:=(List.pairwise_iff_getElem.1 h1 (j - 1) j hj2 hj (by omega)).1
     rwa [he,he3] at this
   · obtain⟨hj2,he3⟩:=List.getElem?_eq_some_iff.1 he2
     have:=(List.pairwise_iff_getElem.1 h1 i j hj2 hj hi).2
     rwa [he,he3] at this
 · intro h
   have step:∀i (hi:i+1<l.length),ahead l[i] l[i+1]:=fun i hi=>((okW_iff hi).1 (h (i+1) (Nat.zero_le _))).2.2.1 (by omega)
   refine⟨?_,fun t ht=>?_⟩
   · rw[List.pairwise_iff_getElem]
     intro i j hi hj hij
     refine⟨?_,((okW_iff hj).1 (h j (Nat.zero_le _))).2.2.2 i hij⟩
     obtain⟨k,rfl⟩:∃k,j=i+1+k:=⟨j - i - 1,by omega⟩
     induction k with
     | zero=>exact step i hj
     | succ k ih =>
      have h1:=ih (by omega) (by omega)
      have h2:=step (i+1+k) (by omega)
      have e:i+1+(k+1)=i+1+k+1:=by omega
      simp only[e]
      exact ahead_trans h1 h2
   · obtain⟨j,hj⟩:=List.mem_iff_getElem?.1 ht
     obtain⟨k1,k2,_⟩:=h j (Nat.zero_le _) t hj
     exact⟨k1,k2⟩
theorem pright_l0 {now:Int} {l:List Tm} (hl:l.length≤100000):∀(d i:Nat) (v:Int) (m:List (Int × Unit)),l.length - i=d→i≤l.length→v=(i:Int)→(∀k,mHas m k=true↔∃j,∃e,j<i∧l[j]? = some e∧e.1=k) →
 (allF (okW now l) i→P_wheel_Right_l0 now l v m=some (.inl ()))∧(¬allF (okW now l) i→P_wheel_Right_l0 now l v m=some (.inr false)):=by
 intro d
 induction d with
 | zero =>
  intro i v m hd hi hv hm
  refine⟨fun _=>?_,fun h=>absurd (okW_end (by omega)) h⟩
  rw[P_wheel_Right_l0_eq]
  repeat (first|refine ip0 ?_|refine jn0 ?_|refine el ?_|refine er ?_)
  rfl
 | succ d ih =>
  intro i v m hd hi hv hm
  have hlt:i<l.length:=by omega
  have gi:=List.getElem?_eq_getElem hlt
  obtain⟨q1,q2⟩:=ih (i+1) (iadd .i64 v 1) (mPut m l[i].1 ()) (by omega) (by omega) sd (fun k=>by
   rw[mHas_put,hm k]
   constructor
   · rintro (rfl | ⟨j,e,hj,he,hk⟩)
     · exact⟨i,l[i],by omega,gi,rfl⟩
     · exact⟨j,e,by omega,he,hk⟩
   · rintro⟨j,e,hj,he,hk⟩
     by_cases hji:j=i
     · subst hji
       rw[gi] at he
       cases he
       exact .inl hk.symm
     · exact .inr ⟨j,e,by omega,he,hk⟩)
  rw[allF_succ,okW_iff hlt]
  by_cases hh:mHas m l[i].1=true
  · obtain⟨w,hw⟩:=mHas_get hh
    obtain⟨j,e,hj,he,hk⟩:=(hm _).1 hh
    rw[List.getElem?_eq_getElem (show j<l.length by omega)] at he
    have he2:=Option.some.inj he
    rw[← he2] at hk
    refine⟨fun h=>absurd hk (h.1.2.2.2 j hj),fun _=>?_⟩
    rw[P_wheel_Right_l0_eq]
    repeat (first|refine ip0 ?_|refine jn0 ?_|refine(bnd (geti hv hlt)).trans ?_|refine(bnd hw).trans ?_|refine el ?_|refine er ?_)
    rfl
  have hno : ∀ j (hj : j < i), (l[j]'(by omega)).1 ≠ l[i].1 := fun j hj hk => hh ((hm _).2 ⟨j, _, hj, List.getElem?_eq_getElem _, hk⟩)
  by_cases h1:now<l[i].2
  rotate_left
  · refine⟨fun h=>absurd h.1.1 h1,fun _=>?_⟩
    rw[P_wheel_Right_l0_eq]
    repeat (first|refine ip0 ?_|refine jn0 ?_|refine(bnd (geti hv hlt)).trans ?_|refine el ?_|refine er ?_)
    rfl
  by_cases h2:l[i].2≤1099511627776
  rotate_left
  · refine⟨fun h=>absurd h.1.2.1 h2,fun _=>?_⟩
    rw[P_wheel_Right_l0_eq]
    repeat (first|refine ip0 ?_|refine jn0 ?_|refine(bnd (geti hv hlt)).trans ?_|refine el ?_|refine er ?_)
    rfl
  by_cases h0:0<i
  rotate_left
  · have e:P_wheel_Right_l0 now l v m=P_wheel_Right_l0 now l (iadd .i64 v 1) (mPut m l[i].1 ()):=by
     rw[P_wheel_Right_l0_eq]
     repeat (first|refine ip0 ?_|refine jn0 ?_|refine(bnd (geti hv hlt)).trans ?_|refine el ?_|refine er ?_)
     rfl
    rw[e]
    exact⟨fun h=>q1 h.2,fun h=>q2 fun hh=>h ⟨⟨h1,h2,fun h=>absurd h h0,hno⟩,hh⟩⟩
  have g2:=geti (l:=l) (q:=isub .i64 v 1) (i:=i - 1) (by rw[isub64 (by omega)];omega) (by omega)
  obtain ⟨o, o1, o2⟩ := order_ok (l[i - 1]'(by omega)) l[i]
  by_cases h3 : ahead (l[i - 1]'(by omega)) l[i]
  · have ho:=o2.2 h3
    have e:P_wheel_Right_l0 now l v m=P_wheel_Right_l0 now l (iadd .i64 v 1) (mPut m l[i].1 ()):=by
     rw[P_wheel_Right_l0_eq]
     repeat (first|refine ip0 ?_|refine jn0 ?_|refine(bnd (geti hv hlt)).trans ?_|refine(bnd g2).trans ?_|refine(bnd o1).trans ?_|refine el ?_|refine er ?_)
     rfl
    rw[e]
    exact⟨fun h=>q1 h.2,fun h=>q2 fun hh=>h ⟨⟨h1,h2,fun _=>h3,hno⟩,hh⟩⟩
  · have ho:¬o<0:=fun h=>h3 (o2.1 h)
    refine⟨fun h=>absurd (h.1.2.2.1 h0) h3,fun _=>?_⟩
    rw[P_wheel_Right_l0_eq]
    repeat (first|refine ip0 ?_|refine jn0 ?_|refine(bnd (geti hv hlt)).trans ?_|refine(bnd g2).trans ?_|refine(bnd o1).trans ?_|refine el ?_|refine er ?_)
    rfl
theorem pright_t {now:Int} {l:List Tm} (h:Wh now l):P_wheel_Right now l=some true:=by
 obtain⟨h1,h2,h3⟩:=h
 have q:=(pright_l0 (now:=now) (l:=l) (by omega) _ 0 0 [] rfl (by omega) rfl (fun k=>by simp [mHas,mGet])).1 (wl_iff.1 h3)
 rw[P_wheel_Right]
 repeat (first|refine ip0 ?_|refine jn0 ?_|refine(bnd q).trans ?_|refine el ?_|refine er ?_)
 rfl
theorem pright_f {now:Int} {l:List Tm} (hl:l.length≤100000) (h:¬Wh now l):P_wheel_Right now l=some false:=by
 rw[P_wheel_Right]
 by_cases h1:now<0
 · repeat (first|refine ip0 ?_|refine jn0 ?_|refine el ?_|refine er ?_)
   rfl
 by_cases h2:1099511627776<now
 · repeat (first|refine ip0 ?_|refine jn0 ?_|refine el ?_|refine er ?_)
   rfl
 by_cases h3:1000<l.length
 · repeat (first|refine ip0 ?_|refine jn0 ?_|refine el ?_|refine er ?_)
   rfl
 have q:=(pright_l0 (now:=now) (l:=l) (by omega) _ 0 0 [] rfl (by omega) rfl (fun k=>by simp [mHas,mGet])).2 (fun hh=>h ⟨by omega,by omega,wl_iff.2 hh⟩)
 repeat (first|refine ip0 ?_|refine jn0 ?_|refine(bnd q).trans ?_|refine el ?_|refine er ?_)
 rfl
def idsF (l:List Tm) (t:Tm) (i j:Nat):Prop:=∀e,j<i→l[j]? = some e→e.1≠t.1
theorem rin_l1 {now:Int} {l:List Tm} {t:Tm} {iv:Int} {n:Nat} (hl:l.length≤100000) (hiv:iv=(n:Int)) (hn:n≤l.length):∀(d i:Nat) (v:Int),n - i=d→i≤n→v=(i:Int) →
 (allF (idsF l t n) i→P_ref06_Right_l1 now l t iv v=some (.inl iv))∧(¬allF (idsF l t n) i→P_ref06_Right_l1 now l t iv v=some (.inr false)):=by
 intro d
 induction d with
 | zero =>
  intro i v hd hi hv
  refine⟨fun _=>?_,fun hh=>absurd (fun j hj e hjn he=>by omega) hh⟩
  rw[P_ref06_Right_l1_eq]
  repeat (first|refine ip0 ?_|refine jn0 ?_|refine el ?_|refine er ?_)
  rfl
 | succ d ih =>
  intro i v hd hi hv
  have hlt:i<l.length:=by omega
  obtain⟨q1,q2⟩:=ih (i+1) (iadd .i64 v 1) (by omega) (by omega) sd
  rw[allF_succ]
  by_cases hk:l[i].1=t.1
  · refine⟨fun h=>absurd hk (h.1 _ (by omega) (List.getElem?_eq_getElem hlt)),fun _=>?_⟩
    rw[P_ref06_Right_l1_eq]
    repeat (first|refine ip0 ?_|refine jn0 ?_|refine(bnd (geti hv hlt)).trans ?_|refine el ?_|refine er ?_)
    rfl
  · have e:P_ref06_Right_l1 now l t iv v=P_ref06_Right_l1 now l t iv (iadd .i64 v 1):=by
     rw[P_ref06_Right_l1_eq]
     repeat (first|refine ip0 ?_|refine jn0 ?_|refine(bnd (geti hv hlt)).trans ?_|refine el ?_|refine er ?_)
     rfl
    rw[e]
    exact⟨fun h=>q1 h.2,fun h=>q2 fun hh=>h ⟨fun e _ he hke=>by rw[List.getElem?_eq_getElem hlt] at he;cases he;exact hk hke,hh⟩⟩
theorem rright_l0 {now:Int} {l:List Tm} (hl:l.length≤100000):∀(d i:Nat) (v:Int),l.length - i=d→i≤l.length→v=(i:Int)→(allF (okW now l) i→P_ref06_Right_l0 now l v=some (.inl ()))∧(¬allF (okW now l) i→P_ref06_Right_l0 now l v=some (.inr false)):=by
 intro d
 induction d with
 | zero =>
  intro i v hd hi hv
  refine⟨fun _=>?_,fun h=>absurd (okW_end (by omega)) h⟩
  rw[P_ref06_Right_l0_eq]
  repeat (first|refine ip0 ?_|refine jn0 ?_|refine el ?_|refine er ?_)
  rfl
 | succ d ih =>
  intro i v hd hi hv
  have hlt:i<l.length:=by omega
  obtain⟨q1,q2⟩:=ih (i+1) (iadd .i64 v 1) (by omega) (by omega) sd
  rw[allF_succ,okW_iff hlt]
  by_cases h1:now<l[i].2
  rotate_left
  · refine⟨fun h=>absurd h.1.1 h1,fun _=>?_⟩
    rw[P_ref06_Right_l0_eq]
    repeat (first|refine ip0 ?_|refine jn0 ?_|refine(bnd (geti hv hlt)).trans ?_|refine el ?_|refine er ?_)
    rfl
  by_cases h2:l[i].2≤1099511627776
  rotate_left
  · refine⟨fun h=>absurd h.1.2.1 h2,fun _=>?_⟩
    rw[P_ref06_Right_l0_eq]
    repeat (first|refine ip0 ?_|refine jn0 ?_|refine(bnd (geti hv hlt)).trans ?_|refine el ?_|refine er ?_)
    rfl
  obtain⟨r1,r2⟩:=rin_l1 (now:=now) (t:=l[i]) (iv:=v) (n:=i) hl hv hi _ 0 0 rfl (by omega) rfl
  have fin : ∀ (h3 : ∀ h0 : 0 < i, ahead (l[i - 1]'(by omega)) l[i]), (∀ q, P_ref06_Right_l1 now l l[i] v 0 = some q → P_ref06_Right_l0 now l v = Sum.elim (fun x => P_ref06_Right_l0 now l (iadd .i64 x 1)) (fun x => some (.inr x)) q) →
   ((now < l[i].2 ∧ l[i].2 ≤ 1099511627776 ∧ (∀ h0 : 0 < i, ahead (l[i - 1]'(by omega)) l[i]) ∧ ∀ j (hj : j < i), (l[j]'(by omega)).1 ≠ l[i].1) ∧ allF (okW now l) (i + 1) → P_ref06_Right_l0 now l v = some (.inl ())) ∧
   (¬ ((now < l[i].2 ∧ l[i].2 ≤ 1099511627776 ∧ (∀ h0 : 0 < i, ahead (l[i - 1]'(by omega)) l[i]) ∧ ∀ j (hj : j < i), (l[j]'(by omega)).1 ≠ l[i].1) ∧ allF (okW now l) (i + 1)) → P_ref06_Right_l0 now l v = some (.inr false)) := by
   intro h3 hx
   by_cases ha:allF (idsF l l[i] i) 0
   · rw[hx _ (r1 ha)]
     simp only[Sum.elim_inl]
     refine⟨fun h=>q1 h.2,fun h=>q2 fun hh=>h ⟨⟨h1,h2,h3,fun j hj=>ha j (Nat.zero_le _) _ hj (List.getElem?_eq_getElem _)⟩,hh⟩⟩
   · rw[hx _ (r2 ha)]
     simp only[Sum.elim_inr]
     refine⟨fun h=>absurd (fun j _ e hj he=>?_) ha,fun _=>trivial⟩
     rw[List.getElem?_eq_getElem (show j<l.length by omega)] at he
     have he2:=Option.some.inj he
     rw[← he2]
     exact h.1.2.2.2 j hj
  by_cases h0:0<i
  rotate_left
  · refine fin (fun h=>absurd h h0) fun q hq=>?_
    rw[P_ref06_Right_l0_eq]
    repeat (first|refine ip0 ?_|refine jn0 ?_|refine(bnd (geti hv hlt)).trans ?_|refine(bnd hq).trans ?_|refine el ?_|refine er ?_)
    rfl
  have g2:=geti (l:=l) (q:=isub .i64 v 1) (i:=i - 1) (by rw[isub64 (by omega)];omega) (by omega)
  have hai := ahead_iff (l[i - 1]'(by omega)) l[i]
  by_cases h3 : ahead (l[i - 1]'(by omega)) l[i]
  · refine fin (fun _=>h3) fun q hq=>?_
    have ha:=hai.2 h3
    rw[P_ref06_Right_l0_eq]
    repeat (first|refine ip (by first|with_reducible rfl | assumption | (simp (disch:=omega) only[ws,wl,wb,ha]<;>omega)|omega) ?_|refine jn (by first|with_reducible rfl | assumption | (simp (disch:=omega) only[ws,wl,wb,ha]<;>omega)|omega) ?_|refine(bnd (geti hv hlt)).trans ?_|refine(bnd g2).trans ?_|refine(bnd hq).trans ?_|refine el ?_|refine er ?_)
    rfl
  · have ha:=fun h=>h3 (hai.1 h)
    refine⟨fun h=>absurd (h.1.2.2.1 h0) h3,fun _=>?_⟩
    rw[P_ref06_Right_l0_eq]
    repeat (first|refine ip (by first|with_reducible rfl | assumption | (simp (disch:=omega) only[ws,wl,wb,ha]<;>omega)|omega) ?_|refine jn (by first|with_reducible rfl | assumption | (simp (disch:=omega) only[ws,wl,wb,ha]<;>omega)|omega) ?_|refine(bnd (geti hv hlt)).trans ?_|refine(bnd g2).trans ?_|refine el ?_|refine er ?_)
    rfl
theorem rright_t {now:Int} {l:List Tm} (h:Wh now l):P_ref06_Right now l=some true:=by
 obtain⟨h1,h2,h3⟩:=h
 have q:=(rright_l0 (now:=now) (l:=l) (by omega) _ 0 0 rfl (by omega) rfl).1 (wl_iff.1 h3)
 rw[P_ref06_Right]
 repeat (first|refine ip0 ?_|refine jn0 ?_|refine(bnd q).trans ?_|refine el ?_|refine er ?_)
 exact congrArg some sd
theorem rright_f {now:Int} {l:List Tm} (hl:l.length≤100000) (h:¬Wh now l):P_ref06_Right now l=some false:=by
 rw[P_ref06_Right]
 by_cases hw:Wl now l
 · have q:=(rright_l0 (now:=now) (l:=l) hl _ 0 0 rfl (by omega) rfl).1 (wl_iff.1 hw)
   by_cases h1:now<0
   · repeat (first|refine ip0 ?_|refine jn0 ?_|refine(bnd q).trans ?_|refine el ?_|refine er ?_)
     rfl
   by_cases h2:1099511627776<now
   · repeat (first|refine ip0 ?_|refine jn0 ?_|refine(bnd q).trans ?_|refine el ?_|refine er ?_)
     rfl
   have h3:1000<l.length:=Classical.byContradiction fun h3=>h ⟨by omega,by omega,hw⟩
   repeat (first|refine ip0 ?_|refine jn0 ?_|refine(bnd q).trans ?_|refine el ?_|refine er ?_)
   exact congrArg some sd
 · have q:=(rright_l0 (now:=now) (l:=l) hl _ 0 0 rfl (by omega) rfl).2 (fun hh=>hw (wl_iff.2 hh))
   repeat (first|refine ip0 ?_|refine jn0 ?_|refine(bnd q).trans ?_|refine el ?_|refine er ?_)
   rfl
theorem idx_l0 {l:List Tm} {id:Int} (hl:l.length≤100000):∀(d i:Nat) (v:Int),l.length - i=d→i≤l.length→v=(i:Int)→(∀j (hj:j<i) (hl:j<l.length),l[j].1≠id) →
 (P_slices_IndexFunc_l0 l id v=some (.inl ())∧∀t∈l,t.1≠id)∨(∃A t R,l=A++t::R∧t.1=id∧(∀a∈A,a.1≠id)∧P_slices_IndexFunc_l0 l id v=some (.inr (A.length:Int))):=by
 intro d
 induction d with
 | zero =>
  intro i v hd hi hv hn
  refine .inl ⟨?_,fun t ht=>?_⟩
  · rw[P_slices_IndexFunc_l0_eq]
    repeat (first|refine ip0 ?_|refine jn0 ?_|refine el ?_|refine er ?_)
    rfl
  · obtain⟨j,hj,rfl⟩:=List.mem_iff_getElem.1 ht
    exact hn j (by omega) hj
 | succ d ih =>
  intro i v hd hi hv hn
  have hlt:i<l.length:=by omega
  by_cases hk:l[i].1=id
  · refine .inr ⟨l.take i,l[i],l.drop (i+1),?_,hk,fun a ha=>?_,?_⟩
    · rw[← List.drop_eq_getElem_cons hlt,List.take_append_drop]
    · obtain⟨j,hj⟩:=List.mem_iff_getElem?.1 ha
      rw[List.getElem?_take] at hj
      split at hj
      · obtain⟨hj1,rfl⟩:=List.getElem?_eq_some_iff.1 hj
        exact hn j (by assumption) hj1
      · cases hj
    · have el:(l.take i).length=i:=by simp;omega
      rw[P_slices_IndexFunc_l0_eq,el,← hv]
      repeat (first|refine ip0 ?_|refine jn0 ?_|refine(bnd (geti hv hlt)).trans ?_|refine el ?_|refine er ?_)
      rfl
  · have e:P_slices_IndexFunc_l0 l id v=P_slices_IndexFunc_l0 l id (iadd .i64 v 1):=by
     rw[P_slices_IndexFunc_l0_eq]
     repeat (first|refine ip0 ?_|refine jn0 ?_|refine(bnd (geti hv hlt)).trans ?_|refine el ?_|refine er ?_)
     rfl
    rw[e]
    exact ih (i+1) _ (by omega) (by omega) sd (fun j hj hjl=>by
     by_cases hji:j=i
     · subst hji;exact hk
     · exact hn j (by omega) hjl)
theorem find_ok {l:List Tm} (hl:l.length≤100000) (now id:Int):(P_wheel_Wheel_find now l id=some (-1)∧∀t∈l,t.1≠id)∨(∃A t R,l=A++t::R∧t.1=id∧P_wheel_Wheel_find now l id=some (A.length:Int)):=by
 rcases idx_l0 (id:=id) hl _ 0 0 rfl (by omega) rfl (fun j hj=>by omega) with⟨q1,q2⟩ | ⟨A,t,R,h1,h2,_,q1⟩
 · refine .inl ⟨?_,q2⟩
   have:P_slices_IndexFunc l id=some (-1):=by
    rw[P_slices_IndexFunc]
    repeat (first|refine ip0 ?_|refine jn0 ?_|refine(bnd q1).trans ?_|refine el ?_|refine er ?_)
    rfl
   rw[P_wheel_Wheel_find]
   repeat (first|refine ip0 ?_|refine jn0 ?_|refine(bnd this).trans ?_|refine el ?_|refine er ?_)
   rfl
 · refine .inr ⟨A,t,R,h1,h2,?_⟩
   have:P_slices_IndexFunc l id=some (A.length:Int):=by
    rw[P_slices_IndexFunc]
    repeat (first|refine ip0 ?_|refine jn0 ?_|refine(bnd q1).trans ?_|refine el ?_|refine er ?_)
    rfl
   rw[P_wheel_Wheel_find]
   repeat (first|refine ip0 ?_|refine jn0 ?_|refine(bnd this).trans ?_|refine el ?_|refine er ?_)
   rfl
theorem wo_succ {l:List Tm} {i:Nat} (h:i<l.length) (id:Int):wo (l.take (i+1)) id=if l[i].1=id then wo (l.take i) id else wo (l.take i) id++[l[i]]:=by
 unfold wo
 rw[List.take_add_one,List.getElem?_eq_getElem h,List.filter_append]
 show _++[l[i]].filter _=_
 by_cases hk:l[i].1=id
 · rw[if_pos hk];simp [hk]
 · rw[if_neg hk];simp [hk]
theorem wo_l0 {l:List Tm} {id:Int} (hl:l.length≤100000):∀(d i:Nat) (b:Bool) (v:Int) (o:List Tm),l.length - i=d→i≤l.length→v=(i:Int)→o=wo (l.take i) id→P_ref06_without_l0 l id b v o=some (b || (l.drop i).any (fun t=>eqI t.1 id),wo l id):=by
 intro d
 induction d with
 | zero =>
  intro i b v o hd hi hv ho
  rw[P_ref06_without_l0_eq]
  repeat (first|refine ip0 ?_|refine jn0 ?_|refine el ?_|refine er ?_)
  rw[ho,List.take_of_length_le (by omega),List.drop_of_length_le (by omega)]
  simp
 | succ d ih =>
  intro i b v o hd hi hv ho
  have hlt:i<l.length:=by omega
  have ed:l.drop i=l[i]::l.drop (i+1):=List.drop_eq_getElem_cons hlt
  have hs:=wo_succ hlt id
  have hol:o.length≤i:=by rw[ho];have:=wo_len (l.take i) id;simp at this;omega
  rw[P_ref06_without_l0_eq,ed,List.any_cons]
  by_cases hk:l[i].1=id
  · rw[if_pos hk] at hs
    have e:=eqI_iff.2 hk
    repeat (first|refine ip0 ?_|refine jn0 ?_|refine(bnd (geti hv hlt)).trans ?_|refine el ?_|refine er ?_)
    rw[ih (i+1) true _ _ (by omega) (by omega) sd (by rw[hs,ho]),e]
    simp
  · rw[if_neg hk] at hs
    have e:eqI l[i].1 id=false:=by rw[← Bool.not_eq_true];exact fun h=>hk (eqI_iff.1 h)
    repeat (first|refine ip0 ?_|refine jn0 ?_|refine(bnd (geti hv hlt)).trans ?_|refine el ?_|refine er ?_)
    rw[ih (i+1) b _ _ (by omega) (by omega) sd (by rw[hs,ho]),e]
    simp
def isIn (l:List Tm) (id:Int):Bool:=l.any fun t=>eqI t.1 id
theorem isIn_iff {l:List Tm} {id:Int}:isIn l id=true↔∃t∈l,t.1=id:=by
 unfold isIn
 rw[List.any_eq_true]
 simp only[eqI_iff]
theorem wo_ok {l:List Tm} (hl:l.length≤100000) (id:Int):P_ref06_without l id=some (wo l id,isIn l id):=by
 have q:=wo_l0 (id:=id) hl _ 0 false 0 [] rfl (by omega) rfl rfl
 rw[List.drop_zero,Bool.false_or] at q
 rw[P_ref06_without]
 repeat (first|refine ip0 ?_|refine jn0 ?_|refine(bnd q).trans ?_|refine el ?_|refine er ?_)
 rfl
theorem del_mid {A R:List Tm} {x:Tm} {j:Int} (hj:j=(A.length:Int)+1) (hl:A.length+R.length≤1000000):delP (A.length:Int) j (A++x::R)=some (A++R):=by
 unfold delP
 rw[if_pos ⟨by omega,by simp;omega,hj,by simp;omega⟩]
 simp
theorem stop_t {now:Int} {l:List Tm} (h:Wh now l) (id:Int):∃e,P_wheel_Stop now l id=some (now,wo l id,e)∧P_ref06_Stop now l id=some (now,wo l id,e)∧P_wheel_Stop_1 now l id=some (e,wo l id)∧((e=0∧isIn l id=true)∨(e=7∧isIn l id=false∧wo l id=l)):=by
 have hl:=h.2.1
 have hwo:=wo_ok (l:=l) (by omega) id
 rcases find_ok (l:=l) (by omega) now id with⟨q1,q2⟩ | ⟨A,t,R,rfl,rfl,q1⟩
 · have e0:=wo_none q2
   have e1:isIn l id=false:=by rw[← Bool.not_eq_true,isIn_iff];rintro⟨t,ht,hh⟩;exact q2 t ht hh
   refine⟨7,?_,?_,?_,.inr ⟨rfl,e1,e0⟩⟩
   · rw[P_wheel_Stop,e0]
     repeat (first|refine ip0 ?_|refine jn0 ?_|refine(bnd (clone_ok l (by omega))).trans ?_|refine(bnd (pright_t h)).trans ?_|refine(bnd q1).trans ?_|refine el ?_|refine er ?_)
     rfl
   · rw[e1] at hwo
     rw[P_ref06_Stop]
     repeat (first|refine ip0 ?_|refine jn0 ?_|refine(bnd (rright_t h)).trans ?_|refine(bnd hwo).trans ?_|refine el ?_|refine er ?_)
     rw[e0]
   · rw[P_wheel_Stop_1,e0]
     repeat (first|refine ip0 ?_|refine jn0 ?_|refine(bnd (clone_ok l (by omega))).trans ?_|refine(bnd (pright_t h)).trans ?_|refine(bnd q1).trans ?_|refine el ?_|refine er ?_)
     rfl
 · have e0:=(wo_mid h.2.2).1
   have e1:isIn (A++t::R) t.1=true:=isIn_iff.2 ⟨t,by simp,rfl⟩
   have hal:A.length+(R.length+1)≤1000:=by simpa using hl
   have hd:P_slices_Delete (A.length:Int) (iadd .i64 (A.length:Int) 1) (A++t::R)=some (A++R):=by
    rw[P_slices_Delete];exact del_mid (by rw[iadd64 (by omega)]) (by omega)
   refine⟨0,?_,?_,?_,.inl ⟨rfl,e1⟩⟩
   · rw[P_wheel_Stop,e0]
     repeat (first|refine ip0 ?_|refine jn0 ?_|refine(bnd (clone_ok _ (by omega))).trans ?_|refine(bnd (pright_t h)).trans ?_|refine(bnd q1).trans ?_|refine(bnd hd).trans ?_|refine el ?_|refine er ?_)
     rfl
   · rw[e1] at hwo
     rw[P_ref06_Stop]
     repeat (first|refine ip0 ?_|refine jn0 ?_|refine(bnd (rright_t h)).trans ?_|refine(bnd hwo).trans ?_|refine el ?_|refine er ?_)
     rfl
   · rw[P_wheel_Stop_1,e0]
     repeat (first|refine ip0 ?_|refine jn0 ?_|refine(bnd (clone_ok _ (by omega))).trans ?_|refine(bnd (pright_t h)).trans ?_|refine(bnd q1).trans ?_|refine(bnd hd).trans ?_|refine el ?_|refine er ?_)
     rfl
theorem Wh.wo {now:Int} {l:List Tm} (h:Wh now l) (id:Int):Wh now (wo l id):=⟨h.1,by have:=wo_len l id;have:=h.2.1;omega,h.2.2.wo id⟩
theorem bs_l0 {now:Int} {l:List Tm} {x:Tm} (h:Wl now l) (hl:l.length≤100000):∀(d a b:Nat) (v w:Int),b - a≤d→a≤b→b≤l.length→v=(a:Int)→w=(b:Int) →
 (∀j (hj:j<l.length),j<a→ahead l[j] x)→(∀j (hj:j<l.length),b≤j→¬ahead l[j] x) →
 ∃i:Nat,i≤l.length∧P_slices_BinarySearchFunc_l0 l x.1 x.2 v w=some (i:Int)∧(∀j (hj:j<l.length),j<i→ahead l[j] x)∧(∀j (hj:j<l.length),i≤j→¬ahead l[j] x):=by
 have hs:∀i j (hi:i<l.length) (hj:j<l.length),i<j→ahead l[i] l[j]:=fun i j hi hj hij=>(List.pairwise_iff_getElem.1 h.1 i j hi hj hij).1
 intro d
 induction d with
 | zero =>
  intro a b v w hd hab hb hv hw h1 h2
  obtain rfl:a=b:=by omega
  refine⟨a,by omega,?_,h1,h2⟩
  rw[P_slices_BinarySearchFunc_l0_eq]
  repeat (first|refine ip0 ?_|refine jn0 ?_|refine el ?_|refine er ?_)
  rw[hv]
 | succ d ih =>
  intro a b v w hd hab hb hv hw h1 h2
  by_cases hlt:a<b
  rotate_left
  · obtain rfl:a=b:=by omega
    refine⟨a,by omega,?_,h1,h2⟩
    rw[P_slices_BinarySearchFunc_l0_eq]
    repeat (first|refine ip0 ?_|refine jn0 ?_|refine el ?_|refine er ?_)
    rw[hv]
  subst hv hw
  have hm:=mid64 (a:=a) (b:=b) (by omega)
  obtain⟨m,hme⟩:∃m,m=(a+b) / 2:=⟨_,rfl⟩
  rw[← hme] at hm
  have hml:m<l.length:=by omega
  obtain⟨o,o1,o2⟩:=order_ok l[m] x
  by_cases hk:ahead l[m] x
  · obtain⟨i,i1,i2,i3,i4⟩:=ih (m+1) b (iadd .i64 (m:Int) 1) b (by omega) (by omega) hb sd rfl (fun j hj hjm=>by
     by_cases e:j=m
     · subst e;exact hk
     · exact ahead_trans (hs j m hj hml (by omega)) hk) h2
    refine⟨i,i1,?_,i3,i4⟩
    have hc2:=o2.2 hk
    rw[P_slices_BinarySearchFunc_l0_eq]
    simp only[hm]
    repeat (first|refine ip0 ?_|refine jn0 ?_|refine(bnd (geti (l:=l) (i:=m) rfl hml)).trans ?_|refine(bnd o1).trans ?_|refine el ?_|refine er ?_)
    exact i2
  · obtain⟨i,i1,i2,i3,i4⟩:=ih a m a m (by omega) (by omega) (by omega) rfl rfl h1 (fun j hj hjm=>by
     by_cases e:j=m
     · subst e;exact hk
     · exact fun hh=>hk (ahead_trans (hs m j hml hj (by omega)) hh))
    refine⟨i,i1,?_,i3,i4⟩
    have hc2:¬o<0:=fun h=>hk (o2.1 h)
    rw[P_slices_BinarySearchFunc_l0_eq]
    simp only[hm]
    repeat (first|refine ip0 ?_|refine jn0 ?_|refine(bnd (geti (l:=l) (i:=m) rfl hml)).trans ?_|refine(bnd o1).trans ?_|refine el ?_|refine er ?_)
    exact i2
theorem bs_ok {now:Int} {l:List Tm} {x:Tm} (h:Wl now l) (hl:l.length≤100000) (hx:∀t∈l,t.1≠x.1):∃A R b,l=A++R∧(∀t∈A,ahead t x)∧(∀t∈R,ahead x t)∧P_slices_BinarySearchFunc l x.1 x.2=some ((A.length:Int),b):=by
 obtain⟨i,i1,i2,i3,i4⟩:=bs_l0 (x:=x) h hl l.length 0 l.length 0 (nI l.length) (by omega) (by omega) (by omega) rfl rfl (fun j hj h=>by omega) (fun j hj h=>by omega)
 have elen:(l.take i).length=i:=by simp;omega
 have hb:∃b,P_slices_BinarySearchFunc l x.1 x.2=some ((i:Int),b):=by
  by_cases hi:i<l.length
  · obtain⟨o,o1,_⟩:=order_ok l[i] x
    refine⟨eqI o 0,?_⟩
    rw[P_slices_BinarySearchFunc]
    repeat (first|refine ip0 ?_|refine jn0 ?_|refine(bnd i2).trans ?_|refine(bnd (geti (l:=l) (i:=i) rfl hi)).trans ?_|refine(bnd o1).trans ?_|refine el ?_|refine er ?_)
    rfl
  · refine⟨false,?_⟩
    rw[P_slices_BinarySearchFunc]
    repeat (first|refine ip0 ?_|refine jn0 ?_|refine(bnd i2).trans ?_|refine el ?_|refine er ?_)
    rfl
 obtain⟨b,hb⟩:=hb
 refine⟨l.take i,l.drop i,b,(List.take_append_drop i l).symm,fun t ht=>?_,fun t ht=>?_,by rw[elen];exact hb⟩
 · obtain⟨j,hj⟩:=List.mem_iff_getElem?.1 ht
   rw[List.getElem?_take] at hj
   split at hj
   · obtain⟨hj1,rfl⟩:=List.getElem?_eq_some_iff.1 hj
     exact i3 j hj1 (by assumption)
   · cases hj
 · obtain⟨j,hj⟩:=List.mem_iff_getElem?.1 ht
   rw[List.getElem?_drop] at hj
   obtain⟨hj1,rfl⟩:=List.getElem?_eq_some_iff.1 hj
   exact(ahead_tot (hx _ (List.getElem_mem hj1))).resolve_left (i4 _ hj1 (by omega))
theorem ins_mid {A R:List Tm} {x:Tm} (hl:A.length+R.length≤1000000):insP 16 (A.length:Int) (A++R) [x]=some (A++x::R):=by
 unfold insP
 rw[if_pos ⟨rfl,by omega,by simp;omega,by simp;omega⟩]
 simp
theorem rset_two {now id at1:Int} {l0 l:List Tm} {b0:Bool} (hl:l.length≤10000):∀(d i:Nat) (v:Int) (o:List Tm),l.length - i=d→i≤l.length→v=(i:Int)→o.length≤i+1→P_ref06_Set_l0 now l0 id at1 (l,b0) true v o=some (true,o++l.drop i):=by
 intro d
 induction d with
 | zero =>
  intro i v o hd hi hv ho
  rw[P_ref06_Set_l0_eq]
  repeat (first|refine ip0 ?_|refine jn0 ?_|refine el ?_|refine er ?_)
  rw[List.drop_of_length_le (by omega),List.append_nil]
 | succ d ih =>
  intro i v o hd hi hv ho
  have hlt:i<l.length:=by omega
  have ed:l.drop i=l[i]::l.drop (i+1):=List.drop_eq_getElem_cons hlt
  have hr:=ih (i+1) (iadd .i64 v 1) (o++[l[i]]) (by omega) (by omega) sd (by simp;omega)
  have e:o++l.drop i=o++[l[i]]++l.drop (i+1):=by rw[ed];simp
  rw[P_ref06_Set_l0_eq,e]
  repeat (first|refine ip0 ?_|refine jn0 ?_|refine(bnd (geti hv hlt)).trans ?_|refine el ?_|refine er ?_)
  exact hr
theorem rset_one {now id at1:Int} {l0 A S:List Tm} {b0:Bool} (hl:(A++S).length≤10000) (hA:∀t∈A,ahead t (id,at1)):∀(d i:Nat) (v:Int) (o:List Tm),A.length - i=d→i≤A.length→v=(i:Int)→o=A.take i→P_ref06_Set_l0 now l0 id at1 (A++S,b0) false v o=P_ref06_Set_l0 now l0 id at1 (A++S,b0) false (A.length:Int) A:=by
 intro d
 induction d with
 | zero =>
  intro i v o hd hi hv ho
  have:i=A.length:=by omega
  subst this
  rw[ho,hv,List.take_length]
 | succ d ih =>
  intro i v o hd hi hv ho
  have hlt:i<A.length:=by omega
  have g:(A++S)[tN v]? = some A[i]:=by rw[hv,tN_nat,List.getElem?_append_left hlt,List.getElem?_eq_getElem hlt]
  have hol:o.length=i:=by rw[ho];simp;omega
  have ha:¬ref06_ahead id at1 A[i].1 A[i].2=true:=fun h=>ahead_not (hA A[i] (List.getElem_mem hlt)) ((ahead_iff (id,at1) A[i]).1 h)
  have hal:A.length+S.length≤10000:=by simpa using hl
  have hr:=ih (i+1) (iadd .i64 v 1) (o++[A[i]]) (by omega) (by omega) sd (by rw[ho,List.take_add_one,List.getElem?_eq_getElem hlt];rfl)
  rw[← hr,P_ref06_Set_l0_eq]
  repeat (first|refine ip (by first|with_reducible rfl | assumption | (simp (disch:=omega) only[ws,wl,wb,hol,ha]<;>omega)|omega) ?_|refine jn (by first|with_reducible rfl | assumption | (simp (disch:=omega) only[ws,wl,wb,hol,ha]<;>omega)|omega) ?_|refine(bnd g).trans ?_|refine el ?_|refine er ?_)
  rfl
theorem rset_n {now id at1:Int} {l0 A:List Tm} {b0:Bool} (hl:A.length≤10000) (hA:∀t∈A,ahead t (id,at1)):P_ref06_Set_l0 now l0 id at1 (A,b0) false 0 []=some (false,A):=by
 have h:=rset_one (now:=now) (l0:=l0) (b0:=b0) (S:=[]) (by simpa using hl) hA _ 0 0 [] rfl (by omega) rfl rfl
 rw[List.append_nil] at h
 rw[h,P_ref06_Set_l0_eq]
 repeat (first|refine ip0 ?_|refine jn0 ?_|refine el ?_|refine er ?_)
 rfl
theorem rset_c {now id at1:Int} {l0 A R:List Tm} {e:Tm} {b0:Bool} (hal:A.length+(R.length+1)≤10000) (hA:∀t∈A,ahead t (id,at1)) (he:ahead (id,at1) e) :
 P_ref06_Set_l0 now l0 id at1 (A++e::R,b0) false 0 []=some (true,A++(id,at1)::e::R):=by
 have hll:(A++e::R).length≤10000:=by rw[List.length_append,List.length_cons];exact hal
 rw[rset_one hll hA _ 0 0 [] rfl (by omega) rfl rfl]
 have ha:ref06_ahead id at1 e.1 e.2=true:=(ahead_iff (id,at1) e).2 he
 have g:(A++e::R)[tN (A.length:Int)]? = some e:=by rw[tN_nat];exact mid_get A R e
 have hr:=rset_two (now:=now) (id:=id) (at1:=at1) (l0:=l0) (l:=A++e::R) (b0:=b0) hll _ (A.length+1) (iadd .i64 (A.length:Int) 1) (A++[(id,at1)]++[e]) rfl (by simp) (by rw[iadd64 (by omega)];omega) (by simp)
 have ed:(A++e::R).drop (A.length+1)=R:=by simp
 have e1:A++[(id,at1)]++[e]++(A++e::R).drop (A.length+1)=A++(id,at1)::e::R:=by rw[ed];simp
 rw[e1] at hr
 rw[P_ref06_Set_l0_eq]
 repeat (first|refine ip (by first|with_reducible rfl | assumption | (simp (disch:=omega) only[ws,wl,wb,ha]<;>omega)|omega) ?_|refine jn (by first|with_reducible rfl | assumption | (simp (disch:=omega) only[ws,wl,wb,ha]<;>omega)|omega) ?_|refine(bnd g).trans ?_|refine el ?_|refine er ?_)
 exact hr
theorem set_f {now:Int} {l:List Tm} (hl:l.length≤10000) {id at1:Int} {e:Int} (h:(¬Wh now l∧e=2)∨(Wh now l∧((at1≤now∧e=10)∨(now<at1∧1099511627776<at1∧e=3)∨(now<at1∧at1≤1099511627776∧isIn l id=false∧1000≤l.length∧e=6)))):P_wheel_Set now l id at1=some (now,l,e)∧P_ref06_Set now l id at1=some (now,l,e):=by
 have hwo:=wo_ok (l:=l) (by omega) id
 rcases h with⟨h,rfl⟩ | ⟨h,⟨h1,rfl⟩ | ⟨h1,h2,rfl⟩ | ⟨h1,h2,h3,h4,rfl⟩⟩
 · constructor
   · rw[P_wheel_Set]
     repeat (first|refine ip0 ?_|refine jn0 ?_|refine(bnd (clone_ok l (by omega))).trans ?_|refine(bnd (pright_f (by omega) h)).trans ?_|refine el ?_|refine er ?_)
     rfl
   · rw[P_ref06_Set]
     repeat (first|refine ip0 ?_|refine jn0 ?_|refine(bnd hwo).trans ?_|refine(bnd (rright_f (by omega) h)).trans ?_|refine el ?_|refine er ?_)
     rfl
 · constructor
   · rw[P_wheel_Set]
     repeat (first|refine ip0 ?_|refine jn0 ?_|refine(bnd (clone_ok l (by omega))).trans ?_|refine(bnd (pright_t h)).trans ?_|refine el ?_|refine er ?_)
     rfl
   · rw[P_ref06_Set]
     repeat (first|refine ip0 ?_|refine jn0 ?_|refine(bnd hwo).trans ?_|refine(bnd (rright_t h)).trans ?_|refine el ?_|refine er ?_)
     rfl
 · constructor
   · rw[P_wheel_Set]
     repeat (first|refine ip0 ?_|refine jn0 ?_|refine(bnd (clone_ok l (by omega))).trans ?_|refine(bnd (pright_t h)).trans ?_|refine el ?_|refine er ?_)
     rfl
   · rw[P_ref06_Set]
     repeat (first|refine ip0 ?_|refine jn0 ?_|refine(bnd hwo).trans ?_|refine(bnd (rright_t h)).trans ?_|refine el ?_|refine er ?_)
     rfl
 · have hno:∀t∈l,t.1≠id:=fun t ht hh=>by
    have:=isIn_iff.2 ⟨t,ht,hh⟩
    rw[this] at h3;cases h3
   have e0:=wo_none hno
   rw[h3,e0] at hwo
   rcases find_ok (l:=l) (by omega) now id with⟨q1,_⟩ | ⟨A,t,R,rfl,ht,_⟩
   rotate_left
   · exact absurd ht (hno t (by simp))
   constructor
   · rw[P_wheel_Set]
     repeat (first|refine ip0 ?_|refine jn0 ?_|refine(bnd (clone_ok l (by omega))).trans ?_|refine(bnd (pright_t h)).trans ?_|refine(bnd q1).trans ?_|refine el ?_|refine er ?_)
     rfl
   · rw[P_ref06_Set]
     repeat (first|refine ip0 ?_|refine jn0 ?_|refine(bnd hwo).trans ?_|refine(bnd (rright_t h)).trans ?_|refine el ?_|refine er ?_)
     rfl
theorem set_t {now:Int} {l:List Tm} (h:Wh now l) {id at1:Int} (h1:now<at1) (h2:at1≤1099511627776) (h3:isIn l id=true∨l.length<1000):∃A R,wo l id=A++R∧(∀t∈A,ahead t (id,at1))∧(∀t∈R,ahead (id,at1) t)∧P_wheel_Set now l id at1=some (now,A++(id,at1)::R,0)∧P_ref06_Set now l id at1=some (now,A++(id,at1)::R,0):=by
 have hl:=h.2.1
 have hwo:=wo_ok (l:=l) (by omega) id
 have hwl:=wo_len l id
 obtain⟨A,R,b,e0,hA,hR,hbs⟩:=bs_ok (x:=(id,at1)) (h.2.2.wo id) (by omega) (fun t ht=>(wo_mem.1 ht).2)
 have hal:A.length+R.length≤1000:=by have:=congrArg List.length e0;simp at this;omega
 obtain⟨e,_,_,hst,_⟩:=stop_t h id
 have hins:P_slices_Insert (A.length:Int) (wo l id) [(id,at1)]=some (A++(id,at1)::R):=by
  rw[P_slices_Insert,e0];exact ins_mid (by omega)
 refine⟨A,R,e0,hA,hR,?_,?_⟩
 · rw[P_wheel_Set]
   rcases find_ok (l:=l) (by omega) now id with⟨q1,q2⟩ | ⟨A',t,R',hl',ht,q1⟩
   · have hlt:l.length<1000:=h3.resolve_left fun hh=>by
      obtain⟨t,ht,hh⟩:=isIn_iff.1 hh
      exact q2 t ht hh
     repeat (first|refine ip0 ?_|refine jn0 ?_|refine(bnd (clone_ok l (by omega))).trans ?_|refine(bnd (pright_t h)).trans ?_|refine(bnd q1).trans ?_|refine(bnd hst).trans ?_|refine(bnd hbs).trans ?_|refine(bnd hins).trans ?_|refine el ?_|refine er ?_)
     rfl
   · repeat (first|refine ip0 ?_|refine jn0 ?_|refine(bnd (clone_ok l (by omega))).trans ?_|refine(bnd (pright_t h)).trans ?_|refine(bnd q1).trans ?_|refine(bnd hst).trans ?_|refine(bnd hbs).trans ?_|refine(bnd hins).trans ?_|refine el ?_|refine er ?_)
     rfl
 · have hset:∀r,(∀b0,P_ref06_Set_l0 now l id at1 (wo l id,b0) false 0 []=some r)→P_ref06_Set now l id at1=(if r.1=true then some (now,r.2,0) else (if roomI ((r.2++[(id,at1)]).length*16)=true then some (now,r.2++[(id,at1)],0) else none)):=by
    intro r hq
    rw[P_ref06_Set]
    cases hi:isIn l id
    · have hlt:l.length<1000:=h3.resolve_left fun hh=>by rw[hi] at hh;cases hh
      rw[hi] at hwo
      repeat (first|refine ip0 ?_|refine jn0 ?_|refine(bnd hwo).trans ?_|refine(bnd (rright_t h)).trans ?_|refine(bnd (hq false)).trans ?_|refine el ?_|refine er ?_)
      rfl
    · rw[hi] at hwo
      repeat (first|refine ip0 ?_|refine jn0 ?_|refine(bnd hwo).trans ?_|refine(bnd (rright_t h)).trans ?_|refine(bnd (hq true)).trans ?_|refine el ?_|refine er ?_)
      rfl
   rw[e0] at hset
   match R,hR,hal,e0,hset with
   | [],_,hal,e0,hset =>
    rw[List.append_nil] at hset
    rw[hset (false,A) fun b0=>rset_n (by omega) hA]
    refine(if_neg (by simp)).trans ?_
    exact if_pos (by rw[roomI_iff,List.length_append];simp only[List.length_cons,List.length_nil] at *;omega)
   | e::R,hR,hal,e0,hset =>
    rw[List.length_cons] at hal
    rw[hset (true,A++(id,at1)::e::R) fun b0=>rset_c (by omega) hA (hR e (by simp))]
    rfl
theorem Wh.set {now:Int} {l A R:List Tm} {id at1:Int} (h:Wh now l) (h1:now<at1) (h2:at1≤1099511627776) (h3:isIn l id=true∨l.length<1000) (e0:Go.Ws.wo l id=A++R) (hA:∀t∈A,ahead t (id,at1)) (hR:∀t∈R,ahead (id,at1) t):Wh now (A++(id,at1)::R)∧(A++(id,at1)::R).length≤l.length+1:=by
 have hw:=h.2.2.wo id
 rw[e0] at hw
 have hwl:=wo_len l id
 have hlen:=congrArg List.length e0
 simp at hlen
 have hw1:=wl_ins (x:=(id,at1)) hw (fun t ht=>by rw[← e0] at ht;exact(wo_mem.1 ht).2) hA hR h1 h2
 refine⟨⟨h.1,?_,hw1⟩,by simp;omega⟩
 rcases h3 with h3 | h3
 · obtain⟨t,ht,hh⟩:=isIn_iff.1 h3
   obtain⟨A',R',rfl⟩:=List.append_of_mem ht
   subst hh
   have:=(wo_mid h.2.2).2
   have:=h.2.1
   simp at *
   omega
 · simp;omega
theorem tick_l0 {now by1 n:Int} (hn:iadd .i64 now by1=n):∀(l:List Tm) (r:List Int) {nw:Int},Wl nw l→l.length+r.length≤10000→P_wheel_Tick_l0 now by1 l r=some (lf l n,r++(rg l n).map (·.1)):=by
 intro l
 induction l with
 | nil =>
  intro r nw hw hl
  rw[P_wheel_Tick_l0_eq]
  repeat (first|refine ip0 ?_|refine jn0 ?_|refine el ?_|refine er ?_)
  simp [rg,lf]
 | cons d l ih =>
  intro r nw hw hl
  have hl2:l.length+r.length+1≤10000:=by simp at hl;omega
  have g:(d::l)[0]? = some d:=rfl
  by_cases h:d.2≤n
  · obtain⟨e1,e2⟩:=rg_cons_y (l:=l) h
    have hr:=ih (r++[d.1]) (hw.sub (List.sublist_cons_self d l)) (by simp;omega)
    rw[P_wheel_Tick_l0_eq,e1,e2]
    repeat (first|refine ip (by first|with_reducible rfl | assumption | (simp (disch:=omega) only[ws,wl,wb,hn]<;>omega)|omega) ?_|refine jn (by first|with_reducible rfl | assumption | (simp (disch:=omega) only[ws,wl,wb,hn]<;>omega)|omega) ?_|refine(bnd g).trans ?_|refine el ?_|refine er ?_)
    rw[List.drop_one,List.tail_cons,hr]
    simp
  · obtain⟨e1,e2⟩:=rg_cons_n hw (n:=n) (by omega)
    rw[P_wheel_Tick_l0_eq,e1,e2]
    repeat (first|refine ip (by first|with_reducible rfl | assumption | (simp (disch:=omega) only[ws,wl,wb,hn]<;>omega)|omega) ?_|refine jn (by first|with_reducible rfl | assumption | (simp (disch:=omega) only[ws,wl,wb,hn]<;>omega)|omega) ?_|refine(bnd g).trans ?_|refine el ?_|refine er ?_)
    simp
theorem rg_snoc (a:List Tm) (t:Tm) (n:Int):rg (a++[t]) n=if t.2≤n then rg a n++[t] else rg a n:=by
 unfold rg
 rw[List.filter_append]
 by_cases h:t.2≤n
 · rw[if_pos h];simp [h]
 · rw[if_neg h];simp [h]
theorem lf_snoc (a:List Tm) (t:Tm) (n:Int):lf (a++[t]) n=if n<t.2 then lf a n++[t] else lf a n:=by
 unfold lf
 rw[List.filter_append]
 by_cases h:n<t.2
 · rw[if_pos h];simp [h]
 · rw[if_neg h];simp [h]
theorem rtick_l0 {now by1 n:Int} {l:List Tm} (hn:iadd .i64 now by1=n) (hl:l.length≤10000):∀(d i:Nat) (v:Int) (o:List Tm) (r:List Int),l.length - i=d→i≤l.length→v=(i:Int)→o=lf (l.take i) n→r=(rg (l.take i) n).map (·.1)→P_ref06_Tick_l0 now l by1 v o r=some ((rg l n).map (·.1),lf l n):=by
 intro d
 induction d with
 | zero =>
  intro i v o r hd hi hv ho hr
  rw[P_ref06_Tick_l0_eq]
  repeat (first|refine ip0 ?_|refine jn0 ?_|refine el ?_|refine er ?_)
  rw[ho,hr,List.take_of_length_le (by omega)]
 | succ d ih =>
  intro i v o r hd hi hv ho hr
  have hlt:i<l.length:=by omega
  have hol:o.length≤i:=by rw[ho];have:=lf_len (l.take i) n;simp at this;omega
  have hrl:r.length≤i:=by rw[hr];have:=rg_len (l.take i) n;simp at this;simp;omega
  have et:l.take (i+1)=l.take i++[l[i]]:=by rw[List.take_add_one,List.getElem?_eq_getElem hlt];rfl
  rw[P_ref06_Tick_l0_eq]
  by_cases h:n<l[i].2
  · have e1:lf (l.take (i+1)) n=lf (l.take i) n++[l[i]]:=by rw[et,lf_snoc,if_pos h]
    have e2:rg (l.take (i+1)) n=rg (l.take i) n:=by rw[et,rg_snoc,if_neg (by omega)]
    repeat (first|refine ip (by first|with_reducible rfl | assumption | (simp (disch:=omega) only[ws,wl,wb,hn]<;>omega)|omega) ?_|refine jn (by first|with_reducible rfl | assumption | (simp (disch:=omega) only[ws,wl,wb,hn]<;>omega)|omega) ?_|refine(bnd (geti hv hlt)).trans ?_|refine el ?_|refine er ?_)
    exact ih (i+1) _ _ _ (by omega) (by omega) sd (by rw[e1,ho]) (by rw[e2,hr])
  · have e1:lf (l.take (i+1)) n=lf (l.take i) n:=by rw[et,lf_snoc,if_neg h]
    have e2:rg (l.take (i+1)) n=rg (l.take i) n++[l[i]]:=by rw[et,rg_snoc,if_pos (by omega)]
    repeat (first|refine ip (by first|with_reducible rfl | assumption | (simp (disch:=omega) only[ws,wl,wb,hn]<;>omega)|omega) ?_|refine jn (by first|with_reducible rfl | assumption | (simp (disch:=omega) only[ws,wl,wb,hn]<;>omega)|omega) ?_|refine(bnd (geti hv hlt)).trans ?_|refine el ?_|refine er ?_)
    exact ih (i+1) _ _ _ (by omega) (by omega) sd (by rw[e1,ho]) (by rw[e2,hr];simp)
theorem clone1_ok (l:List Tm) (h:l.length≤1000000):P_slices_Clone_1 l=some ():=by
 rw[P_slices_Clone_1];exact clone_ok l h
theorem tick_f {now:Int} {l:List Tm} (hl:l.length≤10000) {b e:Int} (h:(¬(Wh now l∧0≤b)∧e=2)∨(Wh now l∧0≤b∧1099511627776 - now<b∧e=3)):P_wheel_Tick now l b=some (now,l,[],e)∧P_ref06_Tick now l b=some (now,l,[],e):=by
 rcases h with⟨h,rfl⟩ | ⟨h,h1,h2,rfl⟩
 · by_cases hr:Wh now l
   · have hb:b<0:=Classical.byContradiction fun hh=>h ⟨hr,by omega⟩
     constructor
     · rw[P_wheel_Tick]
       repeat (first|refine ip0 ?_|refine jn0 ?_|refine(bnd (clone1_ok l (by omega))).trans ?_|refine(bnd (pright_t hr)).trans ?_|refine el ?_|refine er ?_)
       rfl
     · rw[P_ref06_Tick]
       repeat (first|refine ip0 ?_|refine jn0 ?_|refine(bnd (rright_t hr)).trans ?_|refine el ?_|refine er ?_)
       rfl
   · constructor
     · rw[P_wheel_Tick]
       repeat (first|refine ip0 ?_|refine jn0 ?_|refine(bnd (clone1_ok l (by omega))).trans ?_|refine(bnd (pright_f (by omega) hr)).trans ?_|refine el ?_|refine er ?_)
       rfl
     · rw[P_ref06_Tick]
       repeat (first|refine ip0 ?_|refine jn0 ?_|refine(bnd (rright_f (by omega) hr)).trans ?_|refine el ?_|refine er ?_)
       rfl
 · have h3:=h.1
   have e:isub .i64 1099511627776 now=1099511627776 - now:=isub64 (by omega)
   constructor
   · rw[P_wheel_Tick]
     repeat (first|refine ip (by first|with_reducible rfl | assumption | (simp (disch:=omega) only[ws,wl,wb,e]<;>omega)|omega) ?_|refine jn (by first|with_reducible rfl | assumption | (simp (disch:=omega) only[ws,wl,wb,e]<;>omega)|omega) ?_|refine(bnd (clone1_ok l (by omega))).trans ?_|refine(bnd (pright_t h)).trans ?_|refine el ?_|refine er ?_)
     rfl
   · rw[P_ref06_Tick]
     repeat (first|refine ip (by first|with_reducible rfl | assumption | (simp (disch:=omega) only[ws,wl,wb,e]<;>omega)|omega) ?_|refine jn (by first|with_reducible rfl | assumption | (simp (disch:=omega) only[ws,wl,wb,e]<;>omega)|omega) ?_|refine(bnd (rright_t h)).trans ?_|refine el ?_|refine er ?_)
     rfl
theorem tick_t {now:Int} {l:List Tm} (h:Wh now l) {b:Int} (h1:0≤b) (h2:b≤1099511627776 - now):P_wheel_Tick now l b=some (now+b,lf l (now+b),(rg l (now+b)).map (·.1),0)∧P_ref06_Tick now l b=some (now+b,lf l (now+b),(rg l (now+b)).map (·.1),0):=by
 have h3:=h.1
 have hl:=h.2.1
 have e:isub .i64 1099511627776 now=1099511627776 - now:=isub64 (by omega)
 have ea:iadd .i64 now b=now+b:=iadd64 (by omega)
 have q:=tick_l0 ea l [] h.2.2 (by simp;omega)
 rw[List.nil_append] at q
 have q2:=rtick_l0 (l:=l) ea (by omega) _ 0 0 [] [] rfl (by omega) rfl rfl rfl
 constructor
 · rw[P_wheel_Tick,← ea]
   rw[← ea] at q
   repeat (first|refine ip (by first|with_reducible rfl | assumption | (simp (disch:=omega) only[ws,wl,wb,e]<;>omega)|omega) ?_|refine jn (by first|with_reducible rfl | assumption | (simp (disch:=omega) only[ws,wl,wb,e]<;>omega)|omega) ?_|refine(bnd (clone1_ok l (by omega))).trans ?_|refine(bnd (pright_t h)).trans ?_|refine(bnd q).trans ?_|refine el ?_|refine er ?_)
   rfl
 · rw[P_ref06_Tick,← ea]
   rw[← ea] at q2
   repeat (first|refine ip (by first|with_reducible rfl | assumption | (simp (disch:=omega) only[ws,wl,wb,e]<;>omega)|omega) ?_|refine jn (by first|with_reducible rfl | assumption | (simp (disch:=omega) only[ws,wl,wb,e]<;>omega)|omega) ?_|refine(bnd (rright_t h)).trans ?_|refine(bnd q2).trans ?_|refine el ?_|refine er ?_)
   rfl
theorem Wh.tick {now:Int} {l:List Tm} (h:Wh now l) {b:Int} (h1:0≤b) (h2:b≤1099511627776 - now):Wh (now+b) (lf l (now+b)):=by
 have:=h.1
 have:=h.2.1
 have:=lf_len l (now+b)
 exact⟨by omega,by omega,h.2.2.lf⟩
end Go.Ws
