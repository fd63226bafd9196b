/-
  ModelReads, plainly.
  Conditions: none.
-/
import Derived.Test.YtipeekdnpocclaaZModelS
import Derived.Test.YtipeekdnpocclaaZSiteActs
set_option linter.unusedVariables false
set_option linter.unusedSimpArgs false
namespace Go.Ws.L10
open L7 L8 L9
set_option linter.unusedVariables false
set_option linter.unusedSimpArgs false
set_option maxHeartbeats 1000000
theorem lsame_l0 {x:List (Int × Int)} (hl:x.length≤100000):∀(d i:Nat) (v:Int),v=(i:Int)→x.length - i=d→i≤x.length→pU x x v=some (.inl ()):=by
 intro d
 induction d with
 | zero =>
  intro i v hv hd hi
  rw[yS]
  repeat (first|refine ip0 ?_|refine jn0 ?_|refine el ?_|refine er ?_)
  rfl
 | succ d ih =>
  intro i v hv hd hi
  have hlt:i<x.length:=by omega
  rw[yS]
  repeat (first|refine ip (by first|with_reducible rfl | assumption | (simp (disch:=omega) only[ws,wl,wb,pN]<;>omega)|omega) ?_|refine jn (by first|with_reducible rfl | assumption | (simp (disch:=omega) only[ws,wl,wb,pN]<;>omega)|omega) ?_|refine(bnd (cU hv hlt)).trans ?_|refine el ?_|refine er ?_)
  exact ih (i+1) _ sd (by omega) (by omega)
theorem aRP {x:List (Int × Int)} (hl:x.length≤100000):rE x x=some true:=by
 rw[rE]
 repeat (first|refine ip (by first|with_reducible rfl | assumption | (simp (disch:=omega) only[ws,wl,wb,pN]<;>omega)|omega) ?_|refine jn (by first|with_reducible rfl | assumption | (simp (disch:=omega) only[ws,wl,wb,pN]<;>omega)|omega) ?_|refine(bnd (lsame_l0 hl _ 0 0 rfl rfl (by omega))).trans ?_|refine el ?_|refine er ?_)
 rfl
theorem aXR {x1:List Rec} (hml:x1.length≤1000000):∀(d i:Nat) (v:Int) (a:List Rec),x1.length - i=d→i≤x1.length→v=(i:Int)→a.length≤i→nA x1 v a=some (a++x1.drop i):=by
 intro d
 induction d with
 | zero =>
  intro i v a hd hi hv ha
  rw[List.drop_of_length_le (by omega),List.append_nil,wN]
  repeat (first|refine ip0 ?_|refine jn0 ?_|refine el ?_|refine er ?_)
  rfl
 | succ d ih =>
  intro i v a hd hi hv ha
  have hlt:i<x1.length:=by omega
  have r1:=ih (i+1) (aL .i64 v 1) (a++[x1[i]]) (by omega) (by omega) sd (by simp;omega)
  rw[List.append_assoc,List.singleton_append] at r1
  rw[List.drop_eq_getElem_cons hlt,wN]
  repeat (first|refine ip0 ?_|refine jn0 ?_|refine(bnd (cU hv hlt)).trans ?_|refine el ?_|refine er ?_)
  exact r1
theorem aWZ {x1:List Rec} (hml:x1.length≤1000000):jL x1=some x1:=by
 have h:=aXR hml _ 0 0 [] rfl (by omega) rfl (Nat.le_refl _)
 rw[List.drop_zero,List.nil_append] at h
 rw[jL]
 repeat (first|refine ip0 ?_|refine jn0 ?_|refine(bnd h).trans ?_|refine el ?_|refine er ?_)
 rfl
def aE6:List Rec→Int→Option Int
 | [],_=>none
 | r::l,t=>if r.1=6∧r.2.1=t then some r.2.2.2 else aE6 l t
theorem aHK:∀(l:List Rec) (r:Rec) (t:Int),aE6 (l++[r]) t=match aE6 l t with | some w=>some w | none=>if r.1=6∧r.2.1=t then some r.2.2.2 else none
 | [],r,t=>rfl
 | x::l,r,t=>by
  simp only[List.cons_append,aE6]
  split
  · rfl
  · exact aHK l r t
def Fs (s:St):Prop:=∀t,aE6 s.G t=bD (kO [] s.G) t
theorem aHD {s:St} {r:Rec} (F:Fs s) (h6:r.1≠6):∀t,aE6 (s.G++[r]) t=bD (kO [] (s.G++[r])) t:=fun t=>by
 rw[aHK,rU,if_neg h6,if_neg (fun h=>h6 h.1),F t]
 split<;>rename_i h<;>rw[h]
theorem Fs.step {s:St} (G:Lg s) (F:Fs s) {r:Rec} {q:Res} (h:Step s r q):Fs q.2.2:=by
 cases h with
 | err r e he=>exact F
 | begin t k n t0 t1 hg=>exact aHD F (by simp)
 | read t k n p t0 t1 hg h0 hk0 h64 hc hgot=>exact aHD F (by simp)
 | add t k n p t0 t1 hg h0 hk0 h64 hx hc hgot h5=>exact aHD F (by simp)
 | vote t k n p t0 t1 hg h0=>exact aHD F (by simp)
 | loc t k n p t0 t1 hg h1 hf=>exact aHD F (by simp)
 | dec1 t k n p t0 t1 hg hx h3 h1 =>
  intro u
  show aE6 (s.G++[(6,t,k,n)]) u=bD (kO [] (s.G++[(6,t,k,n)])) u
  rw[aHK,rU,if_pos rfl,F u,eD]
  by_cases e:u=t
  · have ho:=G.out t p hg
    rw[if_neg h3] at ho
    rw[e,ho,if_pos rfl,if_pos ⟨rfl,rfl⟩]
  · rw[if_neg e,if_neg (fun h=>e h.2.symm)]
    split<;>rename_i h<;>rw[h]
 | dec2 t k n p t0 t1 hg hx h3 ho2 =>
  intro u
  show aE6 (s.G++[(6,t,k,n)]) u=bD (kO [] (s.G++[(6,t,k,n)])) u
  rw[aHK,rU,if_pos rfl,F u,eD]
  by_cases e:u=t
  · have ho:=G.out t p hg
    rw[if_pos h3,ho2] at ho
    rw[e,ho,if_pos rfl]
  · rw[if_neg e,if_neg (fun h=>e h.2.symm)]
    split<;>rename_i h<;>rw[h]
theorem aV9:∀(l:List Rec) (s:St) (n:Nat),okF s l=true→Inv s n→n+l.length≤500→Lg s→Fs s→(∀r∈l,aGE r)→Inv (aCO s l) (n+l.length)∧Lg (aCO s l)∧Fs (aCO s l)∧(aCO s l).G=s.G++l
 | [],s,n,_,I,hn,G,F,hr=>⟨I,G,F,(List.append_nil _).symm⟩
 | r::l,s,n,ho,I,hn,G,F,hr=>by
  simp only[List.length_cons] at hn
  have h0:=hr r (by simp)
  simp only[okF,Bool.and_eq_true] at ho
  have hs:=aJZ I (by omega) h0
  obtain⟨a1,a2,a3,a4⟩:=aV9 l (doF s r).2.2 (n+1) ho.2 (aL6 I (by omega) h0) (by omega) (G.step I hs) (F.step G hs) fun x hx=>hr x (by simp [hx])
  have hg:(doF s r).2.2.G=s.G++[r]:=by
   rcases hs.log with⟨_,h⟩ | ⟨h,_⟩
   · exact h
   · exact absurd (cA.1 ho.1) h
  simp only[List.length_cons,aCO]
  rw[show n+(l.length+1)=n+1+l.length by omega]
  exact⟨a1,a2,a3,by rw[a4,hg,List.append_assoc];rfl⟩
theorem right_l0 {x1:List Rec} (hx:wW x1) (hl:x1.length≤400):∀(d i:Nat) (v:Int) (s:St),x1.length - i=d→i≤x1.length→v=(i:Int)→Inv s i→s.M.length≤i →
 (okF s (x1.drop i)=true→l9 x1 v s.L s.K s.M s.G=some (.inl ()))∧(okF s (x1.drop i)=false→l9 x1 v s.L s.K s.M s.G=some (.inr false)):=by
 intro d
 induction d with
 | zero =>
  intro i v s hd hi hv I hM
  rw[List.drop_of_length_le (by omega)]
  refine⟨fun _=>?_,fun h=>(by cases h)⟩
  rw[xL]
  repeat (first|refine ip0 ?_|refine jn0 ?_|refine el ?_|refine er ?_)
  rfl
 | succ d ih =>
  intro i v s hd hi hv I hM
  have hlt:i<x1.length:=by omega
  have hr:=hx.2 _ (List.getElem_mem hlt)
  have q1:=rdo_ok (I.wf (by omega)) (by omega) hr
  have q2:=aL6 I (by omega) hr
  have hlen:=(aJZ I (by omega) hr).len
  obtain⟨r1,r2⟩:=ih (i+1) (aL .i64 v 1) (doF s x1[i]).2.2 (by omega) (by omega) sd q2 (by omega)
  rw[List.drop_eq_getElem_cons hlt]
  simp only[okF]
  generalize doF s x1[i]=q at q1 r1 r2
  rw[xL]
  by_cases h0:q.1=0
  · have e:eqI q.1 0=true:=cA.2 h0
    rw[e,Bool.true_and]
    refine⟨fun h=>?_,fun h=>?_⟩
    · repeat (first|refine ip0 ?_|refine jn0 ?_|refine(bnd (cU hv hlt)).trans ?_|refine(bnd q1).trans ?_|refine el ?_|refine er ?_)
      exact r1 h
    · repeat (first|refine ip0 ?_|refine jn0 ?_|refine(bnd (cU hv hlt)).trans ?_|refine(bnd q1).trans ?_|refine el ?_|refine er ?_)
      exact r2 h
  · have e:eqI q.1 0=false:=eqf fun h=>h0 (cA.1 h)
    rw[e,Bool.false_and]
    refine⟨fun h=>(by cases h),fun h=>?_⟩
    repeat (first|refine ip0 ?_|refine jn0 ?_|refine(bnd (cU hv hlt)).trans ?_|refine(bnd q1).trans ?_|refine el ?_|refine er ?_)
    rfl
theorem aNK {x1:List Rec} (hx:wW x1) (hl:x1.length≤400):nM x1=some (okF ⟨[],[],[],[]⟩ x1):=by
 have h:=right_l0 hx hl _ 0 0 ⟨[],[],[],[]⟩ rfl (by omega) rfl aKK (Nat.le_refl _)
 rw[List.drop_zero] at h
 rw[nM]
 cases ho:okF ⟨[],[],[],[]⟩ x1 with
 | true=>exact(bnd (h.1 ho)).trans rfl
 | false=>exact(bnd (h.2 ho)).trans rfl
theorem outc_l0 {x1:List Rec} {t:Int} (hml:x1.length≤1000000):∀(d i:Nat) (v:Int),x1.length - i=d→i≤x1.length→v=(i:Int)→kE x1 t v=some (match aE6 (x1.drop i) t with | some w=>.inr w | none=>.inl ()):=by
 intro d
 induction d with
 | zero =>
  intro i v hd hi hv
  rw[List.drop_of_length_le (by omega),mN]
  repeat (first|refine ip0 ?_|refine jn0 ?_|refine el ?_|refine er ?_)
  rfl
 | succ d ih =>
  intro i v hd hi hv
  have hlt:i<x1.length:=by omega
  have r1:=ih (i+1) (aL .i64 v 1) (by omega) (by omega) sd
  rw[List.drop_eq_getElem_cons hlt]
  simp only[aE6]
  by_cases h6:x1[i].1=6
  · by_cases ht:x1[i].2.1=t
    · rw[if_pos ⟨h6,ht⟩,mN]
      repeat (first|refine ip0 ?_|refine jn0 ?_|refine(bnd (cU hv hlt)).trans ?_|refine el ?_|refine er ?_)
      rfl
    · rw[if_neg (fun h=>ht h.2),mN]
      repeat (first|refine ip0 ?_|refine jn0 ?_|refine(bnd (cU hv hlt)).trans ?_|refine el ?_|refine er ?_)
      exact r1
  · rw[if_neg (fun h=>h6 h.1),mN]
    repeat (first|refine ip0 ?_|refine jn0 ?_|refine(bnd (cU hv hlt)).trans ?_|refine el ?_|refine er ?_)
    exact r1
theorem aQZ {x1:List Rec} {o:List (Int × Int)} (hml:x1.length≤1000000) (ho:∀t,aE6 x1 t=bD o t) (t:Int):lJ x1 t=some ((bD o t).getD 0):=by
 have h:=outc_l0 (t:=t) hml _ 0 0 rfl (by omega) rfl
 rw[List.drop_zero,ho t] at h
 rw[lJ]
 cases hg:bD o t with
 | none=>rw[hg] at h;exact(bnd h).trans rfl
 | some w=>rw[hg] at h;exact(bnd h).trans rfl
def prF (o:List (Int × Int)):Nat→Nat→List (Int × Int)
 | _,0=>[]
 | i,d+1=>(match bD o (i:Int) with | some w=>[((i:Int),w)] | none=>[])++prF o (i+1) d
theorem aV3 {o:List (Int × Int)}:∀{d i:Nat} {x:Int × Int},x∈prF o i d→bD o x.1=some x.2
 | 0,i,x,h=>by cases h
 | d+1,i,x,h=>by
  simp only[prF] at h
  rcases List.mem_append.1 h with h | h
  · split at h
    · rename_i w hw
      rcases List.mem_singleton.1 h with rfl
      exact hw
    · cases h
  · exact aV3 h
theorem aU3 {V:Type}:∀(A R:List (Int × V)) (t j:Int) (w:V),j≠t→bD (A++(t,w)::R) j=bD (A++R) j
 | [],R,t,j,w,h=>by simp only[List.nil_append,bD];rw[if_neg h]
 | (k,v)::A,R,t,j,w,h=>by simp only[List.cons_append,bD];rw[aU3 A R t j w h]
theorem aNJ {o o':List (Int × Int)}:∀{d i:Nat},(∀j:Nat,i≤j→bD o (j:Int)=bD o' (j:Int))→prF o i d=prF o' i d
 | 0,i,h=>rfl
 | d+1,i,h=>by
  simp only[prF]
  rw[h i (Nat.le_refl _),aNJ fun j hj=>h j (by omega)]
theorem aK5 {V:Type}:∀{M:List (Int × V)} {x:Int × V},x∈M→∃v,bD M x.1=some v
 | (k,v)::M,x,h=>by
  simp only[bD]
  split
  · exact⟨v,rfl⟩
  · rename_i e
    rcases List.mem_cons.1 h with rfl | h
    · exact absurd rfl e
    · exact aK5 h
theorem aP7:∀(d i:Nat) (o:List (Int × Int)),(o.map (·.1)).Nodup→(∀x∈o,(i:Int)≤x.1∧x.1<((i+d:Nat):Int))→o.length=(prF o i d).length
 | 0,i,o,hn,hk=>by
  cases o with
  | nil=>rfl
  | cons x o=>have:=hk x (by simp);omega
 | d+1,i,o,hn,hk=>by
  simp only[prF,List.length_append]
  cases hg:bD o (i:Int) with
  | none =>
   have:=aP7 d (i+1) o hn (fun x hx=>by
    have h1:=hk x hx
    have:x.1≠(i:Int):=fun e=>by
     obtain⟨v,hv⟩:=aK5 hx
     rw[e,hg] at hv;cases hv
    omega)
   simp only[List.length_nil]
   omega
  | some w =>
   obtain⟨A,R,rfl,hA,_⟩:=aIF hg
   have hn':((A++R).map (·.1)).Nodup:=by
    rw[List.map_append,List.map_cons] at hn
    rw[List.map_append]
    exact hn.sublist (List.Sublist.append_left (List.sublist_cons_self _ _) _)
   have hR:∀x∈R,x.1≠(i:Int):=fun x hx e=>by
    rw[List.map_append,List.map_cons] at hn
    have:=(List.nodup_append.1 hn).2.1
    rw[List.nodup_cons] at this
    exact this.1 (by rw[← e];exact List.mem_map.2 ⟨x,hx,rfl⟩)
   have ih:=aP7 d (i+1) (A++R) hn' (fun x hx=>by
    have hm:x∈A++((i:Int),w)::R:=by
     rcases List.mem_append.1 hx with h | h<;>simp [h]
    have h1:=hk x hm
    have:x.1≠(i:Int):=by
     rcases List.mem_append.1 hx with h | h
     · exact hA x h
     · exact hR x h
    omega)
   rw[aNJ (o:=A++((i:Int),w)::R) (o':=A++R) (fun j hj=>aU3 A R _ _ w (by omega))]
   simp only[List.length_append,List.length_cons,List.length_nil] at ih ⊢
   omega
theorem aLY:∀(l:List Rec) (m:List (Int × Int)),(m.map (·.1)).Nodup→((kO m l).map (·.1)).Nodup
 | [],m,h=>h
 | r::l,m,h=>by
  simp only[kO]
  refine aLY l _ ?_
  split
  · exact yB h _ _
  · exact h
theorem rread_l0 {x1:List Rec} {o:List (Int × Int)} (hml:x1.length≤1000000) (ho:∀t,aE6 x1 t=bD o t) (hv:∀t w,bD o t=some w→w=1∨w=2):∀(d i:Nat) (v:Int) (a:List (Int × Int)),1000 - i=d→i≤1000→v=(i:Int)→a.length≤i→mU x1 v a=some (a++prF o i d):=by
 intro d
 induction d with
 | zero =>
  intro i v a hd hi hv' ha
  rw[s4]
  repeat (first|refine ip0 ?_|refine jn0 ?_|refine el ?_|refine er ?_)
  simp only[prF,List.append_nil]
 | succ d ih =>
  intro i v a hd hi hv' ha
  have q:=aQZ hml ho v
  have r0:=ih (i+1) (aL .i64 v 1) a (by omega) (by omega) sd (by omega)
  have r1:=fun w=>ih (i+1) (aL .i64 v 1) (a++[(v,w)]) (by omega) (by omega) sd (by simp;omega)
  simp only[prF]
  rw[← hv']
  cases hg:bD o v with
  | none =>
   rw[hg] at q
   rw[s4]
   repeat (first|refine ip (by first|with_reducible rfl | assumption | (simp (disch:=omega) only[ws,wl,wb,Option.getD_none]<;>omega)|omega) ?_|refine jn (by first|with_reducible rfl | assumption | (simp (disch:=omega) only[ws,wl,wb,Option.getD_none]<;>omega)|omega) ?_|refine(bnd q).trans ?_|refine el ?_|refine er ?_)
   exact r0
  | some w =>
   rw[hg] at q
   have hw:w≠0:=by rcases hv v w hg with rfl | rfl<;>decide
   have r1:=r1 w
   rw[List.append_assoc] at r1
   rw[s4]
   repeat (first|refine ip (by first|with_reducible rfl | assumption | (simp (disch:=omega) only[ws,wl,wb,Option.getD_some]<;>omega)|omega) ?_|refine jn (by first|with_reducible rfl | assumption | (simp (disch:=omega) only[ws,wl,wb,Option.getD_some]<;>omega)|omega) ?_|refine(bnd q).trans ?_|refine el ?_|refine er ?_)
   exact r1
theorem rread_ok {x1:List Rec} {o:List (Int × Int)} (hx:wW x1) (hl:x1.length≤400) (ok:okF ⟨[],[],[],[]⟩ x1=true) (ho:∀t,aE6 x1 t=bD o t) (hv:∀t w,bD o t=some w→w=1∨w=2):m9 x1=some (prF o 0 1000,0):=by
 have h:=aNK hx hl
 rw[ok] at h
 have h2:=rread_l0 (x1:=x1) (by omega) ho hv 1000 0 0 [] rfl (by omega) rfl (Nat.le_refl _)
 rw[List.nil_append] at h2
 rw[m9]
 repeat (first|refine ip0 ?_|refine jn0 ?_|refine(bnd h).trans ?_|refine(bnd h2).trans ?_|refine el ?_|refine er ?_)
 rfl
theorem aUN {x1:List Rec} {o:List (Int × Int)} (hml:x1.length≤1000000) (ho:∀t,aE6 x1 t=bD o t):∀(d i:Nat) (v:Int) (a:Dl),x1.length - i=d→i≤x1.length→v=(i:Int)→a.length≤i→jP x1 v a=some (a++yN (fun t=>isO o t 1) (x1.drop i)):=by
 intro d
 induction d with
 | zero =>
  intro i v a hd hi hv ha
  rw[List.drop_of_length_le (by omega),k7]
  repeat (first|refine ip0 ?_|refine jn0 ?_|refine el ?_|refine er ?_)
  rw[show yN (fun t=>isO o t 1) []=[] from rfl,List.append_nil]
 | succ d ih =>
  intro i v a hd hi hv ha
  have hlt:i<x1.length:=by omega
  have q:=aQZ hml ho x1[i].2.1
  have r0:=ih (i+1) (aL .i64 v 1) a (by omega) (by omega) sd (by omega)
  have r1:=ih (i+1) (aL .i64 v 1) (a++[x1[i].2.2]) (by omega) (by omega) sd (by simp;omega)
  rw[List.drop_eq_getElem_cons hlt,aNE]
  by_cases h3:x1[i].1=3
  · cases hg:bD o x1[i].2.1 with
    | none =>
     rw[hg] at q
     rw[if_neg (fun h=>by have:=h.2;rw[isO_f hg] at this;cases this),List.nil_append,k7]
     repeat (first|refine ip (by first|with_reducible rfl | assumption | (simp (disch:=omega) only[ws,wl,wb,Option.getD_none]<;>omega)|omega) ?_|refine jn (by first|with_reducible rfl | assumption | (simp (disch:=omega) only[ws,wl,wb,Option.getD_none]<;>omega)|omega) ?_|refine(bnd (cU hv hlt)).trans ?_|refine(bnd q).trans ?_|refine el ?_|refine er ?_)
     exact r0
    | some w =>
     rw[hg] at q
     by_cases h1:w=1
     · rw[if_pos ⟨h3,by rw[aNM hg];exact cA.2 h1⟩,← List.append_assoc,k7]
       repeat (first|refine ip (by first|with_reducible rfl | assumption | (simp (disch:=omega) only[ws,wl,wb,Option.getD_some]<;>omega)|omega) ?_|refine jn (by first|with_reducible rfl | assumption | (simp (disch:=omega) only[ws,wl,wb,Option.getD_some]<;>omega)|omega) ?_|refine(bnd (cU hv hlt)).trans ?_|refine(bnd q).trans ?_|refine el ?_|refine er ?_)
       exact r1
     · rw[if_neg (fun h=>by have:=h.2;rw[aNM hg] at this;exact h1 (cA.1 this)),List.nil_append,k7]
       repeat (first|refine ip (by first|with_reducible rfl | assumption | (simp (disch:=omega) only[ws,wl,wb,Option.getD_some]<;>omega)|omega) ?_|refine jn (by first|with_reducible rfl | assumption | (simp (disch:=omega) only[ws,wl,wb,Option.getD_some]<;>omega)|omega) ?_|refine(bnd (cU hv hlt)).trans ?_|refine(bnd q).trans ?_|refine el ?_|refine er ?_)
       exact r0
  · rw[if_neg (fun h=>h3 h.1),List.nil_append,k7]
    repeat (first|refine ip0 ?_|refine jn0 ?_|refine(bnd (cU hv hlt)).trans ?_|refine el ?_|refine er ?_)
    exact r0
theorem aUT {x1:List Rec} {o:List (Int × Int)} (hml:x1.length≤1000000) (ho:∀t,aE6 x1 t=bD o t):∀(d i:Nat) (n:Nat) (u v:Int),x1.length - i=d→i≤x1.length→v=(i:Int)→u=(n:Int)→n≤i→jM x1 u v=some (((n+cntU o (x1.drop i):Nat):Int)):=by
 intro d
 induction d with
 | zero =>
  intro i n u v hd hi hv hu hn
  rw[List.drop_of_length_le (by omega),kW]
  repeat (first|refine ip0 ?_|refine jn0 ?_|refine el ?_|refine er ?_)
  rw[hu];rfl
 | succ d ih =>
  intro i n u v hd hi hv hu hn
  have hlt:i<x1.length:=by omega
  have q:=aQZ hml ho x1[i].2.1
  have r0:=ih (i+1) n u (aL .i64 v 1) (by omega) (by omega) sd hu (by omega)
  have r1:=ih (i+1) (n+1) (aL .i64 u 1) (aL .i64 v 1) (by omega) (by omega) sd sd (by omega)
  have hc:cntU o (x1[i]::x1.drop (i+1))=(if eqI x1[i].1 5 && isO o x1[i].2.1 2 then 1 else 0)+cntU o (x1.drop (i+1)):=by
   unfold cntU
   rw[List.filter_cons]
   split<;>simp<;>omega
  rw[List.drop_eq_getElem_cons hlt,hc]
  by_cases h5:x1[i].1=5
  · have e5:=cA.2 h5
    rw[e5]
    cases hg:bD o x1[i].2.1 with
    | none =>
     rw[hg] at q
     rw[isO_f hg,kW]
     repeat (first|refine ip (by first|with_reducible rfl | assumption | (simp (disch:=omega) only[ws,wl,wb,Option.getD_none]<;>omega)|omega) ?_|refine jn (by first|with_reducible rfl | assumption | (simp (disch:=omega) only[ws,wl,wb,Option.getD_none]<;>omega)|omega) ?_|refine(bnd (cU hv hlt)).trans ?_|refine(bnd q).trans ?_|refine el ?_|refine er ?_)
     rw[r0];simp
    | some w =>
     rw[hg] at q
     rw[aNM hg]
     by_cases h2:w=2
     · have e2:=cA.2 h2
       rw[e2,kW]
       repeat (first|refine ip (by first|with_reducible rfl | assumption | (simp (disch:=omega) only[ws,wl,wb,Option.getD_some]<;>omega)|omega) ?_|refine jn (by first|with_reducible rfl | assumption | (simp (disch:=omega) only[ws,wl,wb,Option.getD_some]<;>omega)|omega) ?_|refine(bnd (cU hv hlt)).trans ?_|refine(bnd q).trans ?_|refine el ?_|refine er ?_)
       rw[r1];simp;omega
     · have e2:eqI w 2=false:=eqf fun h=>h2 (cA.1 h)
       rw[e2,kW]
       repeat (first|refine ip (by first|with_reducible rfl | assumption | (simp (disch:=omega) only[ws,wl,wb,Option.getD_some]<;>omega)|omega) ?_|refine jn (by first|with_reducible rfl | assumption | (simp (disch:=omega) only[ws,wl,wb,Option.getD_some]<;>omega)|omega) ?_|refine(bnd (cU hv hlt)).trans ?_|refine(bnd q).trans ?_|refine el ?_|refine er ?_)
       rw[r0];simp
  · have e5:eqI x1[i].1 5=false:=eqf fun h=>h5 (cA.1 h)
    rw[e5,kW]
    repeat (first|refine ip0 ?_|refine jn0 ?_|refine(bnd (cU hv hlt)).trans ?_|refine el ?_|refine er ?_)
    rw[r0];simp
theorem reads_l1 {o:List (Int × Int)} {pr:List (Int × Int)} {e:Int} (hml:pr.length≤1000000) (hp:∀x∈pr,bD o x.1=some x.2):∀(d i:Nat) (v:Int),pr.length - i=d→i≤pr.length→v=(i:Int)→iR o (pr,e) v=some (.inl ()):=by
 intro d
 induction d with
 | zero =>
  intro i v hd hi hv
  rw[rN]
  repeat (first|refine ip0 ?_|refine jn0 ?_|refine el ?_|refine er ?_)
  rfl
 | succ d ih =>
  intro i v hd hi hv
  have hlt:i<pr.length:=by omega
  have hg:=hp _ (List.getElem_mem hlt)
  have hh:=aNQ hg
  rw[rN]
  repeat (first|refine ip (by first|with_reducible rfl | assumption | (simp (disch:=omega) only[ws,wl,wb,pN]<;>omega)|omega) ?_|refine jn (by first|with_reducible rfl | assumption | (simp (disch:=omega) only[ws,wl,wb,pN]<;>omega)|omega) ?_|refine(bnd (cU hv hlt)).trans ?_|refine(bnd hg).trans ?_|refine el ?_|refine er ?_)
  exact ih (i+1) _ (by omega) (by omega) sd
theorem prF_le (o:List (Int × Int)):∀(d i:Nat),(prF o i d).length≤d
 | 0,i=>Nat.le_refl _
 | d+1,i=>by
  have:=prF_le o d (i+1)
  simp only[prF,List.length_append]
  split<;>simp<;>omega
theorem aRR (y0:List Rec) (w0:w_t22 y0):kI y0=some true:=by
 have hx:=recs_of w0
 have hml:=hx.1
 unfold maxLen at hml
 by_cases hl:y0.length≤100
 rotate_left
 · rw[kI]
   repeat (first|refine ip0 ?_|refine jn0 ?_|refine(bnd aLM).trans ?_|refine el ?_|refine er ?_)
   rfl
 have ht:=aWZ (x1:=y0) (by omega)
 have hrr:=aNK hx (by omega)
 cases ok:okF ⟨[],[],[],[]⟩ y0 with
 | false =>
  rw[ok] at hrr
  have a1:=(aA4 hx (by omega)).2 ok
  have a2:m9 y0=some ([],4):=by
   rw[m9]
   repeat (first|refine ip (by first|with_reducible rfl | assumption | (simp (disch:=omega) only[ws,wl,wb,Bool.false_eq_true,not_false_eq_true]<;>omega)|omega) ?_|refine jn (by first|with_reducible rfl | assumption | (simp (disch:=omega) only[ws,wl,wb,Bool.false_eq_true,not_false_eq_true]<;>omega)|omega) ?_|refine(bnd hrr).trans ?_|refine el ?_|refine er ?_)
   rfl
  have a3:=aUF hx (by omega) ok
  have a4:kX y0=some ([],4):=by
   rw[kX]
   repeat (first|refine ip (by first|with_reducible rfl | assumption | (simp (disch:=omega) only[ws,wl,wb,Bool.false_eq_true,not_false_eq_true]<;>omega)|omega) ?_|refine jn (by first|with_reducible rfl | assumption | (simp (disch:=omega) only[ws,wl,wb,Bool.false_eq_true,not_false_eq_true]<;>omega)|omega) ?_|refine(bnd hrr).trans ?_|refine el ?_|refine er ?_)
   rfl
  have a5:=aUK hx (by omega) ok
  have a6:k8 y0=some (0,4):=by
   rw[k8]
   repeat (first|refine ip (by first|with_reducible rfl | assumption | (simp (disch:=omega) only[ws,wl,wb,Bool.false_eq_true,not_false_eq_true]<;>omega)|omega) ?_|refine jn (by first|with_reducible rfl | assumption | (simp (disch:=omega) only[ws,wl,wb,Bool.false_eq_true,not_false_eq_true]<;>omega)|omega) ?_|refine(bnd hrr).trans ?_|refine el ?_|refine er ?_)
   rfl
  have a7:=aRP (x:=[]) (by simp)
  have a8:j7 ([],4) 0=some (.inl ()):=by
   rw[aAJ]
   repeat (first|refine ip (by first|with_reducible rfl | assumption | (simp (disch:=omega) only[ws,wl,wb,List.length_nil]<;>omega)|omega) ?_|refine jn (by first|with_reducible rfl | assumption | (simp (disch:=omega) only[ws,wl,wb,List.length_nil]<;>omega)|omega) ?_|refine el ?_|refine er ?_)
   rfl
  rw[kI]
  repeat (first|refine ip0 ?_|refine jn0 ?_|refine(bnd aLM).trans ?_|refine(bnd ht).trans ?_|refine(bnd a1).trans ?_|refine(bnd a2).trans ?_|refine(bnd a3).trans ?_|refine(bnd a4).trans ?_|refine(bnd a5).trans ?_|refine(bnd a6).trans ?_|refine(bnd a7).trans ?_|refine(bnd a8).trans ?_|refine el ?_|refine er ?_)
  rfl
 | true =>
  rw[ok] at hrr
  obtain⟨I,G,F,hG⟩:=aV9 y0 _ 0 ok aKK (by omega) lg_nil (fun _=>rfl) hx.2
  rw[List.nil_append] at hG
  have hF:∀t,aE6 y0 t=bD (kO [] y0) t:=by rw[← hG];exact F
  have hM:∀t w,bD (kO [] y0) t=some w→(w=1∨w=2)∧0≤t∧t<1000:=fun t w hw=>by
   rw[← hG] at hw
   cases hg:bD (aCO ⟨[],[],[],[]⟩ y0).M t with
   | none=>rw[G.non t hg] at hw;cases hw
   | some p =>
    have ho:=G.out t p hg
    rw[hw] at ho
    have hpt:=I.pt t p hg
    by_cases h3:p.1=3
    · rw[if_pos h3] at ho
      cases ho
      exact⟨(rt_out hpt.1).1 h3,hpt.2⟩
    · rw[if_neg h3] at ho;cases ho
  have hkey:∀r∈y0,r.1=3→0≤r.2.2.1∧r.2.2.1<64∧InR r.2.2.2:=by rw[← hG];exact G.key
  have a1:=(aA4 hx (by omega)).1 ok
  have a2:=rread_ok hx (by omega) ok hF (fun t w h=>(hM t w h).1)
  have a3:=aT8 hx (by omega) hkey ok
  have a4:kX y0=some (ofL (aJN y0),0):=by
   have h2:=aUN (x1:=y0) (by omega) hF _ 0 0 [] rfl (by omega) rfl (Nat.le_refl _)
   rw[List.drop_zero,List.nil_append] at h2
   have h3:=of_ok (l:=aJN y0) (by have:=aRT (fun t=>isO (kO [] y0) t 1) y0;unfold aJN;omega)
   unfold aJN at h3 ⊢
   rw[kX]
   repeat (first|refine ip0 ?_|refine jn0 ?_|refine(bnd hrr).trans ?_|refine(bnd h2).trans ?_|refine(bnd h3).trans ?_|refine el ?_|refine er ?_)
   rfl
  have a5:=aTW hx (by omega) ok
  have a6:k8 y0=some (((cntU (kO [] y0) y0:Nat):Int),0):=by
   have h2:=aUT (x1:=y0) (by omega) hF _ 0 0 0 0 rfl (by omega) rfl rfl (Nat.le_refl _)
   rw[List.drop_zero,Nat.zero_add] at h2
   rw[k8]
   repeat (first|refine ip0 ?_|refine jn0 ?_|refine(bnd hrr).trans ?_|refine(bnd h2).trans ?_|refine el ?_|refine er ?_)
   rfl
  have hl2:=aUY (aJN y0)
  have a7:=aRP (x:=ofL (aJN y0)) (by omega)
  have hnd:=aLY y0 [] List.nodup_nil
  have hlen:=aP7 1000 0 (kO [] y0) hnd (fun x hx=>by
   obtain⟨_,h1,h2⟩:=hM _ _ (aVH hnd x hx)
   omega)
  have hle:=prF_le (kO [] y0) 1000 0
  have a8:=reads_l1 (o:=kO [] y0) (pr:=prF (kO [] y0) 0 1000) (e:=0) (by omega) (fun x hx=>aV3 hx) _ 0 0 rfl (by omega) rfl
  have hee:eqI (nI (kO [] y0).length) (nI (prF (kO [] y0) 0 1000).length)=true:=by rw[hlen];exact pN _
  rw[kI]
  repeat (first|refine ip (by first|with_reducible rfl | assumption | (simp (disch:=omega) only[ws,wl,wb,pN,hee]<;>omega)|omega) ?_|refine jn (by first|with_reducible rfl | assumption | (simp (disch:=omega) only[ws,wl,wb,pN,hee]<;>omega)|omega) ?_|refine(bnd aLM).trans ?_|refine(bnd ht).trans ?_|refine(bnd a1).trans ?_|refine(bnd a2).trans ?_|refine(bnd a3).trans ?_|refine(bnd a4).trans ?_|refine(bnd a5).trans ?_|refine(bnd a6).trans ?_|refine(bnd a7).trans ?_|refine(bnd a8).trans ?_|refine el ?_|refine er ?_)
  rfl
end Go.Ws.L10
