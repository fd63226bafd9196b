/-
  ModelReads, plainly.
  Conditions: none.
-/
import Derived.Test.YtipeekdnpocclaaZModelS
import Derived.Test.YtipeekdnpocclaaZSiteActs
set_option linter.unusedVariables false
set_option linter.unusedSimpArgs false
namespace Go.Ws.L10
open L7 L8 L9
set_option linter.unusedVariables false
set_option linter.unusedSimpArgs false
set_option maxHeartbeats 1000000
theorem lsame_l0 {x:List (Int × Int)} (hl:x.length≤100000):∀(d i:Nat) (v:Int),v=(i:Int)→x.length - i=d→i≤x.length→pO x x v=some (.inl ()):=by
 intro d
 induction d with
 | zero =>
  intro i v hv hd hi
  rw[zK]
  rnz[][]
  rfl
 | succ d ih =>
  intro i v hv hd hi
  have hlt:i<x.length:=by omega
  rw[zK]
  rnz[wA][(cU hv hlt)]
  exact ih (i+1) _ (by sdz[]) (by omega) (by omega)
theorem aSK {x:List (Int × Int)} (hl:x.length≤100000):rA x x=some true:=by
 rw[rA]
 rnz[wA][(lsame_l0 hl _ 0 0 rfl rfl (by omega))]
 rfl
theorem aXK {x1:List Rec} (hml:x1.length≤1000000):∀(d i:Nat) (v:Int) (a:List Rec),x1.length - i=d→i≤x1.length→v=(i:Int)→a.length≤i→m6 x1 v a=some (a++x1.drop i):=by
 intro d
 induction d with
 | zero =>
  intro i v a hd hi hv ha
  rw[List.drop_of_length_le (by omega),List.append_nil,wK]
  rnz[][]
  rfl
 | succ d ih =>
  intro i v a hd hi hv ha
  have hlt:i<x1.length:=by omega
  have r1:=ih (i+1) (aL .i64 v 1) (a++[x1[i]]) (by omega) (by omega) (by sdz[]) (by simp;omega)
  rw[List.append_assoc,List.singleton_append] at r1
  rw[List.drop_eq_getElem_cons hlt,wK]
  rnz[][(cU hv hlt)]
  exact r1
theorem aXY {x1:List Rec} (hml:x1.length≤1000000):jP x1=some x1:=by
 have h:=aXK hml _ 0 0 [] rfl (by omega) rfl (Nat.le_refl _)
 rw[List.drop_zero,List.nil_append] at h
 rw[jP]
 rnz[][h]
 rfl
def aE5:List Rec→Int→Option Int
 | [],_=>none
 | r::l,t=>if r.1=6∧r.2.1=t then some r.2.2.2 else aE5 l t
theorem aHM:∀(l:List Rec) (r:Rec) (t:Int),aE5 (l++[r]) t=match aE5 l t with | some w=>some w | none=>if r.1=6∧r.2.1=t then some r.2.2.2 else none
 | [],r,t=>rfl
 | x::l,r,t=>by
  simp only[List.cons_append,aE5]
  split
  · rfl
  · exact aHM l r t
def Fs (s:St):Prop:=∀t,aE5 s.G t=bD (kL [] s.G) t
theorem aG3 {s:St} {r:Rec} (F:Fs s) (h6:r.1≠6):∀t,aE5 (s.G++[r]) t=bD (kL [] (s.G++[r])) t:=fun t=>by
 rw[aHM,r8,if_neg h6,if_neg (fun h=>h6 h.1),F t]
 split<;>rename_i h<;>rw[h]
theorem Fs.step {s:St} (G:Lg s) (F:Fs s) {r:Rec} {q:Res} (h:Step s r q):Fs q.2.2:=by
 cases h with
 | err r e he=>exact F
 | begin t k n t0 t1 hg=>exact aG3 F (by simp)
 | read t k n p t0 t1 hg h0 hk0 h64 hc hgot=>exact aG3 F (by simp)
 | add t k n p t0 t1 hg h0 hk0 h64 hx hc hgot h5=>exact aG3 F (by simp)
 | vote t k n p t0 t1 hg h0=>exact aG3 F (by simp)
 | loc t k n p t0 t1 hg h1 hf=>exact aG3 F (by simp)
 | dec1 t k n p t0 t1 hg hx h3 h1 =>
  intro u
  show aE5 (s.G++[(6,t,k,n)]) u=bD (kL [] (s.G++[(6,t,k,n)])) u
  rw[aHM,r8,if_pos rfl,F u,eD]
  by_cases e:u=t
  · have ho:=G.out t p hg
    rw[if_neg h3] at ho
    rw[e,ho,if_pos rfl,if_pos ⟨rfl,rfl⟩]
  · rw[if_neg e,if_neg (fun h=>e h.2.symm)]
    split<;>rename_i h<;>rw[h]
 | dec2 t k n p t0 t1 hg hx h3 ho2 =>
  intro u
  show aE5 (s.G++[(6,t,k,n)]) u=bD (kL [] (s.G++[(6,t,k,n)])) u
  rw[aHM,r8,if_pos rfl,F u,eD]
  by_cases e:u=t
  · have ho:=G.out t p hg
    rw[if_pos h3,ho2] at ho
    rw[e,ho,if_pos rfl]
  · rw[if_neg e,if_neg (fun h=>e h.2.symm)]
    split<;>rename_i h<;>rw[h]
theorem aU0:∀(l:List Rec) (s:St) (n:Nat),okF s l=true→Inv s n→n+l.length≤500→Lg s→Fs s→(∀r∈l,aGE r)→Inv (aCF s l) (n+l.length)∧Lg (aCF s l)∧Fs (aCF s l)∧(aCF s l).G=s.G++l
 | [],s,n,_,I,hn,G,F,hr=>⟨I,G,F,(List.append_nil _).symm⟩
 | r::l,s,n,ho,I,hn,G,F,hr=>by
  simp only[List.length_cons] at hn
  have h0:=hr r (by simp)
  simp only[okF,Bool.and_eq_true] at ho
  have hs:=aJY I (by omega) h0
  obtain⟨a1,a2,a3,a4⟩:=aU0 l (doF s r).2.2 (n+1) ho.2 (aLT I (by omega) h0) (by omega) (G.step I hs) (F.step G hs) fun x hx=>hr x (by simp [hx])
  have hg:(doF s r).2.2.G=s.G++[r]:=by
   rcases hs.log with⟨_,h⟩ | ⟨h,_⟩
   · exact h
   · exact absurd (cA.1 ho.1) h
  simp only[List.length_cons,aCF]
  rw[show n+(l.length+1)=n+1+l.length by omega]
  exact⟨a1,a2,a3,by rw[a4,hg,List.append_assoc];rfl⟩
theorem right_l0 {x1:List Rec} (hx:wT x1) (hl:x1.length≤400):∀(d i:Nat) (v:Int) (s:St),x1.length - i=d→i≤x1.length→v=(i:Int)→Inv s i→s.M.length≤i →
 (okF s (x1.drop i)=true→l8 x1 v s.L s.K s.M s.G=some (.inl ()))∧(okF s (x1.drop i)=false→l8 x1 v s.L s.K s.M s.G=some (.inr false)):=by
 intro d
 induction d with
 | zero =>
  intro i v s hd hi hv I hM
  rw[List.drop_of_length_le (by omega)]
  refine⟨fun _=>?_,fun h=>(by cases h)⟩
  rw[xI]
  rnz[][]
  rfl
 | succ d ih =>
  intro i v s hd hi hv I hM
  have hlt:i<x1.length:=by omega
  have hr:=hx.2 _ (List.getElem_mem hlt)
  have q1:=rdo_ok (I.wf (by omega)) (by omega) hr
  have q2:=aLT I (by omega) hr
  have hlen:=(aJY I (by omega) hr).len
  obtain⟨r1,r2⟩:=ih (i+1) (aL .i64 v 1) (doF s x1[i]).2.2 (by omega) (by omega) (by sdz[]) q2 (by omega)
  rw[List.drop_eq_getElem_cons hlt]
  simp only[okF]
  generalize doF s x1[i]=q at q1 r1 r2
  rw[xI]
  by_cases h0:q.1=0
  · have e:eqI q.1 0=true:=cA.2 h0
    rw[e,Bool.true_and]
    refine⟨fun h=>?_,fun h=>?_⟩
    · rnz[][(cU hv hlt),q1]
      exact r1 h
    · rnz[][(cU hv hlt),q1]
      exact r2 h
  · have e:eqI q.1 0=false:=eqf fun h=>h0 (cA.1 h)
    rw[e,Bool.false_and]
    refine⟨fun h=>(by cases h),fun h=>?_⟩
    rnz[][(cU hv hlt),q1]
    rfl
theorem aN3 {x1:List Rec} (hx:wT x1) (hl:x1.length≤400):nQ x1=some (okF ⟨[],[],[],[]⟩ x1):=by
 have h:=right_l0 hx hl _ 0 0 ⟨[],[],[],[]⟩ rfl (by omega) rfl aJ7 (Nat.le_refl _)
 rw[List.drop_zero] at h
 rw[nQ]
 cases ho:okF ⟨[],[],[],[]⟩ x1 with
 | true=>exact(bnd (h.1 ho)).trans rfl
 | false=>exact(bnd (h.2 ho)).trans rfl
theorem outc_l0 {x1:List Rec} {t:Int} (hml:x1.length≤1000000):∀(d i:Nat) (v:Int),x1.length - i=d→i≤x1.length→v=(i:Int)→kH x1 t v=some (match aE5 (x1.drop i) t with | some w=>.inr w | none=>.inl ()):=by
 intro d
 induction d with
 | zero =>
  intro i v hd hi hv
  rw[List.drop_of_length_le (by omega),mN]
  rnz[][]
  rfl
 | succ d ih =>
  intro i v hd hi hv
  have hlt:i<x1.length:=by omega
  have r1:=ih (i+1) (aL .i64 v 1) (by omega) (by omega) (by sdz[])
  rw[List.drop_eq_getElem_cons hlt]
  simp only[aE5]
  by_cases h6:x1[i].1=6
  · by_cases ht:x1[i].2.1=t
    · rw[if_pos ⟨h6,ht⟩,mN]
      rnz[][(cU hv hlt)]
      rfl
    · rw[if_neg (fun h=>ht h.2),mN]
      rnz[][(cU hv hlt)]
      exact r1
  · rw[if_neg (fun h=>h6 h.1),mN]
    rnz[][(cU hv hlt)]
    exact r1
theorem aO8 {x1:List Rec} {o:List (Int × Int)} (hml:x1.length≤1000000) (ho:∀t,aE5 x1 t=bD o t) (t:Int):lI x1 t=some ((bD o t).getD 0):=by
 have h:=outc_l0 (t:=t) hml _ 0 0 rfl (by omega) rfl
 rw[List.drop_zero,ho t] at h
 rw[lI]
 cases hg:bD o t with
 | none=>rw[hg] at h;exact(bnd h).trans rfl
 | some w=>rw[hg] at h;exact(bnd h).trans rfl
def prF (o:List (Int × Int)):Nat→Nat→List (Int × Int)
 | _,0=>[]
 | i,d+1=>(match bD o (i:Int) with | some w=>[((i:Int),w)] | none=>[])++prF o (i+1) d
theorem aV3 {o:List (Int × Int)}:∀{d i:Nat} {x:Int × Int},x∈prF o i d→bD o x.1=some x.2
 | 0,i,x,h=>by cases h
 | d+1,i,x,h=>by
  simp only[prF] at h
  rcases List.mem_append.1 h with h | h
  · split at h
    · rename_i w hw
      rcases List.mem_singleton.1 h with rfl
      exact hw
    · cases h
  · exact aV3 h
theorem aVZ {V:Type}:∀(A R:List (Int × V)) (t j:Int) (w:V),j≠t→bD (A++(t,w)::R) j=bD (A++R) j
 | [],R,t,j,w,h=>by simp only[List.nil_append,bD];rw[if_neg h]
 | (k,v)::A,R,t,j,w,h=>by simp only[List.cons_append,bD];rw[aVZ A R t j w h]
theorem aN8 {o o':List (Int × Int)}:∀{d i:Nat},(∀j:Nat,i≤j→bD o (j:Int)=bD o' (j:Int))→prF o i d=prF o' i d
 | 0,i,h=>rfl
 | d+1,i,h=>by
  simp only[prF]
  rw[h i (Nat.le_refl _),aN8 fun j hj=>h j (by omega)]
theorem aLM {V:Type}:∀{M:List (Int × V)} {x:Int × V},x∈M→∃v,bD M x.1=some v
 | (k,v)::M,x,h=>by
  simp only[bD]
  split
  · exact⟨v,rfl⟩
  · rename_i e
    rcases List.mem_cons.1 h with rfl | h
    · exact absurd rfl e
    · exact aLM h
theorem aPD:∀(d i:Nat) (o:List (Int × Int)),(o.map (·.1)).Nodup→(∀x∈o,(i:Int)≤x.1∧x.1<((i+d:Nat):Int))→o.length=(prF o i d).length
 | 0,i,o,hn,hk=>by
  cases o with
  | nil=>rfl
  | cons x o=>have:=hk x (by simp);omega
 | d+1,i,o,hn,hk=>by
  simp only[prF,List.length_append]
  cases hg:bD o (i:Int) with
  | none =>
   have:=aPD d (i+1) o hn (fun x hx=>by
    have h1:=hk x hx
    have:x.1≠(i:Int):=fun e=>by
     obtain⟨v,hv⟩:=aLM hx
     rw[e,hg] at hv;cases hv
    omega)
   simp only[List.length_nil]
   omega
  | some w =>
   obtain⟨A,R,rfl,hA,_⟩:=aIW hg
   have hn':((A++R).map (·.1)).Nodup:=by
    rw[List.map_append,List.map_cons] at hn
    rw[List.map_append]
    exact hn.sublist (List.Sublist.append_left (List.sublist_cons_self _ _) _)
   have hR:∀x∈R,x.1≠(i:Int):=fun x hx e=>by
    rw[List.map_append,List.map_cons] at hn
    have:=(List.nodup_append.1 hn).2.1
    rw[List.nodup_cons] at this
    exact this.1 (by rw[← e];exact List.mem_map.2 ⟨x,hx,rfl⟩)
   have ih:=aPD d (i+1) (A++R) hn' (fun x hx=>by
    have hm:x∈A++((i:Int),w)::R:=by
     rcases List.mem_append.1 hx with h | h<;>simp [h]
    have h1:=hk x hm
    have:x.1≠(i:Int):=by
     rcases List.mem_append.1 hx with h | h
     · exact hA x h
     · exact hR x h
    omega)
   rw[aN8 (o:=A++((i:Int),w)::R) (o':=A++R) (fun j hj=>aVZ A R _ _ w (by omega))]
   simp only[List.length_append,List.length_cons,List.length_nil] at ih ⊢
   omega
theorem aLJ:∀(l:List Rec) (m:List (Int × Int)),(m.map (·.1)).Nodup→((kL m l).map (·.1)).Nodup
 | [],m,h=>h
 | r::l,m,h=>by
  simp only[kL]
  refine aLJ l _ ?_
  split
  · exact xV h _ _
  · exact h
theorem rread_l0 {x1:List Rec} {o:List (Int × Int)} (hml:x1.length≤1000000) (ho:∀t,aE5 x1 t=bD o t) (hv:∀t w,bD o t=some w→w=1∨w=2):∀(d i:Nat) (v:Int) (a:List (Int × Int)),1000 - i=d→i≤1000→v=(i:Int)→a.length≤i→mQ x1 v a=some (a++prF o i d):=by
 intro d
 induction d with
 | zero =>
  intro i v a hd hi hv' ha
  rw[sV]
  rnz[][]
  simp only[prF,List.append_nil]
 | succ d ih =>
  intro i v a hd hi hv' ha
  have q:=aO8 hml ho v
  have r0:=ih (i+1) (aL .i64 v 1) a (by omega) (by omega) (by sdz[]) (by omega)
  have r1:=fun w=>ih (i+1) (aL .i64 v 1) (a++[(v,w)]) (by omega) (by omega) (by sdz[]) (by simp;omega)
  simp only[prF]
  rw[← hv']
  cases hg:bD o v with
  | none =>
   rw[hg] at q
   rw[sV]
   rnz[Option.getD_none][q]
   exact r0
  | some w =>
   rw[hg] at q
   have hw:w≠0:=by rcases hv v w hg with rfl | rfl<;>decide
   have r1:=r1 w
   rw[List.append_assoc] at r1
   rw[sV]
   rnz[Option.getD_some][q]
   exact r1
theorem rread_ok {x1:List Rec} {o:List (Int × Int)} (hx:wT x1) (hl:x1.length≤400) (ok:okF ⟨[],[],[],[]⟩ x1=true) (ho:∀t,aE5 x1 t=bD o t) (hv:∀t w,bD o t=some w→w=1∨w=2):m8 x1=some (prF o 0 1000,0):=by
 have h:=aN3 hx hl
 rw[ok] at h
 have h2:=rread_l0 (x1:=x1) (by omega) ho hv 1000 0 0 [] rfl (by omega) rfl (Nat.le_refl _)
 rw[List.nil_append] at h2
 rw[m8]
 rnz[][h,h2]
 rfl
theorem aTG {x1:List Rec} {o:List (Int × Int)} (hml:x1.length≤1000000) (ho:∀t,aE5 x1 t=bD o t):∀(d i:Nat) (v:Int) (a:Dl),x1.length - i=d→i≤x1.length→v=(i:Int)→a.length≤i→jK x1 v a=some (a++zL (fun t=>isO o t 1) (x1.drop i)):=by
 intro d
 induction d with
 | zero =>
  intro i v a hd hi hv ha
  rw[List.drop_of_length_le (by omega),kQ]
  rnz[][]
  rw[show zL (fun t=>isO o t 1) []=[] from rfl,List.append_nil]
 | succ d ih =>
  intro i v a hd hi hv ha
  have hlt:i<x1.length:=by omega
  have q:=aO8 hml ho x1[i].2.1
  have r0:=ih (i+1) (aL .i64 v 1) a (by omega) (by omega) (by sdz[]) (by omega)
  have r1:=ih (i+1) (aL .i64 v 1) (a++[x1[i].2.2]) (by omega) (by omega) (by sdz[]) (by simp;omega)
  rw[List.drop_eq_getElem_cons hlt,aN1]
  by_cases h3:x1[i].1=3
  · cases hg:bD o x1[i].2.1 with
    | none =>
     rw[hg] at q
     rw[if_neg (fun h=>by have:=h.2;rw[isO_f hg] at this;cases this),List.nil_append,kQ]
     rnz[Option.getD_none][(cU hv hlt),q]
     exact r0
    | some w =>
     rw[hg] at q
     by_cases h1:w=1
     · rw[if_pos ⟨h3,by rw[aNV hg];exact cA.2 h1⟩,← List.append_assoc,kQ]
       rnz[Option.getD_some][(cU hv hlt),q]
       exact r1
     · rw[if_neg (fun h=>by have:=h.2;rw[aNV hg] at this;exact h1 (cA.1 this)),List.nil_append,kQ]
       rnz[Option.getD_some][(cU hv hlt),q]
       exact r0
  · rw[if_neg (fun h=>h3 h.1),List.nil_append,kQ]
    rnz[][(cU hv hlt)]
    exact r0
theorem aTL {x1:List Rec} {o:List (Int × Int)} (hml:x1.length≤1000000) (ho:∀t,aE5 x1 t=bD o t):∀(d i:Nat) (n:Nat) (u v:Int),x1.length - i=d→i≤x1.length→v=(i:Int)→u=(n:Int)→n≤i→jN x1 u v=some (((n+cntU o (x1.drop i):Nat):Int)):=by
 intro d
 induction d with
 | zero =>
  intro i n u v hd hi hv hu hn
  rw[List.drop_of_length_le (by omega),kS]
  rnz[][]
  rw[hu];rfl
 | succ d ih =>
  intro i n u v hd hi hv hu hn
  have hlt:i<x1.length:=by omega
  have q:=aO8 hml ho x1[i].2.1
  have r0:=ih (i+1) n u (aL .i64 v 1) (by omega) (by omega) (by sdz[]) hu (by omega)
  have r1:=ih (i+1) (n+1) (aL .i64 u 1) (aL .i64 v 1) (by omega) (by omega) (by sdz[]) (by sdz[]) (by omega)
  have hc:cntU o (x1[i]::x1.drop (i+1))=(if eqI x1[i].1 5 && isO o x1[i].2.1 2 then 1 else 0)+cntU o (x1.drop (i+1)):=by
   unfold cntU
   rw[List.filter_cons]
   split<;>simp<;>omega
  rw[List.drop_eq_getElem_cons hlt,hc]
  by_cases h5:x1[i].1=5
  · have e5:=cA.2 h5
    rw[e5]
    cases hg:bD o x1[i].2.1 with
    | none =>
     rw[hg] at q
     rw[isO_f hg,kS]
     rnz[Option.getD_none][(cU hv hlt),q]
     rw[r0];simp
    | some w =>
     rw[hg] at q
     rw[aNV hg]
     by_cases h2:w=2
     · have e2:=cA.2 h2
       rw[e2,kS]
       rnz[Option.getD_some][(cU hv hlt),q]
       rw[r1];simp;omega
     · have e2:eqI w 2=false:=eqf fun h=>h2 (cA.1 h)
       rw[e2,kS]
       rnz[Option.getD_some][(cU hv hlt),q]
       rw[r0];simp
  · have e5:eqI x1[i].1 5=false:=eqf fun h=>h5 (cA.1 h)
    rw[e5,kS]
    rnz[][(cU hv hlt)]
    rw[r0];simp
theorem reads_l1 {o:List (Int × Int)} {pr:List (Int × Int)} {e:Int} (hml:pr.length≤1000000) (hp:∀x∈pr,bD o x.1=some x.2):∀(d i:Nat) (v:Int),pr.length - i=d→i≤pr.length→v=(i:Int)→iR o (pr,e) v=some (.inl ()):=by
 intro d
 induction d with
 | zero =>
  intro i v hd hi hv
  rw[r7]
  rnz[][]
  rfl
 | succ d ih =>
  intro i v hd hi hv
  have hlt:i<pr.length:=by omega
  have hg:=hp _ (List.getElem_mem hlt)
  have hh:=aNN hg
  rw[r7]
  rnz[wA][(cU hv hlt),hg]
  exact ih (i+1) _ (by omega) (by omega) (by sdz[])
theorem prF_le (o:List (Int × Int)):∀(d i:Nat),(prF o i d).length≤d
 | 0,i=>Nat.le_refl _
 | d+1,i=>by
  have:=prF_le o d (i+1)
  simp only[prF,List.length_append]
  split<;>simp<;>omega
theorem aR6 (y0:List Rec) (w0:w_t22 y0):kC y0=some true:=by
 have hx:=recs_of w0
 have hml:=hx.1
 unfold maxLen at hml
 by_cases hl:y0.length≤100
 rotate_left
 · rw[kC]
   rnz[][aKP]
   rfl
 have ht:=aXY (x1:=y0) (by omega)
 have hrr:=aN3 hx (by omega)
 cases ok:okF ⟨[],[],[],[]⟩ y0 with
 | false =>
  rw[ok] at hrr
  have a1:=(aAL hx (by omega)).2 ok
  have a2:m8 y0=some ([],4):=by
   rw[m8]
   rnz[Bool.false_eq_true,not_false_eq_true][hrr]
   rfl
  have a3:=aT6 hx (by omega) ok
  have a4:kT y0=some ([],4):=by
   rw[kT]
   rnz[Bool.false_eq_true,not_false_eq_true][hrr]
   rfl
  have a5:=aTV hx (by omega) ok
  have a6:k7 y0=some (0,4):=by
   rw[k7]
   rnz[Bool.false_eq_true,not_false_eq_true][hrr]
   rfl
  have a7:=aSK (x:=[]) (by simp)
  have a8:j1 ([],4) 0=some (.inl ()):=by
   rw[aAI]
   rnz[List.length_nil][]
   rfl
  rw[kC]
  rnz[][aKP,ht,a1,a2,a3,a4,a5,a6,a7,a8]
  rfl
 | true =>
  rw[ok] at hrr
  obtain⟨I,G,F,hG⟩:=aU0 y0 _ 0 ok aJ7 (by omega) lg_nil (fun _=>rfl) hx.2
  rw[List.nil_append] at hG
  have hF:∀t,aE5 y0 t=bD (kL [] y0) t:=by rw[← hG];exact F
  have hM:∀t w,bD (kL [] y0) t=some w→(w=1∨w=2)∧0≤t∧t<1000:=fun t w hw=>by
   rw[← hG] at hw
   cases hg:bD (aCF ⟨[],[],[],[]⟩ y0).M t with
   | none=>rw[G.non t hg] at hw;cases hw
   | some p =>
    have ho:=G.out t p hg
    rw[hw] at ho
    have hpt:=I.pt t p hg
    by_cases h3:p.1=3
    · rw[if_pos h3] at ho
      cases ho
      exact⟨(rt_out hpt.1).1 h3,hpt.2⟩
    · rw[if_neg h3] at ho;cases ho
  have hkey:∀r∈y0,r.1=3→0≤r.2.2.1∧r.2.2.1<64∧InR r.2.2.2:=by rw[← hG];exact G.key
  have a1:=(aAL hx (by omega)).1 ok
  have a2:=rread_ok hx (by omega) ok hF (fun t w h=>(hM t w h).1)
  have a3:=aTQ hx (by omega) hkey ok
  have a4:kT y0=some (ofL (aJL y0),0):=by
   have h2:=aTG (x1:=y0) (by omega) hF _ 0 0 [] rfl (by omega) rfl (Nat.le_refl _)
   rw[List.drop_zero,List.nil_append] at h2
   have h3:=of_ok (l:=aJL y0) (by have:=aRW (fun t=>isO (kL [] y0) t 1) y0;unfold aJL;omega)
   unfold aJL at h3 ⊢
   rw[kT]
   rnz[][hrr,h2,h3]
   rfl
  have a5:=aUD hx (by omega) ok
  have a6:k7 y0=some (((cntU (kL [] y0) y0:Nat):Int),0):=by
   have h2:=aTL (x1:=y0) (by omega) hF _ 0 0 0 0 rfl (by omega) rfl rfl (Nat.le_refl _)
   rw[List.drop_zero,Nat.zero_add] at h2
   rw[k7]
   rnz[][hrr,h2]
   rfl
  have hl2:=aVA (aJL y0)
  have a7:=aSK (x:=ofL (aJL y0)) (by omega)
  have hnd:=aLJ y0 [] List.nodup_nil
  have hlen:=aPD 1000 0 (kL [] y0) hnd (fun x hx=>by
   obtain⟨_,h1,h2⟩:=hM _ _ (aVY hnd x hx)
   omega)
  have hle:=prF_le (kL [] y0) 1000 0
  have a8:=reads_l1 (o:=kL [] y0) (pr:=prF (kL [] y0) 0 1000) (e:=0) (by omega) (fun x hx=>aV3 hx) _ 0 0 rfl (by omega) rfl
  have hee:eqI (nI (kL [] y0).length) (nI (prF (kL [] y0) 0 1000).length)=true:=by rw[hlen];exact wA _
  rw[kC]
  rnz[wA,hee][aKP,ht,a1,a2,a3,a4,a5,a6,a7,a8]
  rfl
end Go.Ws.L10
