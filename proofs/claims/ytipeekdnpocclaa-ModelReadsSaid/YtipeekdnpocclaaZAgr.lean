/-
  model.Agree, walked: ranges over maps.
  Conditions: none.
-/
import Derived.Test.YtipeekdnpocclaaZPre
import Derived.Test.YtipeekdnpocclaaZAgrDef
import Derived.Test.YtipeekdnpocclaaZB2
set_option linter.unusedVariables false
set_option linter.unusedSimpArgs false
namespace Go.Ws
open Go.Proofs
set_option linter.unusedSimpArgs false
set_option linter.unusedVariables false
set_option maxRecDepth 1000000
set_option maxHeartbeats 4000000
noncomputable def aR0:Code:=at_ Try.f18 [0]
noncomputable def aR1:Code:=at_ Try.f18 [1,0]
noncomputable def aR2:Code:=at_ Try.f18 [1,1,0,0]
noncomputable def aB0:Code:=at_ Try.f18 [1,1,0,1,4,5]
noncomputable def aR3:Code:=at_ Try.f18 [1,1,0,1,4,5,0]
noncomputable def aR4:Code:=at_ Try.f18 [1,1,0,1,4,5,1,1,0,4,0]
noncomputable def aR13:Code:=at_ Try.f18 [1,1,0,1,4,5,1,1,1]
noncomputable def aL3:List Oper:=opsT (at_ Try.f18 [1,1,0,1,4,5,1,1,0,4,1,1,4,5,1,1,4,0])
noncomputable def aG2:Code:=at_ Try.f18 [1,1,0,1,4,5,1,1,0,4,1,1,4,5,1,1,4,1]
noncomputable def aEnd:Code:=at_ Try.f18 [1,1,1]
noncomputable def aRNG : Code := aLZ 5 17 5 25 25 0 "model.go:31" "model.go:31" #[] #[Edge.mk 0 Ground.data] 18 19 20 21 2 3 6 7 0 4 0 "model.go:31" "model.go:31" "model.go:31" #[] #[Edge.mk 0 Ground.data] #[] aL3 aG2
theorem aPF:Try.f18.body=some (.seq aR0 (.seq aR1 (.seq (.seq aR2 (.block 0 (.loop aB0))) aEnd))):=by kernel_rfl
theorem a_loop:aB0 = .seq aR3 (.seq (.cond (.tmp 14) .skip (.exit 0)) (.seq (.block 1 (.seq aR4 aRNG)) aR13)):=by kernel_rfl
theorem aCB {P:Program} {Q:Exit→Act→World→Prop} {a:Act} {w:World} (h:(Code.seq aR3 (.seq (.cond (.tmp 14) .skip (.exit 0)) (.seq (.block 1 (.seq aR4 aRNG)) aR13))).wp P Q a w):aB0.wp P Q a w:=by rw[a_loop];exact h
theorem aSW:Try.prog.underlying 25=some (.map 3 3):=by kernel_rfl
def mb (L:List (Int × Int)):Blk:=.map (dW .i64 (fun y=>(bW y).headD aP) L) L.length
def tb (c:List AV) (N:Nat) (n i:Int) (m:List (Nat × AV)):List AV:=mkT 42 ((0,.ps c)::(2,.bool false)::(3,.mp N)::(11,.ps c)::(12,.int .i64 n)::(13,.int .i64 i)::m)
def s7 (t:List AV) (p:Addr) (a x:Int):List AV:=((((((((t.set 18 (.raw p)).set 19 (.tup [.bool true,.int .i64 a,.int .i64 x])).set 20 (.bool true)).set 21 (.tup [.int .i64 a,.int .i64 x])).set 22 (.int .i64 a)).set 23 (.int .i64 x)).set 6 (.int .i64 a)).set 7 (.int .i64 x))
def s8 (t:List AV) (x:Int):List AV:=(t.set 24 (.int .i64 x)).set 25 (.bool (eqI x 0))
def s9 (t:List AV) (N:Nat) (a x x1:Int) (b:Bool) (v34 v35 v36 v37:AV):List AV:=(((((((((((((((((s8 t x).set 26 (.tup [(.int .i64 x1),(.bool b)])).set 27 (.mp N)).set 28 (.int .i64 a)).set 29 (.tup [(.int .i64 x1),(.bool b)])).set 30 (.int .i64 x1)).set 31 (.bool b)).set 8 (.int .i64 x1)).set 9 (.bool b)).set 32 (.bool b)).set 33 (.bool b)).set 34 v34).set 35 v35).set 36 v36).set 37 v37).set 38 (.mp N)).set 39 (.int .i64 a)).set 40 (.int .i64 x)
theorem Tc.go {P:Program} {x:Ctx} {c:Code} {st s:St} {σ:Sig} {π:cI} {w w1:World} {a:Act} {K:Act→World→Prop} {Q:Exit→Act→World→Prop} (h:Tc P x c st (.st .normal s)) (R:Rel σ π w (x.h0[·]?)) (N:Now σ π w st.t (st.h[·]?) a w1)
 (hK:∀a' w',Now σ π w s.t (s.h[·]?) a' w'→K a' w'):c.wp P (Exit.then K Q) a w1 :=
 h σ π w a w1 _ R N fun e a' w' hp=>by
  obtain⟨rfl,N'⟩:=hp
  exact hK _ _ N'
theorem aJ1 {V:Type} {kd:IntKind} {ev:V→AV}:∀{l:List (Int × V)} {i j:Nat},(r7 kd ev i l)[j]? = (l[j]?).map fun p=>(.int kd p.1,ev p.2,i+j)
 | [],i,j=>by simp [r7]
 | (k,v)::l,i,0=>by simp [r7]
 | (k,v)::l,i,j+1=>by
  simp only[r7,List.getElem?_cons_succ]
  rw[aJ1,show i+1+j=i+(j+1) by omega]
theorem aGK {V:Type} {kd:IntKind} {ev:V→AV} {l:List (Int × V)} {k v:AV} {n:Nat} (h:(k,v,n)∈dW kd ev l):∃p,l[n]? = some p∧k = .int kd p.1∧v=ev p.2:=by
 obtain⟨j,hj⟩:=List.mem_iff_getElem?.1 h
 unfold dW at hj
 rw[aJ1] at hj
 obtain⟨p,hp,e⟩:=Option.map_eq_some_iff.1 hj
 simp only[Prod.mk.injEq] at e
 obtain⟨rfl,rfl,rfl⟩:=e
 exact⟨p,by simpa using hp,rfl,rfl⟩
theorem aPP {V:Type} {kd:IntKind} {ev:V→AV} {l:List (Int × V)} {n:Nat} {p:Int × V} (h:l[n]? = some p):(.int kd p.1,ev p.2,n)∈dW kd ev l:=by
 refine List.mem_iff_getElem?.2 ⟨n,?_⟩
 unfold dW
 rw[aJ1,h]
 simp
theorem aXQ {V:Type} {kd:IntKind} {ev:V→AV} {l:List (Int × V)}:((dW kd ev l).map (·.2.2))=List.range l.length:=by
 apply List.ext_getElem?
 intro i
 unfold dW
 rw[List.getElem?_map,aJ1]
 rcases Nat.lt_or_ge i l.length with h | h
 · simp [h]
 · simp [h]
theorem aQT {V:Type} {kd:IntKind} {ev:V→AV} {l:List (Int × V)}:((dW kd ev l).map (·.2.2)).Nodup:=by rw[aXQ];exact List.nodup_range
theorem aPM {V:Type} {kd:IntKind} {ev:V→AV} {l:List (Int × V)}:∀e∈dW kd ev l,e.2.2<l.length:=fun e he=>by
 obtain⟨p,hp,_⟩:=aGK (k:=e.1) (v:=e.2.1) (n:=e.2.2) he
 exact(List.getElem?_eq_some_iff.1 hp).1
theorem aOV:∀(l:List (Int × Int)) (q x a:Int),bD (bH l q x) a=if a=q then some x else bD l a
 | [],q,x,a=>by simp [bH,bD]
 | (k,v)::l,q,x,a=>by
  simp only[bH]
  split
  · rename_i h
    simp only[bD]
    by_cases e:a=q
    · rw[if_pos e,if_pos e]
    · rw[if_neg e,if_neg e,if_neg (by rw[← h];exact e)]
  · rename_i h
    simp only[bD]
    rw[aOV l q x a]
    by_cases e:a=k
    · rw[if_pos e,if_pos e,if_neg (by rw[e];exact fun h2=>h h2.symm)]
    · rw[if_neg e,if_neg e]
def Inv (K:List (Int × Int)) (Sx:Int × Int→Prop):Prop:=(∀a v,Sx (a,v)→v≠0→bD K a=some v)∧(∀a v,bD K a=some v→Sx (a,v)∧v≠0)
theorem Inv.skip {K:List (Int × Int)} {Sx Sy:Int × Int→Prop} (h:Inv K Sx) {k v:Int} (hv:v=0) (hS:∀e,Sy e↔Sx e∨e=(k,v)):Inv K Sy:=by
 refine⟨fun a u hs hu=>?_,fun a u hg=>⟨(hS _).2 (.inl (h.2 a u hg).1),(h.2 a u hg).2⟩⟩
 rcases (hS _).1 hs with h1 | h1
 · exact h.1 a u h1 hu
 · cases h1;exact absurd hv hu
theorem Inv.put {K:List (Int × Int)} {Sx Sy:Int × Int→Prop} (h:Inv K Sx) {k v:Int} (hv:v≠0) (hk:bD K k=none∨bD K k=some v) (hS:∀e,Sy e↔Sx e∨e=(k,v)):Inv (bH K k v) Sy:=by
 refine⟨fun a u hs hu=>?_,fun a u hg=>?_⟩
 · rw[aOV]
   by_cases e:a=k
   · rw[if_pos e]
     subst e
     rcases (hS _).1 hs with h1 | h1
     · have:=h.1 a u h1 hu
       rcases hk with hk | hk<;>rw[hk] at this<;>cases this
       rfl
     · cases h1;rfl
   · rw[if_neg e]
     rcases (hS _).1 hs with h1 | h1
     · exact h.1 a u h1 hu
     · cases h1;exact absurd rfl e
 · rw[aOV] at hg
   by_cases e:a=k
   · rw[if_pos e] at hg
     cases hg
     subst e
     exact⟨(hS _).2 (.inr rfl),hv⟩
   · rw[if_neg e] at hg
     exact⟨(hS _).2 (.inl (h.2 a u hg).1),(h.2 a u hg).2⟩
theorem Inv.no {K All:List (Int × Int)} {Sx:Int × Int→Prop} (h:Inv K Sx) (hA:∀e,Sx e→e∈All) {k v x:Int} (hv:v≠0) (hm:(k,v)∈All) (hg:bD K k=some x) (hx:x≠v):mO All=false:=by
 refine Bool.eq_false_iff.2 fun ht=>hx ?_
 obtain⟨h1,h2⟩:=h.2 k x hg
 exact aKZ.1 ht _ (hA _ h1) _ hm rfl h2 hv
theorem Inv.yes {K All:List (Int × Int)} {Sx:Int × Int→Prop} (h:Inv K Sx) (hA:∀e∈All,Sx e):mO All=true:=by
 refine aKZ.2 fun x hx y hy e h1 h2=>?_
 have a1:=h.1 x.1 x.2 (hA x hx) h1
 have a2:=h.1 y.1 y.2 (hA y hy) h2
 rw[e,a2] at a1
 exact(Option.some.inj a1).symm
theorem aKG {K:List (Int × Int)} {k:Int} (h:o8 K k=true):∃v,bD K k=some v:=by
 unfold o8 at h
 cases hg:bD K k with
 | none=>rw[hg] at h;cases h
 | some v=>exact⟨v,rfl⟩

theorem ti {p:Prop} (h:p:=by first|assumption | (exact .inl (by assumption)) | (exact .inr (by assumption)) | (exact .inl (.inl (by assumption))) | (exact .inl (.inr (by assumption)))):p:=h

section
variable {L0:List (Int × Int)}
def aQV (L0:List (Int × Int)) (D:List Nat) (t:List AV) (h:List Blk):Prop:=∃K,t=(tb [(.mp 0),.mapn,(.mp 0)] 1 3 0 [(5,(.mp 0)),(17,(.mp 0))])∧h=[mb L0,mb K]∧Inv K (fun e=>e∈([])∨∃n∈D,L0[n]? = some e)
theorem aUM (D:List Nat) (t:List AV) (h:List Blk) (p:Addr) (k v:AV) (n:Nat) (hj:aQV L0 D t h) (hm:(k,v,n)∈dW .i64 (fun y=>(bW y).headD aP) L0) (hD:D.contains n=false) :
 ∃ st7, qP (fT Try.prog) zQ aD3 (⟨some 21, .entry (.tmp 18), 0, "model.go:31", #[], none⟩ :: aL3) aL3 ⟨((((t.set 18 (.raw p)).set 19 (.tup [.bool true, k, v])).set 20 (.bool true)).set 21 (.tup [k, v])), h⟩ = some st7 ∧
  ((∃y s' t',Tc Try.prog ⟨Try.f18,st7.h,false⟩ aG2 st7 (.st y s')∧(y = .normal∨y = .exit 3)∧aDM (t'.set 18 (.raw p)) s'.t∧aQV L0 (n::D) t' s'.h) ∨
   (∃v h',Tc Try.prog ⟨Try.f18,st7.h,false⟩ aG2 st7 (.fin v h')∧v.refs=[]∧(∀b∈h'.take 1,b.refs=[])∧1≤h'.length∧(v = .bool false∧h'.take 1=[mb L0]∧mO (L0++L0)=false))):=by
 obtain⟨K,rfl,rfl,I⟩:=hj
 obtain⟨⟨a,x⟩,hp,rfl,rfl⟩:=aGK hm
 have hS:∀e,(e∈([])∨∃m∈n::D,L0[m]? = some e)↔(e∈([])∨∃m∈D,L0[m]? = some e)∨e=(a,x):=fun e=>by
  constructor
  · rintro (h | ⟨m,hm,h⟩)
    · exact .inl (.inl h)
    · rcases List.mem_cons.1 hm with rfl | hm
      · rw[hp] at h;cases h;exact .inr rfl
      · exact .inl (.inr ⟨m,hm,h⟩)
  · rintro ((h | ⟨m,hm,h⟩) | rfl)
    · exact .inl h
    · exact .inr ⟨m,List.mem_cons_of_mem _ hm,h⟩
    · exact .inr ⟨n,List.mem_cons_self,hp⟩
 refine⟨⟨(s7 (tb [(.mp 0),.mapn,(.mp 0)] 1 3 0 [(5,(.mp 0)),(17,(.mp 0))]) p a x),[mb L0,mb K]⟩,by kernel_rfl,?_⟩
 by_cases c0:eqI x 0=true
 · left
   refine⟨.exit 3,⟨s8 (s7 (tb [(.mp 0),.mapn,(.mp 0)] 1 3 0 [(5,(.mp 0)),(17,(.mp 0))]) p a x) x,[mb L0,mb K]⟩,(tb [(.mp 0),.mapn,(.mp 0)] 1 3 0 [(5,(.mp 0)),(17,(.mp 0))]),Tc.code aF [.d true] [⟨c0⟩] (by kernel_rfl),.inr rfl,fC (by kernel_rfl) (by kernel_rfl),K,rfl,rfl,I.skip (cA.1 c0) hS⟩
 replace c0:=eqf c0
 have hx:x≠0:=fun h=>by rw[cA.2 h] at c0;cases c0
 by_cases c1:o8 K a=true
 · obtain⟨x1,e2⟩:=aKG c1
   by_cases c3:eqI x1 x=true
   · left
     have e3:x1=x:=cA.1 c3
     refine⟨.normal,⟨s9 (s7 (tb [(.mp 0),.mapn,(.mp 0)] 1 3 0 [(5,(.mp 0)),(17,(.mp 0))]) p a x) 1 a x x1 true (.int .i64 x1) (.int .i64 x) (.bool (!eqI x1 x)) (.bool (!eqI x1 x)),[mb L0,mb (bH K a x)]⟩,(tb [(.mp 0),.mapn,(.mp 0)] 1 3 0 [(5,(.mp 0)),(17,(.mp 0))]),
      Tc.code aF [.d false,.opt (some (.int .i64 x1)),.d true,.d true,.d true,.d true,.d false,.ents (dW .i64 (fun y=>(bW y).headD aP) (bH K a x)) (bH K a x).length] [⟨(pC .i64 (fun y=>(bW y).headD aP) K a x)⟩,⟨(nF c3)⟩,⟨(rfl:true=true)⟩,⟨(rfl:true=true)⟩,⟨(rfl:true=true)⟩,⟨(rfl:true=true)⟩,⟨(kD .i64 (fun y=>(bW y).headD aP) e2)⟩,⟨c0⟩] (by kernel_rfl),.inl rfl,fC (by kernel_rfl) (by kernel_rfl),bH K a x,rfl,rfl,I.put hx (.inr (by rw[e2,e3])) hS⟩
   · right
     have hne:x1≠x:=fun h=>c3 (cA.2 h)
     replace c3:=eqf c3
     refine⟨.bool false,[mb L0,mb K],Tc.code aF [.d false,.opt (some (.int .i64 x1)),.d true,.d true,.d true,.d true,.d true] [⟨(nT c3)⟩,⟨(rfl:true=true)⟩,⟨(rfl:true=true)⟩,⟨(rfl:true=true)⟩,⟨(rfl:true=true)⟩,⟨(kD .i64 (fun y=>(bW y).headD aP) e2)⟩,⟨c0⟩] (by kernel_rfl),rfl,by simp [Blk.refs,mb],by simp,rfl,rfl,I.no (fun e he=>?_) hx ?_ e2 hne⟩
     · rcases he with h | ⟨m,_,h⟩
       · simp only[List.mem_append] at h ⊢;cases h
       · have:=List.mem_of_getElem? h;(try simp only[List.mem_append]);exact ti
     · have:=List.mem_of_getElem? hp;(try simp only[List.mem_append]);exact ti
 · left
   have c1':=eqf c1
   refine⟨.normal,⟨s9 (s7 (tb [(.mp 0),.mapn,(.mp 0)] 1 3 0 [(5,(.mp 0)),(17,(.mp 0))]) p a x) 1 a x 0 false aP aP aP (.bool false),[mb L0,mb (bH K a x)]⟩,(tb [(.mp 0),.mapn,(.mp 0)] 1 3 0 [(5,(.mp 0)),(17,(.mp 0))]),
    Tc.code aF [.d false,.opt none,.d false,.d false,.d false,.d false,.d false,.ents (dW .i64 (fun y=>(bW y).headD aP) (bH K a x)) (bH K a x).length] [⟨(pC .i64 (fun y=>(bW y).headD aP) K a x)⟩,⟨(rfl:false=false)⟩,⟨(rfl:false=false)⟩,⟨(rfl:false=false)⟩,⟨(rfl:false=false)⟩,⟨(rfl:false=false)⟩,⟨(oJ .i64 (fun y=>(bW y).headD aP) c1')⟩,⟨c0⟩] (by kernel_rfl),.inl rfl,fC (by kernel_rfl) (by kernel_rfl),bH K a x,rfl,rfl,I.put hx (.inl (aDP c1')) hS⟩
def aOW (L0:List (Int × Int)) (D:List Nat) (t:List AV) (h:List Blk):Prop:=∃K,t=(tb [(.mp 0),.mapn,(.mp 0)] 1 3 2 [(5,(.mp 0)),(17,(.mp 0))])∧h=[mb L0,mb K]∧Inv K (fun e=>e∈(L0)∨∃n∈D,L0[n]? = some e)
theorem aUA (D:List Nat) (t:List AV) (h:List Blk) (p:Addr) (k v:AV) (n:Nat) (hj:aOW L0 D t h) (hm:(k,v,n)∈dW .i64 (fun y=>(bW y).headD aP) L0) (hD:D.contains n=false) :
 ∃ st7, qP (fT Try.prog) zQ aD3 (⟨some 21, .entry (.tmp 18), 0, "model.go:31", #[], none⟩ :: aL3) aL3 ⟨((((t.set 18 (.raw p)).set 19 (.tup [.bool true, k, v])).set 20 (.bool true)).set 21 (.tup [k, v])), h⟩ = some st7 ∧
  ((∃y s' t',Tc Try.prog ⟨Try.f18,st7.h,false⟩ aG2 st7 (.st y s')∧(y = .normal∨y = .exit 3)∧aDM (t'.set 18 (.raw p)) s'.t∧aOW L0 (n::D) t' s'.h) ∨
   (∃v h',Tc Try.prog ⟨Try.f18,st7.h,false⟩ aG2 st7 (.fin v h')∧v.refs=[]∧(∀b∈h'.take 1,b.refs=[])∧1≤h'.length∧(v = .bool false∧h'.take 1=[mb L0]∧mO (L0++L0)=false))):=by
 obtain⟨K,rfl,rfl,I⟩:=hj
 obtain⟨⟨a,x⟩,hp,rfl,rfl⟩:=aGK hm
 have hS:∀e,(e∈(L0)∨∃m∈n::D,L0[m]? = some e)↔(e∈(L0)∨∃m∈D,L0[m]? = some e)∨e=(a,x):=fun e=>by
  constructor
  · rintro (h | ⟨m,hm,h⟩)
    · exact .inl (.inl h)
    · rcases List.mem_cons.1 hm with rfl | hm
      · rw[hp] at h;cases h;exact .inr rfl
      · exact .inl (.inr ⟨m,hm,h⟩)
  · rintro ((h | ⟨m,hm,h⟩) | rfl)
    · exact .inl h
    · exact .inr ⟨m,List.mem_cons_of_mem _ hm,h⟩
    · exact .inr ⟨n,List.mem_cons_self,hp⟩
 refine⟨⟨(s7 (tb [(.mp 0),.mapn,(.mp 0)] 1 3 2 [(5,(.mp 0)),(17,(.mp 0))]) p a x),[mb L0,mb K]⟩,by kernel_rfl,?_⟩
 by_cases c0:eqI x 0=true
 · left
   refine⟨.exit 3,⟨s8 (s7 (tb [(.mp 0),.mapn,(.mp 0)] 1 3 2 [(5,(.mp 0)),(17,(.mp 0))]) p a x) x,[mb L0,mb K]⟩,(tb [(.mp 0),.mapn,(.mp 0)] 1 3 2 [(5,(.mp 0)),(17,(.mp 0))]),Tc.code aF [.d true] [⟨c0⟩] (by kernel_rfl),.inr rfl,fC (by kernel_rfl) (by kernel_rfl),K,rfl,rfl,I.skip (cA.1 c0) hS⟩
 replace c0:=eqf c0
 have hx:x≠0:=fun h=>by rw[cA.2 h] at c0;cases c0
 by_cases c1:o8 K a=true
 · obtain⟨x1,e2⟩:=aKG c1
   by_cases c3:eqI x1 x=true
   · left
     have e3:x1=x:=cA.1 c3
     refine⟨.normal,⟨s9 (s7 (tb [(.mp 0),.mapn,(.mp 0)] 1 3 2 [(5,(.mp 0)),(17,(.mp 0))]) p a x) 1 a x x1 true (.int .i64 x1) (.int .i64 x) (.bool (!eqI x1 x)) (.bool (!eqI x1 x)),[mb L0,mb (bH K a x)]⟩,(tb [(.mp 0),.mapn,(.mp 0)] 1 3 2 [(5,(.mp 0)),(17,(.mp 0))]),
      Tc.code aF [.d false,.opt (some (.int .i64 x1)),.d true,.d true,.d true,.d true,.d false,.ents (dW .i64 (fun y=>(bW y).headD aP) (bH K a x)) (bH K a x).length] [⟨(pC .i64 (fun y=>(bW y).headD aP) K a x)⟩,⟨(nF c3)⟩,⟨(rfl:true=true)⟩,⟨(rfl:true=true)⟩,⟨(rfl:true=true)⟩,⟨(rfl:true=true)⟩,⟨(kD .i64 (fun y=>(bW y).headD aP) e2)⟩,⟨c0⟩] (by kernel_rfl),.inl rfl,fC (by kernel_rfl) (by kernel_rfl),bH K a x,rfl,rfl,I.put hx (.inr (by rw[e2,e3])) hS⟩
   · right
     have hne:x1≠x:=fun h=>c3 (cA.2 h)
     replace c3:=eqf c3
     refine⟨.bool false,[mb L0,mb K],Tc.code aF [.d false,.opt (some (.int .i64 x1)),.d true,.d true,.d true,.d true,.d true] [⟨(nT c3)⟩,⟨(rfl:true=true)⟩,⟨(rfl:true=true)⟩,⟨(rfl:true=true)⟩,⟨(rfl:true=true)⟩,⟨(kD .i64 (fun y=>(bW y).headD aP) e2)⟩,⟨c0⟩] (by kernel_rfl),rfl,by simp [Blk.refs,mb],by simp,rfl,rfl,I.no (fun e he=>?_) hx ?_ e2 hne⟩
     · rcases he with h | ⟨m,_,h⟩
       · simp only[List.mem_append] at h ⊢;exact ti
       · have:=List.mem_of_getElem? h;(try simp only[List.mem_append]);exact ti
     · have:=List.mem_of_getElem? hp;(try simp only[List.mem_append]);exact ti
 · left
   have c1':=eqf c1
   refine⟨.normal,⟨s9 (s7 (tb [(.mp 0),.mapn,(.mp 0)] 1 3 2 [(5,(.mp 0)),(17,(.mp 0))]) p a x) 1 a x 0 false aP aP aP (.bool false),[mb L0,mb (bH K a x)]⟩,(tb [(.mp 0),.mapn,(.mp 0)] 1 3 2 [(5,(.mp 0)),(17,(.mp 0))]),
    Tc.code aF [.d false,.opt none,.d false,.d false,.d false,.d false,.d false,.ents (dW .i64 (fun y=>(bW y).headD aP) (bH K a x)) (bH K a x).length] [⟨(pC .i64 (fun y=>(bW y).headD aP) K a x)⟩,⟨(rfl:false=false)⟩,⟨(rfl:false=false)⟩,⟨(rfl:false=false)⟩,⟨(rfl:false=false)⟩,⟨(rfl:false=false)⟩,⟨(oJ .i64 (fun y=>(bW y).headD aP) c1')⟩,⟨c0⟩] (by kernel_rfl),.inl rfl,fC (by kernel_rfl) (by kernel_rfl),bH K a x,rfl,rfl,I.put hx (.inl (aDP c1')) hS⟩
theorem aXY:Tri Try.prog 18 [.ps [(.mp 0),.mapn,(.mp 0)]] [mb L0] (.bool (mO (L0++L0))) [mb L0]:=by
 have hx : Try.prog.funcs[18]? = some Try.f18 ∧ (Try.f18.name == "runtime.NumGoroutine") = false ∧ Try.f18.body.isSome = true := aVI
 refine⟨aIH hx.1 hx.2.1 aPF,by simp,fun σ π w cargs R hv=>?_⟩
 refine calls_of_wp hx.1 aPF ?_
 have N0:Now σ π w (mkT 42 [(0,.ps [(.mp 0),.mapn,(.mp 0)])]) (([mb L0]:List Blk)[·]?) { tmps:=cargs++Array.replicate (Try.f18.ntmps - cargs.size) undef,defers:=[] } w:=⟨rfl,σ,π,aPB hv Try.f18.ntmps,.refl R⟩
 have last:∀(v:AV) a' w',Post Try.prog ⟨Try.f18,[mb L0],false⟩ (.fin v [mb L0]) σ π w .ret a' w'→bodyPost Try.prog Try.f18 (Ret σ π w v [mb L0]) .ret a' w':=fun v a' w' hp=>by
  obtain⟨_,hd,u,hu,_,hr⟩:=hp
  exact⟨hd,u,hu,hr⟩
 have lastQ:∀v a' w',v = .bool (mO (L0++L0))→Post Try.prog ⟨Try.f18,[mb L0],false⟩ (.fin v [mb L0]) σ π w .ret a' w'→bodyPost Try.prog Try.f18 (Ret σ π w (.bool (mO (L0++L0))) [mb L0]) .ret a' w':=fun v a' w' e hp=>by subst e;exact last _ a' w' hp
 generalize bodyPost Try.prog Try.f18 (Ret σ π w (.bool (mO (L0++L0))) [mb L0])=Q0 at lastQ ⊢
 refine wp_seq ?_
 refine Tc.go (x:=⟨Try.f18,[mb L0],false⟩) (st:=⟨mkT 42 [(0,.ps [(.mp 0),.mapn,(.mp 0)])],[mb L0]⟩) (s:=⟨mkT 42 [(0,.ps [(.mp 0),.mapn,(.mp 0)]),(2,.bool false)],[mb L0]⟩) (Tc.code aF [] [] (by kernel_rfl)) R N0 fun a1 w1 N1=>?_
 refine wp_seq ?_
 refine Tc.go (x:=⟨Try.f18,[mb L0],false⟩) (st:=⟨mkT 42 [(0,.ps [(.mp 0),.mapn,(.mp 0)]),(2,.bool false)],[mb L0]⟩) (s:=⟨mkT 42 [(0,.ps [(.mp 0),.mapn,(.mp 0)]),(2,.bool false),(3,.mp 1),(10,.mp 1)],[mb L0,mb ([]:List (Int × Int))]⟩) (Tc.code aF [] [] (by kernel_rfl)) R N1 fun a2 w2 N2=>?_
 replace N2:=N2.less (t':=mkT 42 [(0,.ps [(.mp 0),.mapn,(.mp 0)]),(2,.bool false),(3,.mp 1)]) (fC (by kernel_rfl) (by kernel_rfl))
 refine wp_seq (wp_seq ?_)
 refine Tc.go (x:=⟨Try.f18,[mb L0],false⟩) (st:=⟨mkT 42 [(0,.ps [(.mp 0),.mapn,(.mp 0)]),(2,.bool false),(3,.mp 1)],[mb L0,mb ([]:List (Int × Int))]⟩) (s:=⟨(tb [(.mp 0),.mapn,(.mp 0)] 1 3 0 []),[mb L0,mb ([]:List (Int × Int))]⟩) (Tc.code aF [] [] (by kernel_rfl)) R N2 fun a3 w3 N3=>?_
 refine wp_block (wp_loop_rounds 4 ?_)
 obtain⟨K0,hK0,I0⟩:∃K:List (Int × Int),K=[]∧Inv K (fun e=>e∈([]:List (Int × Int))):=⟨[],rfl,fun a v h=>(by cases h),fun a v h=>(by cases h)⟩
 rw[← hK0] at N3
 -- round 0
 rw[rounds_succ]
 refine aCB ?_
 refine wp_seq ?_
 refine Tc.go (x:=⟨Try.f18,[mb L0],false⟩) (st:=⟨(tb [(.mp 0),.mapn,(.mp 0)] 1 3 0 []),[mb L0,mb K0]⟩) (s:=⟨(tb [(.mp 0),.mapn,(.mp 0)] 1 3 0 [(14,.bool (ltI 0 3))]),[mb L0,mb K0]⟩) (Tc.code aF [] [] (by kernel_rfl)) R N3 fun a4 w4 N4=>?_
 refine wp_seq ?_
 refine Tc.go (x:=⟨Try.f18,[mb L0],false⟩) (st:=⟨(tb [(.mp 0),.mapn,(.mp 0)] 1 3 0 [(14,.bool (ltI 0 3))]),[mb L0,mb K0]⟩) (s:=⟨(tb [(.mp 0),.mapn,(.mp 0)] 1 3 0 [(14,.bool (ltI 0 3))]),[mb L0,mb K0]⟩) (Tc.code aF [.d true] [⟨(rfl:ltI 0 3=ltI 0 3)⟩] (by kernel_rfl)) R N4 fun a5 w5 N5=>?_
 replace N5:=N5.less (t':=(tb [(.mp 0),.mapn,(.mp 0)] 1 3 0 [])) (fC (by kernel_rfl) (by kernel_rfl))
 refine wp_seq (wp_block (wp_seq ?_))
 refine Tc.go (x:=⟨Try.f18,[mb L0],false⟩) (st:=⟨(tb [(.mp 0),.mapn,(.mp 0)] 1 3 0 []),[mb L0,mb K0]⟩) (s:=⟨(tb [(.mp 0),.mapn,(.mp 0)] 1 3 0 [(5,(.mp 0)),(15,.pp [(.mp 0),.mapn,(.mp 0)] 0),(16,(.mp 0))]),[mb L0,mb K0]⟩) (Tc.code aF [] [] (by kernel_rfl)) R N5 fun a6 w6 N6=>?_
 replace N6:=N6.less (t':=(tb [(.mp 0),.mapn,(.mp 0)] 1 3 0 [(5,(.mp 0))])) (fC (by kernel_rfl) (by kernel_rfl))
 refine aEM (x:=⟨Try.f18,[mb L0],false⟩) (t:=(tb [(.mp 0),.mapn,(.mp 0)] 1 3 0 [(5,(.mp 0))])) (h:=[mb L0,mb K0]) (b:=0) (es:=dW .i64 (fun y=>(bW y).headD aP) L0) (cl:=L0.length) (J:=aQV L0) (F:=fun v h'=>v = .bool false∧h'=[mb L0]∧mO (L0++L0)=false) R aQT aPM (by decide) (by decide) (by decide) aSW rfl (by decide) ⟨K0,rfl,rfl,?_⟩ ?_ (aUM) N6 ?_ ?_
 · exact⟨fun a v hs=>I0.1 a v (by rcases hs with h | ⟨m,hm,_⟩;exact h;cases hm),fun a v hg=>⟨.inl (I0.2 a v hg).1,(I0.2 a v hg).2⟩⟩
 · rintro D t h ⟨K,rfl,rfl,_⟩;exact⟨⟨rfl,rfl,rfl,rfl⟩,rfl⟩
 rotate_left
 · rintro v h' a' w' ⟨rfl,rfl,hf⟩ hp;exact lastQ _ a' w' (by rw[hf]) hp
 rintro D t h a7 w7 ⟨K1,rfl,rfl,I1⟩ hall N7
 replace N7:=N7.less (t':=(tb [(.mp 0),.mapn,(.mp 0)] 1 3 0 [])) (fC (by kernel_rfl) (by kernel_rfl))
 replace I1:Inv K1 (fun e=>e∈(L0)):=by
  refine⟨fun a v hs=>I1.1 a v ?_,fun a v hg=>⟨?_,(I1.2 a v hg).2⟩⟩
  · have h:=hs
    · obtain⟨m,hm⟩:=List.mem_iff_getElem?.1 h
      have:=hall _ (aPP (kd:=.i64) (ev:=fun y=>(bW y).headD aP) hm)
      exact .inr ⟨m,by simpa using this,hm⟩
  · rcases (I1.2 a v hg).1 with h | ⟨m,_,hm⟩
    · cases h
    · have:=List.mem_of_getElem? hm;(try simp only[List.mem_append]);exact ti
 show Code.wp _ _ _ _ _
 refine Tc.go (x:=⟨Try.f18,[mb L0],false⟩) (st:=⟨(tb [(.mp 0),.mapn,(.mp 0)] 1 3 0 []),[mb L0,mb K1]⟩) (s:=⟨(tb [(.mp 0),.mapn,(.mp 0)] 1 3 1 [(41,.int .i64 1)]),[mb L0,mb K1]⟩) (Tc.code aF [] [] (by kernel_rfl)) R N7 fun a8 w8 N8=>?_
 replace N8:=N8.less (t':=(tb [(.mp 0),.mapn,(.mp 0)] 1 3 1 [])) (fC (by kernel_rfl) (by kernel_rfl))
 -- round 1
 rw[rounds_succ]
 refine aCB ?_
 refine wp_seq ?_
 refine Tc.go (x:=⟨Try.f18,[mb L0],false⟩) (st:=⟨(tb [(.mp 0),.mapn,(.mp 0)] 1 3 1 []),[mb L0,mb K1]⟩) (s:=⟨(tb [(.mp 0),.mapn,(.mp 0)] 1 3 1 [(14,.bool (ltI 1 3))]),[mb L0,mb K1]⟩) (Tc.code aF [] [] (by kernel_rfl)) R N8 fun a9 w9 N9=>?_
 refine wp_seq ?_
 refine Tc.go (x:=⟨Try.f18,[mb L0],false⟩) (st:=⟨(tb [(.mp 0),.mapn,(.mp 0)] 1 3 1 [(14,.bool (ltI 1 3))]),[mb L0,mb K1]⟩) (s:=⟨(tb [(.mp 0),.mapn,(.mp 0)] 1 3 1 [(14,.bool (ltI 1 3))]),[mb L0,mb K1]⟩) (Tc.code aF [.d true] [⟨(rfl:ltI 1 3=ltI 1 3)⟩] (by kernel_rfl)) R N9 fun a10 w10 N10=>?_
 replace N10:=N10.less (t':=(tb [(.mp 0),.mapn,(.mp 0)] 1 3 1 [])) (fC (by kernel_rfl) (by kernel_rfl))
 refine wp_seq (wp_block (wp_seq ?_))
 refine Tc.go (x:=⟨Try.f18,[mb L0],false⟩) (st:=⟨(tb [(.mp 0),.mapn,(.mp 0)] 1 3 1 []),[mb L0,mb K1]⟩) (s:=⟨(tb [(.mp 0),.mapn,(.mp 0)] 1 3 1 [(5,.mapn),(15,.pp [(.mp 0),.mapn,(.mp 0)] 1),(16,.mapn)]),[mb L0,mb K1]⟩) (Tc.code aF [] [] (by kernel_rfl)) R N10 fun a11 w11 N11=>?_
 replace N11:=N11.less (t':=(tb [(.mp 0),.mapn,(.mp 0)] 1 3 1 [(5,.mapn)])) (fC (by kernel_rfl) (by kernel_rfl))
 refine aW0 (t:=(tb [(.mp 0),.mapn,(.mp 0)] 1 3 1 [(5,.mapn)])) (h:=[mb L0,mb K1]) (by decide) aSW rfl (by decide) ⟨rfl,rfl,rfl⟩ (by decide) N11 fun a12 w12 N12=>?_
 replace N12:=N12.less (t':=(tb [(.mp 0),.mapn,(.mp 0)] 1 3 1 [])) (fC (by kernel_rfl) (by kernel_rfl))
 obtain⟨K2,hKn1,I2⟩:∃K,K=K1∧Inv K (fun e=>e∈(L0)):=⟨_,rfl,I1⟩
 rw[← hKn1] at N12
 show Code.wp _ _ _ _ _
 refine Tc.go (x:=⟨Try.f18,[mb L0],false⟩) (st:=⟨(tb [(.mp 0),.mapn,(.mp 0)] 1 3 1 []),[mb L0,mb K2]⟩) (s:=⟨(tb [(.mp 0),.mapn,(.mp 0)] 1 3 2 [(41,.int .i64 2)]),[mb L0,mb K2]⟩) (Tc.code aF [] [] (by kernel_rfl)) R N12 fun a13 w13 N13=>?_
 replace N13:=N13.less (t':=(tb [(.mp 0),.mapn,(.mp 0)] 1 3 2 [])) (fC (by kernel_rfl) (by kernel_rfl))
 -- round 2
 rw[rounds_succ]
 refine aCB ?_
 refine wp_seq ?_
 refine Tc.go (x:=⟨Try.f18,[mb L0],false⟩) (st:=⟨(tb [(.mp 0),.mapn,(.mp 0)] 1 3 2 []),[mb L0,mb K2]⟩) (s:=⟨(tb [(.mp 0),.mapn,(.mp 0)] 1 3 2 [(14,.bool (ltI 2 3))]),[mb L0,mb K2]⟩) (Tc.code aF [] [] (by kernel_rfl)) R N13 fun a14 w14 N14=>?_
 refine wp_seq ?_
 refine Tc.go (x:=⟨Try.f18,[mb L0],false⟩) (st:=⟨(tb [(.mp 0),.mapn,(.mp 0)] 1 3 2 [(14,.bool (ltI 2 3))]),[mb L0,mb K2]⟩) (s:=⟨(tb [(.mp 0),.mapn,(.mp 0)] 1 3 2 [(14,.bool (ltI 2 3))]),[mb L0,mb K2]⟩) (Tc.code aF [.d true] [⟨(rfl:ltI 2 3=ltI 2 3)⟩] (by kernel_rfl)) R N14 fun a15 w15 N15=>?_
 replace N15:=N15.less (t':=(tb [(.mp 0),.mapn,(.mp 0)] 1 3 2 [])) (fC (by kernel_rfl) (by kernel_rfl))
 refine wp_seq (wp_block (wp_seq ?_))
 refine Tc.go (x:=⟨Try.f18,[mb L0],false⟩) (st:=⟨(tb [(.mp 0),.mapn,(.mp 0)] 1 3 2 []),[mb L0,mb K2]⟩) (s:=⟨(tb [(.mp 0),.mapn,(.mp 0)] 1 3 2 [(5,(.mp 0)),(15,.pp [(.mp 0),.mapn,(.mp 0)] 2),(16,(.mp 0))]),[mb L0,mb K2]⟩) (Tc.code aF [] [] (by kernel_rfl)) R N15 fun a16 w16 N16=>?_
 replace N16:=N16.less (t':=(tb [(.mp 0),.mapn,(.mp 0)] 1 3 2 [(5,(.mp 0))])) (fC (by kernel_rfl) (by kernel_rfl))
 refine aEM (x:=⟨Try.f18,[mb L0],false⟩) (t:=(tb [(.mp 0),.mapn,(.mp 0)] 1 3 2 [(5,(.mp 0))])) (h:=[mb L0,mb K2]) (b:=0) (es:=dW .i64 (fun y=>(bW y).headD aP) L0) (cl:=L0.length) (J:=aOW L0) (F:=fun v h'=>v = .bool false∧h'=[mb L0]∧mO (L0++L0)=false) R aQT aPM (by decide) (by decide) (by decide) aSW rfl (by decide) ⟨K2,rfl,rfl,?_⟩ ?_ (aUA) N16 ?_ ?_
 · exact⟨fun a v hs=>I2.1 a v (by rcases hs with h | ⟨m,hm,_⟩;exact h;cases hm),fun a v hg=>⟨.inl (I2.2 a v hg).1,(I2.2 a v hg).2⟩⟩
 · rintro D t h ⟨K,rfl,rfl,_⟩;exact⟨⟨rfl,rfl,rfl,rfl⟩,rfl⟩
 rotate_left
 · rintro v h' a' w' ⟨rfl,rfl,hf⟩ hp;exact lastQ _ a' w' (by rw[hf]) hp
 rintro D t h a17 w17 ⟨K3,rfl,rfl,I3⟩ hall N17
 replace N17:=N17.less (t':=(tb [(.mp 0),.mapn,(.mp 0)] 1 3 2 [])) (fC (by kernel_rfl) (by kernel_rfl))
 replace I3:Inv K3 (fun e=>e∈(L0++L0)):=by
  refine⟨fun a v hs=>I3.1 a v ?_,fun a v hg=>⟨?_,(I3.2 a v hg).2⟩⟩
  · rcases List.mem_append.1 hs with h | h
    · exact .inl h
    · obtain⟨m,hm⟩:=List.mem_iff_getElem?.1 h
      have:=hall _ (aPP (kd:=.i64) (ev:=fun y=>(bW y).headD aP) hm)
      exact .inr ⟨m,by simpa using this,hm⟩
  · rcases (I3.2 a v hg).1 with h | ⟨m,_,hm⟩
    · (try simp only[List.mem_append] at h ⊢);exact ti
    · have:=List.mem_of_getElem? hm;(try simp only[List.mem_append]);exact ti
 show Code.wp _ _ _ _ _
 refine Tc.go (x:=⟨Try.f18,[mb L0],false⟩) (st:=⟨(tb [(.mp 0),.mapn,(.mp 0)] 1 3 2 []),[mb L0,mb K3]⟩) (s:=⟨(tb [(.mp 0),.mapn,(.mp 0)] 1 3 3 [(41,.int .i64 3)]),[mb L0,mb K3]⟩) (Tc.code aF [] [] (by kernel_rfl)) R N17 fun a18 w18 N18=>?_
 replace N18:=N18.less (t':=(tb [(.mp 0),.mapn,(.mp 0)] 1 3 3 [])) (fC (by kernel_rfl) (by kernel_rfl))
 -- the end
 rw[rounds_succ]
 refine aCB ?_
 refine wp_seq ?_
 refine Tc.go (x:=⟨Try.f18,[mb L0],false⟩) (st:=⟨(tb [(.mp 0),.mapn,(.mp 0)] 1 3 3 []),[mb L0,mb K3]⟩) (s:=⟨(tb [(.mp 0),.mapn,(.mp 0)] 1 3 3 [(14,.bool (ltI 3 3))]),[mb L0,mb K3]⟩) (Tc.code aF [] [] (by kernel_rfl)) R N18 fun a19 w19 N19=>?_
 have hc:Tc Try.prog ⟨Try.f18,[mb L0],false⟩ (.cond (.tmp 14) .skip (.exit 0)) ⟨(tb [(.mp 0),.mapn,(.mp 0)] 1 3 3 [(14,.bool (ltI 3 3))]),[mb L0,mb K3]⟩ (.st (.exit 0) ⟨(tb [(.mp 0),.mapn,(.mp 0)] 1 3 3 [(14,.bool (ltI 3 3))]),[mb L0,mb K3]⟩):=Tc.code aF [.d false] [⟨(rfl:ltI 3 3=ltI 3 3)⟩] (by kernel_rfl)
 refine wp_seq (hc σ π w _ _ _ R N19 fun e a' w' hp=>?_)
 obtain⟨rfl,N20⟩:=hp
 replace N20:=N20.less (t':=(tb [(.mp 0),.mapn,(.mp 0)] 1 3 3 [])) (fC (by kernel_rfl) (by kernel_rfl))
 show Code.wp _ _ _ _ _
 have hE:Tc Try.prog ⟨Try.f18,[mb L0],false⟩ aEnd ⟨(tb [(.mp 0),.mapn,(.mp 0)] 1 3 3 []),[mb L0,mb K3]⟩ (.fin (.bool true) [mb L0]):=Tc.code aF [] [] (by kernel_rfl)
 refine hE σ π w _ _ _ R N20 fun e a2 w2 hp=>?_
 have he:=hp.1
 subst he
 exact lastQ _ a2 w2 (by rw[I3.yes (fun e he=>he)]) hp
end
section
variable {L0:List (Int × Int)} {L1:List (Int × Int)}
def aTQ (L0:List (Int × Int)) (L1:List (Int × Int)) (D:List Nat) (t:List AV) (h:List Blk):Prop:=∃K,t=(tb [(.mp 0),(.mp 1)] 2 2 0 [(5,(.mp 0)),(17,(.mp 0))])∧h=[mb L0,mb L1,mb K]∧Inv K (fun e=>e∈([])∨∃n∈D,L0[n]? = some e)
theorem aX2 (D:List Nat) (t:List AV) (h:List Blk) (p:Addr) (k v:AV) (n:Nat) (hj:aTQ L0 L1 D t h) (hm:(k,v,n)∈dW .i64 (fun y=>(bW y).headD aP) L0) (hD:D.contains n=false) :
 ∃ st7, qP (fT Try.prog) zQ aD3 (⟨some 21, .entry (.tmp 18), 0, "model.go:31", #[], none⟩ :: aL3) aL3 ⟨((((t.set 18 (.raw p)).set 19 (.tup [.bool true, k, v])).set 20 (.bool true)).set 21 (.tup [k, v])), h⟩ = some st7 ∧
  ((∃y s' t',Tc Try.prog ⟨Try.f18,st7.h,false⟩ aG2 st7 (.st y s')∧(y = .normal∨y = .exit 3)∧aDM (t'.set 18 (.raw p)) s'.t∧aTQ L0 L1 (n::D) t' s'.h) ∨
   (∃v h',Tc Try.prog ⟨Try.f18,st7.h,false⟩ aG2 st7 (.fin v h')∧v.refs=[]∧(∀b∈h'.take 2,b.refs=[])∧2≤h'.length∧(v = .bool false∧h'.take 2=[mb L0,mb L1]∧mO (L0++L1)=false))):=by
 obtain⟨K,rfl,rfl,I⟩:=hj
 obtain⟨⟨a,x⟩,hp,rfl,rfl⟩:=aGK hm
 have hS:∀e,(e∈([])∨∃m∈n::D,L0[m]? = some e)↔(e∈([])∨∃m∈D,L0[m]? = some e)∨e=(a,x):=fun e=>by
  constructor
  · rintro (h | ⟨m,hm,h⟩)
    · exact .inl (.inl h)
    · rcases List.mem_cons.1 hm with rfl | hm
      · rw[hp] at h;cases h;exact .inr rfl
      · exact .inl (.inr ⟨m,hm,h⟩)
  · rintro ((h | ⟨m,hm,h⟩) | rfl)
    · exact .inl h
    · exact .inr ⟨m,List.mem_cons_of_mem _ hm,h⟩
    · exact .inr ⟨n,List.mem_cons_self,hp⟩
 refine⟨⟨(s7 (tb [(.mp 0),(.mp 1)] 2 2 0 [(5,(.mp 0)),(17,(.mp 0))]) p a x),[mb L0,mb L1,mb K]⟩,by kernel_rfl,?_⟩
 by_cases c0:eqI x 0=true
 · left
   refine⟨.exit 3,⟨s8 (s7 (tb [(.mp 0),(.mp 1)] 2 2 0 [(5,(.mp 0)),(17,(.mp 0))]) p a x) x,[mb L0,mb L1,mb K]⟩,(tb [(.mp 0),(.mp 1)] 2 2 0 [(5,(.mp 0)),(17,(.mp 0))]),Tc.code aF [.d true] [⟨c0⟩] (by kernel_rfl),.inr rfl,fC (by kernel_rfl) (by kernel_rfl),K,rfl,rfl,I.skip (cA.1 c0) hS⟩
 replace c0:=eqf c0
 have hx:x≠0:=fun h=>by rw[cA.2 h] at c0;cases c0
 by_cases c1:o8 K a=true
 · obtain⟨x1,e2⟩:=aKG c1
   by_cases c3:eqI x1 x=true
   · left
     have e3:x1=x:=cA.1 c3
     refine⟨.normal,⟨s9 (s7 (tb [(.mp 0),(.mp 1)] 2 2 0 [(5,(.mp 0)),(17,(.mp 0))]) p a x) 2 a x x1 true (.int .i64 x1) (.int .i64 x) (.bool (!eqI x1 x)) (.bool (!eqI x1 x)),[mb L0,mb L1,mb (bH K a x)]⟩,(tb [(.mp 0),(.mp 1)] 2 2 0 [(5,(.mp 0)),(17,(.mp 0))]),
      Tc.code aF [.d false,.opt (some (.int .i64 x1)),.d true,.d true,.d true,.d true,.d false,.ents (dW .i64 (fun y=>(bW y).headD aP) (bH K a x)) (bH K a x).length] [⟨(pC .i64 (fun y=>(bW y).headD aP) K a x)⟩,⟨(nF c3)⟩,⟨(rfl:true=true)⟩,⟨(rfl:true=true)⟩,⟨(rfl:true=true)⟩,⟨(rfl:true=true)⟩,⟨(kD .i64 (fun y=>(bW y).headD aP) e2)⟩,⟨c0⟩] (by kernel_rfl),.inl rfl,fC (by kernel_rfl) (by kernel_rfl),bH K a x,rfl,rfl,I.put hx (.inr (by rw[e2,e3])) hS⟩
   · right
     have hne:x1≠x:=fun h=>c3 (cA.2 h)
     replace c3:=eqf c3
     refine⟨.bool false,[mb L0,mb L1,mb K],Tc.code aF [.d false,.opt (some (.int .i64 x1)),.d true,.d true,.d true,.d true,.d true] [⟨(nT c3)⟩,⟨(rfl:true=true)⟩,⟨(rfl:true=true)⟩,⟨(rfl:true=true)⟩,⟨(rfl:true=true)⟩,⟨(kD .i64 (fun y=>(bW y).headD aP) e2)⟩,⟨c0⟩] (by kernel_rfl),rfl,by simp [Blk.refs,mb],by simp,rfl,rfl,I.no (fun e he=>?_) hx ?_ e2 hne⟩
     · rcases he with h | ⟨m,_,h⟩
       · simp only[List.mem_append] at h ⊢;cases h
       · have:=List.mem_of_getElem? h;(try simp only[List.mem_append]);exact ti
     · have:=List.mem_of_getElem? hp;(try simp only[List.mem_append]);exact ti
 · left
   have c1':=eqf c1
   refine⟨.normal,⟨s9 (s7 (tb [(.mp 0),(.mp 1)] 2 2 0 [(5,(.mp 0)),(17,(.mp 0))]) p a x) 2 a x 0 false aP aP aP (.bool false),[mb L0,mb L1,mb (bH K a x)]⟩,(tb [(.mp 0),(.mp 1)] 2 2 0 [(5,(.mp 0)),(17,(.mp 0))]),
    Tc.code aF [.d false,.opt none,.d false,.d false,.d false,.d false,.d false,.ents (dW .i64 (fun y=>(bW y).headD aP) (bH K a x)) (bH K a x).length] [⟨(pC .i64 (fun y=>(bW y).headD aP) K a x)⟩,⟨(rfl:false=false)⟩,⟨(rfl:false=false)⟩,⟨(rfl:false=false)⟩,⟨(rfl:false=false)⟩,⟨(rfl:false=false)⟩,⟨(oJ .i64 (fun y=>(bW y).headD aP) c1')⟩,⟨c0⟩] (by kernel_rfl),.inl rfl,fC (by kernel_rfl) (by kernel_rfl),bH K a x,rfl,rfl,I.put hx (.inl (aDP c1')) hS⟩
def aUL (L0:List (Int × Int)) (L1:List (Int × Int)) (D:List Nat) (t:List AV) (h:List Blk):Prop:=∃K,t=(tb [(.mp 0),(.mp 1)] 2 2 1 [(5,(.mp 1)),(17,(.mp 1))])∧h=[mb L0,mb L1,mb K]∧Inv K (fun e=>e∈(L0)∨∃n∈D,L1[n]? = some e)
theorem aXP (D:List Nat) (t:List AV) (h:List Blk) (p:Addr) (k v:AV) (n:Nat) (hj:aUL L0 L1 D t h) (hm:(k,v,n)∈dW .i64 (fun y=>(bW y).headD aP) L1) (hD:D.contains n=false) :
 ∃ st7, qP (fT Try.prog) zQ aD3 (⟨some 21, .entry (.tmp 18), 0, "model.go:31", #[], none⟩ :: aL3) aL3 ⟨((((t.set 18 (.raw p)).set 19 (.tup [.bool true, k, v])).set 20 (.bool true)).set 21 (.tup [k, v])), h⟩ = some st7 ∧
  ((∃y s' t',Tc Try.prog ⟨Try.f18,st7.h,false⟩ aG2 st7 (.st y s')∧(y = .normal∨y = .exit 3)∧aDM (t'.set 18 (.raw p)) s'.t∧aUL L0 L1 (n::D) t' s'.h) ∨
   (∃v h',Tc Try.prog ⟨Try.f18,st7.h,false⟩ aG2 st7 (.fin v h')∧v.refs=[]∧(∀b∈h'.take 2,b.refs=[])∧2≤h'.length∧(v = .bool false∧h'.take 2=[mb L0,mb L1]∧mO (L0++L1)=false))):=by
 obtain⟨K,rfl,rfl,I⟩:=hj
 obtain⟨⟨a,x⟩,hp,rfl,rfl⟩:=aGK hm
 have hS:∀e,(e∈(L0)∨∃m∈n::D,L1[m]? = some e)↔(e∈(L0)∨∃m∈D,L1[m]? = some e)∨e=(a,x):=fun e=>by
  constructor
  · rintro (h | ⟨m,hm,h⟩)
    · exact .inl (.inl h)
    · rcases List.mem_cons.1 hm with rfl | hm
      · rw[hp] at h;cases h;exact .inr rfl
      · exact .inl (.inr ⟨m,hm,h⟩)
  · rintro ((h | ⟨m,hm,h⟩) | rfl)
    · exact .inl h
    · exact .inr ⟨m,List.mem_cons_of_mem _ hm,h⟩
    · exact .inr ⟨n,List.mem_cons_self,hp⟩
 refine⟨⟨(s7 (tb [(.mp 0),(.mp 1)] 2 2 1 [(5,(.mp 1)),(17,(.mp 1))]) p a x),[mb L0,mb L1,mb K]⟩,by kernel_rfl,?_⟩
 by_cases c0:eqI x 0=true
 · left
   refine⟨.exit 3,⟨s8 (s7 (tb [(.mp 0),(.mp 1)] 2 2 1 [(5,(.mp 1)),(17,(.mp 1))]) p a x) x,[mb L0,mb L1,mb K]⟩,(tb [(.mp 0),(.mp 1)] 2 2 1 [(5,(.mp 1)),(17,(.mp 1))]),Tc.code aF [.d true] [⟨c0⟩] (by kernel_rfl),.inr rfl,fC (by kernel_rfl) (by kernel_rfl),K,rfl,rfl,I.skip (cA.1 c0) hS⟩
 replace c0:=eqf c0
 have hx:x≠0:=fun h=>by rw[cA.2 h] at c0;cases c0
 by_cases c1:o8 K a=true
 · obtain⟨x1,e2⟩:=aKG c1
   by_cases c3:eqI x1 x=true
   · left
     have e3:x1=x:=cA.1 c3
     refine⟨.normal,⟨s9 (s7 (tb [(.mp 0),(.mp 1)] 2 2 1 [(5,(.mp 1)),(17,(.mp 1))]) p a x) 2 a x x1 true (.int .i64 x1) (.int .i64 x) (.bool (!eqI x1 x)) (.bool (!eqI x1 x)),[mb L0,mb L1,mb (bH K a x)]⟩,(tb [(.mp 0),(.mp 1)] 2 2 1 [(5,(.mp 1)),(17,(.mp 1))]),
      Tc.code aF [.d false,.opt (some (.int .i64 x1)),.d true,.d true,.d true,.d true,.d false,.ents (dW .i64 (fun y=>(bW y).headD aP) (bH K a x)) (bH K a x).length] [⟨(pC .i64 (fun y=>(bW y).headD aP) K a x)⟩,⟨(nF c3)⟩,⟨(rfl:true=true)⟩,⟨(rfl:true=true)⟩,⟨(rfl:true=true)⟩,⟨(rfl:true=true)⟩,⟨(kD .i64 (fun y=>(bW y).headD aP) e2)⟩,⟨c0⟩] (by kernel_rfl),.inl rfl,fC (by kernel_rfl) (by kernel_rfl),bH K a x,rfl,rfl,I.put hx (.inr (by rw[e2,e3])) hS⟩
   · right
     have hne:x1≠x:=fun h=>c3 (cA.2 h)
     replace c3:=eqf c3
     refine⟨.bool false,[mb L0,mb L1,mb K],Tc.code aF [.d false,.opt (some (.int .i64 x1)),.d true,.d true,.d true,.d true,.d true] [⟨(nT c3)⟩,⟨(rfl:true=true)⟩,⟨(rfl:true=true)⟩,⟨(rfl:true=true)⟩,⟨(rfl:true=true)⟩,⟨(kD .i64 (fun y=>(bW y).headD aP) e2)⟩,⟨c0⟩] (by kernel_rfl),rfl,by simp [Blk.refs,mb],by simp,rfl,rfl,I.no (fun e he=>?_) hx ?_ e2 hne⟩
     · rcases he with h | ⟨m,_,h⟩
       · simp only[List.mem_append] at h ⊢;exact ti
       · have:=List.mem_of_getElem? h;(try simp only[List.mem_append]);exact ti
     · have:=List.mem_of_getElem? hp;(try simp only[List.mem_append]);exact ti
 · left
   have c1':=eqf c1
   refine⟨.normal,⟨s9 (s7 (tb [(.mp 0),(.mp 1)] 2 2 1 [(5,(.mp 1)),(17,(.mp 1))]) p a x) 2 a x 0 false aP aP aP (.bool false),[mb L0,mb L1,mb (bH K a x)]⟩,(tb [(.mp 0),(.mp 1)] 2 2 1 [(5,(.mp 1)),(17,(.mp 1))]),
    Tc.code aF [.d false,.opt none,.d false,.d false,.d false,.d false,.d false,.ents (dW .i64 (fun y=>(bW y).headD aP) (bH K a x)) (bH K a x).length] [⟨(pC .i64 (fun y=>(bW y).headD aP) K a x)⟩,⟨(rfl:false=false)⟩,⟨(rfl:false=false)⟩,⟨(rfl:false=false)⟩,⟨(rfl:false=false)⟩,⟨(rfl:false=false)⟩,⟨(oJ .i64 (fun y=>(bW y).headD aP) c1')⟩,⟨c0⟩] (by kernel_rfl),.inl rfl,fC (by kernel_rfl) (by kernel_rfl),bH K a x,rfl,rfl,I.put hx (.inl (aDP c1')) hS⟩
theorem agree_01:Tri Try.prog 18 [.ps [(.mp 0),(.mp 1)]] [mb L0,mb L1] (.bool (mO (L0++L1))) [mb L0,mb L1]:=by
 have hx : Try.prog.funcs[18]? = some Try.f18 ∧ (Try.f18.name == "runtime.NumGoroutine") = false ∧ Try.f18.body.isSome = true := aVI
 refine⟨aIH hx.1 hx.2.1 aPF,by simp,fun σ π w cargs R hv=>?_⟩
 refine calls_of_wp hx.1 aPF ?_
 have N0:Now σ π w (mkT 42 [(0,.ps [(.mp 0),(.mp 1)])]) (([mb L0,mb L1]:List Blk)[·]?) { tmps:=cargs++Array.replicate (Try.f18.ntmps - cargs.size) undef,defers:=[] } w:=⟨rfl,σ,π,aPB hv Try.f18.ntmps,.refl R⟩
 have last:∀(v:AV) a' w',Post Try.prog ⟨Try.f18,[mb L0,mb L1],false⟩ (.fin v [mb L0,mb L1]) σ π w .ret a' w'→bodyPost Try.prog Try.f18 (Ret σ π w v [mb L0,mb L1]) .ret a' w':=fun v a' w' hp=>by
  obtain⟨_,hd,u,hu,_,hr⟩:=hp
  exact⟨hd,u,hu,hr⟩
 have lastQ:∀v a' w',v = .bool (mO (L0++L1))→Post Try.prog ⟨Try.f18,[mb L0,mb L1],false⟩ (.fin v [mb L0,mb L1]) σ π w .ret a' w'→bodyPost Try.prog Try.f18 (Ret σ π w (.bool (mO (L0++L1))) [mb L0,mb L1]) .ret a' w':=fun v a' w' e hp=>by subst e;exact last _ a' w' hp
 generalize bodyPost Try.prog Try.f18 (Ret σ π w (.bool (mO (L0++L1))) [mb L0,mb L1])=Q0 at lastQ ⊢
 refine wp_seq ?_
 refine Tc.go (x:=⟨Try.f18,[mb L0,mb L1],false⟩) (st:=⟨mkT 42 [(0,.ps [(.mp 0),(.mp 1)])],[mb L0,mb L1]⟩) (s:=⟨mkT 42 [(0,.ps [(.mp 0),(.mp 1)]),(2,.bool false)],[mb L0,mb L1]⟩) (Tc.code aF [] [] (by kernel_rfl)) R N0 fun a1 w1 N1=>?_
 refine wp_seq ?_
 refine Tc.go (x:=⟨Try.f18,[mb L0,mb L1],false⟩) (st:=⟨mkT 42 [(0,.ps [(.mp 0),(.mp 1)]),(2,.bool false)],[mb L0,mb L1]⟩) (s:=⟨mkT 42 [(0,.ps [(.mp 0),(.mp 1)]),(2,.bool false),(3,.mp 2),(10,.mp 2)],[mb L0,mb L1,mb ([]:List (Int × Int))]⟩) (Tc.code aF [] [] (by kernel_rfl)) R N1 fun a2 w2 N2=>?_
 replace N2:=N2.less (t':=mkT 42 [(0,.ps [(.mp 0),(.mp 1)]),(2,.bool false),(3,.mp 2)]) (fC (by kernel_rfl) (by kernel_rfl))
 refine wp_seq (wp_seq ?_)
 refine Tc.go (x:=⟨Try.f18,[mb L0,mb L1],false⟩) (st:=⟨mkT 42 [(0,.ps [(.mp 0),(.mp 1)]),(2,.bool false),(3,.mp 2)],[mb L0,mb L1,mb ([]:List (Int × Int))]⟩) (s:=⟨(tb [(.mp 0),(.mp 1)] 2 2 0 []),[mb L0,mb L1,mb ([]:List (Int × Int))]⟩) (Tc.code aF [] [] (by kernel_rfl)) R N2 fun a3 w3 N3=>?_
 refine wp_block (wp_loop_rounds 3 ?_)
 obtain⟨K0,hK0,I0⟩:∃K:List (Int × Int),K=[]∧Inv K (fun e=>e∈([]:List (Int × Int))):=⟨[],rfl,fun a v h=>(by cases h),fun a v h=>(by cases h)⟩
 rw[← hK0] at N3
 -- round 0
 rw[rounds_succ]
 refine aCB ?_
 refine wp_seq ?_
 refine Tc.go (x:=⟨Try.f18,[mb L0,mb L1],false⟩) (st:=⟨(tb [(.mp 0),(.mp 1)] 2 2 0 []),[mb L0,mb L1,mb K0]⟩) (s:=⟨(tb [(.mp 0),(.mp 1)] 2 2 0 [(14,.bool (ltI 0 2))]),[mb L0,mb L1,mb K0]⟩) (Tc.code aF [] [] (by kernel_rfl)) R N3 fun a4 w4 N4=>?_
 refine wp_seq ?_
 refine Tc.go (x:=⟨Try.f18,[mb L0,mb L1],false⟩) (st:=⟨(tb [(.mp 0),(.mp 1)] 2 2 0 [(14,.bool (ltI 0 2))]),[mb L0,mb L1,mb K0]⟩) (s:=⟨(tb [(.mp 0),(.mp 1)] 2 2 0 [(14,.bool (ltI 0 2))]),[mb L0,mb L1,mb K0]⟩) (Tc.code aF [.d true] [⟨(rfl:ltI 0 2=ltI 0 2)⟩] (by kernel_rfl)) R N4 fun a5 w5 N5=>?_
 replace N5:=N5.less (t':=(tb [(.mp 0),(.mp 1)] 2 2 0 [])) (fC (by kernel_rfl) (by kernel_rfl))
 refine wp_seq (wp_block (wp_seq ?_))
 refine Tc.go (x:=⟨Try.f18,[mb L0,mb L1],false⟩) (st:=⟨(tb [(.mp 0),(.mp 1)] 2 2 0 []),[mb L0,mb L1,mb K0]⟩) (s:=⟨(tb [(.mp 0),(.mp 1)] 2 2 0 [(5,(.mp 0)),(15,.pp [(.mp 0),(.mp 1)] 0),(16,(.mp 0))]),[mb L0,mb L1,mb K0]⟩) (Tc.code aF [] [] (by kernel_rfl)) R N5 fun a6 w6 N6=>?_
 replace N6:=N6.less (t':=(tb [(.mp 0),(.mp 1)] 2 2 0 [(5,(.mp 0))])) (fC (by kernel_rfl) (by kernel_rfl))
 refine aEM (x:=⟨Try.f18,[mb L0,mb L1],false⟩) (t:=(tb [(.mp 0),(.mp 1)] 2 2 0 [(5,(.mp 0))])) (h:=[mb L0,mb L1,mb K0]) (b:=0) (es:=dW .i64 (fun y=>(bW y).headD aP) L0) (cl:=L0.length) (J:=aTQ L0 L1) (F:=fun v h'=>v = .bool false∧h'=[mb L0,mb L1]∧mO (L0++L1)=false) R aQT aPM (by decide) (by decide) (by decide) aSW rfl (by decide) ⟨K0,rfl,rfl,?_⟩ ?_ (aX2) N6 ?_ ?_
 · exact⟨fun a v hs=>I0.1 a v (by rcases hs with h | ⟨m,hm,_⟩;exact h;cases hm),fun a v hg=>⟨.inl (I0.2 a v hg).1,(I0.2 a v hg).2⟩⟩
 · rintro D t h ⟨K,rfl,rfl,_⟩;exact⟨⟨rfl,rfl,rfl,rfl⟩,rfl⟩
 rotate_left
 · rintro v h' a' w' ⟨rfl,rfl,hf⟩ hp;exact lastQ _ a' w' (by rw[hf]) hp
 rintro D t h a7 w7 ⟨K1,rfl,rfl,I1⟩ hall N7
 replace N7:=N7.less (t':=(tb [(.mp 0),(.mp 1)] 2 2 0 [])) (fC (by kernel_rfl) (by kernel_rfl))
 replace I1:Inv K1 (fun e=>e∈(L0)):=by
  refine⟨fun a v hs=>I1.1 a v ?_,fun a v hg=>⟨?_,(I1.2 a v hg).2⟩⟩
  · have h:=hs
    · obtain⟨m,hm⟩:=List.mem_iff_getElem?.1 h
      have:=hall _ (aPP (kd:=.i64) (ev:=fun y=>(bW y).headD aP) hm)
      exact .inr ⟨m,by simpa using this,hm⟩
  · rcases (I1.2 a v hg).1 with h | ⟨m,_,hm⟩
    · cases h
    · have:=List.mem_of_getElem? hm;(try simp only[List.mem_append]);exact ti
 show Code.wp _ _ _ _ _
 refine Tc.go (x:=⟨Try.f18,[mb L0,mb L1],false⟩) (st:=⟨(tb [(.mp 0),(.mp 1)] 2 2 0 []),[mb L0,mb L1,mb K1]⟩) (s:=⟨(tb [(.mp 0),(.mp 1)] 2 2 1 [(41,.int .i64 1)]),[mb L0,mb L1,mb K1]⟩) (Tc.code aF [] [] (by kernel_rfl)) R N7 fun a8 w8 N8=>?_
 replace N8:=N8.less (t':=(tb [(.mp 0),(.mp 1)] 2 2 1 [])) (fC (by kernel_rfl) (by kernel_rfl))
 -- round 1
 rw[rounds_succ]
 refine aCB ?_
 refine wp_seq ?_
 refine Tc.go (x:=⟨Try.f18,[mb L0,mb L1],false⟩) (st:=⟨(tb [(.mp 0),(.mp 1)] 2 2 1 []),[mb L0,mb L1,mb K1]⟩) (s:=⟨(tb [(.mp 0),(.mp 1)] 2 2 1 [(14,.bool (ltI 1 2))]),[mb L0,mb L1,mb K1]⟩) (Tc.code aF [] [] (by kernel_rfl)) R N8 fun a9 w9 N9=>?_
 refine wp_seq ?_
 refine Tc.go (x:=⟨Try.f18,[mb L0,mb L1],false⟩) (st:=⟨(tb [(.mp 0),(.mp 1)] 2 2 1 [(14,.bool (ltI 1 2))]),[mb L0,mb L1,mb K1]⟩) (s:=⟨(tb [(.mp 0),(.mp 1)] 2 2 1 [(14,.bool (ltI 1 2))]),[mb L0,mb L1,mb K1]⟩) (Tc.code aF [.d true] [⟨(rfl:ltI 1 2=ltI 1 2)⟩] (by kernel_rfl)) R N9 fun a10 w10 N10=>?_
 replace N10:=N10.less (t':=(tb [(.mp 0),(.mp 1)] 2 2 1 [])) (fC (by kernel_rfl) (by kernel_rfl))
 refine wp_seq (wp_block (wp_seq ?_))
 refine Tc.go (x:=⟨Try.f18,[mb L0,mb L1],false⟩) (st:=⟨(tb [(.mp 0),(.mp 1)] 2 2 1 []),[mb L0,mb L1,mb K1]⟩) (s:=⟨(tb [(.mp 0),(.mp 1)] 2 2 1 [(5,(.mp 1)),(15,.pp [(.mp 0),(.mp 1)] 1),(16,(.mp 1))]),[mb L0,mb L1,mb K1]⟩) (Tc.code aF [] [] (by kernel_rfl)) R N10 fun a11 w11 N11=>?_
 replace N11:=N11.less (t':=(tb [(.mp 0),(.mp 1)] 2 2 1 [(5,(.mp 1))])) (fC (by kernel_rfl) (by kernel_rfl))
 refine aEM (x:=⟨Try.f18,[mb L0,mb L1],false⟩) (t:=(tb [(.mp 0),(.mp 1)] 2 2 1 [(5,(.mp 1))])) (h:=[mb L0,mb L1,mb K1]) (b:=1) (es:=dW .i64 (fun y=>(bW y).headD aP) L1) (cl:=L1.length) (J:=aUL L0 L1) (F:=fun v h'=>v = .bool false∧h'=[mb L0,mb L1]∧mO (L0++L1)=false) R aQT aPM (by decide) (by decide) (by decide) aSW rfl (by decide) ⟨K1,rfl,rfl,?_⟩ ?_ (aXP) N11 ?_ ?_
 · exact⟨fun a v hs=>I1.1 a v (by rcases hs with h | ⟨m,hm,_⟩;exact h;cases hm),fun a v hg=>⟨.inl (I1.2 a v hg).1,(I1.2 a v hg).2⟩⟩
 · rintro D t h ⟨K,rfl,rfl,_⟩;exact⟨⟨rfl,rfl,rfl,rfl⟩,rfl⟩
 rotate_left
 · rintro v h' a' w' ⟨rfl,rfl,hf⟩ hp;exact lastQ _ a' w' (by rw[hf]) hp
 rintro D t h a12 w12 ⟨K2,rfl,rfl,I2⟩ hall N12
 replace N12:=N12.less (t':=(tb [(.mp 0),(.mp 1)] 2 2 1 [])) (fC (by kernel_rfl) (by kernel_rfl))
 replace I2:Inv K2 (fun e=>e∈(L0++L1)):=by
  refine⟨fun a v hs=>I2.1 a v ?_,fun a v hg=>⟨?_,(I2.2 a v hg).2⟩⟩
  · rcases List.mem_append.1 hs with h | h
    · exact .inl h
    · obtain⟨m,hm⟩:=List.mem_iff_getElem?.1 h
      have:=hall _ (aPP (kd:=.i64) (ev:=fun y=>(bW y).headD aP) hm)
      exact .inr ⟨m,by simpa using this,hm⟩
  · rcases (I2.2 a v hg).1 with h | ⟨m,_,hm⟩
    · (try simp only[List.mem_append] at h ⊢);exact ti
    · have:=List.mem_of_getElem? hm;(try simp only[List.mem_append]);exact ti
 show Code.wp _ _ _ _ _
 refine Tc.go (x:=⟨Try.f18,[mb L0,mb L1],false⟩) (st:=⟨(tb [(.mp 0),(.mp 1)] 2 2 1 []),[mb L0,mb L1,mb K2]⟩) (s:=⟨(tb [(.mp 0),(.mp 1)] 2 2 2 [(41,.int .i64 2)]),[mb L0,mb L1,mb K2]⟩) (Tc.code aF [] [] (by kernel_rfl)) R N12 fun a13 w13 N13=>?_
 replace N13:=N13.less (t':=(tb [(.mp 0),(.mp 1)] 2 2 2 [])) (fC (by kernel_rfl) (by kernel_rfl))
 -- the end
 rw[rounds_succ]
 refine aCB ?_
 refine wp_seq ?_
 refine Tc.go (x:=⟨Try.f18,[mb L0,mb L1],false⟩) (st:=⟨(tb [(.mp 0),(.mp 1)] 2 2 2 []),[mb L0,mb L1,mb K2]⟩) (s:=⟨(tb [(.mp 0),(.mp 1)] 2 2 2 [(14,.bool (ltI 2 2))]),[mb L0,mb L1,mb K2]⟩) (Tc.code aF [] [] (by kernel_rfl)) R N13 fun a14 w14 N14=>?_
 have hc:Tc Try.prog ⟨Try.f18,[mb L0,mb L1],false⟩ (.cond (.tmp 14) .skip (.exit 0)) ⟨(tb [(.mp 0),(.mp 1)] 2 2 2 [(14,.bool (ltI 2 2))]),[mb L0,mb L1,mb K2]⟩ (.st (.exit 0) ⟨(tb [(.mp 0),(.mp 1)] 2 2 2 [(14,.bool (ltI 2 2))]),[mb L0,mb L1,mb K2]⟩):=Tc.code aF [.d false] [⟨(rfl:ltI 2 2=ltI 2 2)⟩] (by kernel_rfl)
 refine wp_seq (hc σ π w _ _ _ R N14 fun e a' w' hp=>?_)
 obtain⟨rfl,N15⟩:=hp
 replace N15:=N15.less (t':=(tb [(.mp 0),(.mp 1)] 2 2 2 [])) (fC (by kernel_rfl) (by kernel_rfl))
 show Code.wp _ _ _ _ _
 have hE:Tc Try.prog ⟨Try.f18,[mb L0,mb L1],false⟩ aEnd ⟨(tb [(.mp 0),(.mp 1)] 2 2 2 []),[mb L0,mb L1,mb K2]⟩ (.fin (.bool true) [mb L0,mb L1]):=Tc.code aF [] [] (by kernel_rfl)
 refine hE σ π w _ _ _ R N15 fun e a2 w2 hp=>?_
 have he:=hp.1
 subst he
 exact lastQ _ a2 w2 (by rw[I2.yes (fun e he=>he)]) hp
end
end Go.Ws
