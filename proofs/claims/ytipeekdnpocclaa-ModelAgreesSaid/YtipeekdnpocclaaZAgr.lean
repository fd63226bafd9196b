/-
  model.Agree, walked: ranges over maps.
  Conditions: none.
-/
import Derived.Test.YtipeekdnpocclaaZPre
import Derived.Test.YtipeekdnpocclaaZAgrDef
import Derived.Test.YtipeekdnpocclaaZB2
set_option linter.unusedVariables false
set_option linter.unusedSimpArgs false
namespace Go.Ws
open Go.Proofs
set_option linter.unusedSimpArgs false
set_option linter.unusedVariables false
set_option maxRecDepth 1000000
set_option maxHeartbeats 4000000
noncomputable def aR0:Code:=at_ Try.f18 [0]
noncomputable def aR1:Code:=at_ Try.f18 [1,0]
noncomputable def aR2:Code:=at_ Try.f18 [1,1,0,0]
noncomputable def aB0:Code:=at_ Try.f18 [1,1,0,1,4,5]
noncomputable def aR3:Code:=at_ Try.f18 [1,1,0,1,4,5,0]
noncomputable def aR4:Code:=at_ Try.f18 [1,1,0,1,4,5,1,1,0,4,0]
noncomputable def aR13:Code:=at_ Try.f18 [1,1,0,1,4,5,1,1,1]
noncomputable def aL3:List Oper:=opsT (at_ Try.f18 [1,1,0,1,4,5,1,1,0,4,1,1,4,5,1,1,4,0])
noncomputable def uB:Code:=at_ Try.f18 [1,1,0,1,4,5,1,1,0,4,1,1,4,5,1,1,4,1]
noncomputable def aEnd:Code:=at_ Try.f18 [1,1,1]
noncomputable def aRNG : Code := wN 5 17 5 25 25 0 "model.go:31" "model.go:31" #[] #[Edge.mk 0 Ground.data] 18 19 20 21 2 3 6 7 0 4 0 "model.go:31" "model.go:31" "model.go:31" #[] #[Edge.mk 0 Ground.data] #[] aL3 uB
theorem zI:Try.f18.body=some (.seq aR0 (.seq aR1 (.seq (.seq aR2 (.block 0 (.loop aB0))) aEnd))):=by kernel_rfl
theorem a_loop:aB0 = .seq aR3 (.seq (.cond (.tmp 14) .skip (.exit 0)) (.seq (.block 1 (.seq aR4 aRNG)) aR13)):=by kernel_rfl
theorem o8 {P:Program} {Q:Exit→Act→World→Prop} {a:Act} {w:World} (h:(Code.seq aR3 (.seq (.cond (.tmp 14) .skip (.exit 0)) (.seq (.block 1 (.seq aR4 aRNG)) aR13))).wp P Q a w):aB0.wp P Q a w:=by rw[a_loop];exact h
theorem aDE:Try.prog.underlying 25=some (.map 3 3):=by kernel_rfl
def mb (L:List (Int × Int)):Blk:=.map (bK .i64 (fun y=>(aO y).headD aI) L) L.length
def tb (c:List AV) (N:Nat) (n i:Int) (m:List (Nat × AV)):List AV:=mkT 42 ((0,.ps c)::(2,.bool false)::(3,.mp N)::(11,.ps c)::(12,.int .i64 n)::(13,.int .i64 i)::m)
def s7 (t:List AV) (p:Addr) (a x:Int):List AV:=((((((((t.set 18 (.raw p)).set 19 (.tup [.bool true,.int .i64 a,.int .i64 x])).set 20 (.bool true)).set 21 (.tup [.int .i64 a,.int .i64 x])).set 22 (.int .i64 a)).set 23 (.int .i64 x)).set 6 (.int .i64 a)).set 7 (.int .i64 x))
def s8 (t:List AV) (x:Int):List AV:=(t.set 24 (.int .i64 x)).set 25 (.bool (eqI x 0))
def s9 (t:List AV) (N:Nat) (a x x1:Int) (b:Bool) (v34 v35 v36 v37:AV):List AV:=(((((((((((((((((s8 t x).set 26 (.tup [(.int .i64 x1),(.bool b)])).set 27 (.mp N)).set 28 (.int .i64 a)).set 29 (.tup [(.int .i64 x1),(.bool b)])).set 30 (.int .i64 x1)).set 31 (.bool b)).set 8 (.int .i64 x1)).set 9 (.bool b)).set 32 (.bool b)).set 33 (.bool b)).set 34 v34).set 35 v35).set 36 v36).set 37 v37).set 38 (.mp N)).set 39 (.int .i64 a)).set 40 (.int .i64 x)
theorem Tc.go {P:Program} {x:Ctx} {c:Code} {st s:St} {σ:Sig} {π:bE} {w w1:World} {a:Act} {K:Act→World→Prop} {Q:Exit→Act→World→Prop} (h:Tc P x c st (.st .normal s)) (R:Rel σ π w (x.h0[·]?)) (N:Now σ π w st.t (st.h[·]?) a w1)
 (hK:∀a' w',Now σ π w s.t (s.h[·]?) a' w'→K a' w'):c.wp P (Exit.then K Q) a w1 :=
 h σ π w a w1 _ R N fun e a' w' hp=>by
  obtain⟨rfl,N'⟩:=hp
  exact hK _ _ N'
theorem aAX {V:Type} {kd:IntKind} {ev:V→AV}:∀{l:List (Int × V)} {i j:Nat},(kG kd ev i l)[j]? = (l[j]?).map fun p=>(.int kd p.1,ev p.2,i+j)
 | [],i,j=>by simp [kG]
 | (k,v)::l,i,0=>by simp [kG]
 | (k,v)::l,i,j+1=>by
  simp only[kG,List.getElem?_cons_succ]
  rw[aAX,show i+1+j=i+(j+1) by omega]
theorem vA {V:Type} {kd:IntKind} {ev:V→AV} {l:List (Int × V)} {k v:AV} {n:Nat} (h:(k,v,n)∈bK kd ev l):∃p,l[n]? = some p∧k = .int kd p.1∧v=ev p.2:=by
 obtain⟨j,hj⟩:=List.mem_iff_getElem?.1 h
 unfold bK at hj
 rw[aAX] at hj
 obtain⟨p,hp,e⟩:=Option.map_eq_some_iff.1 hj
 simp only[Prod.mk.injEq] at e
 obtain⟨rfl,rfl,rfl⟩:=e
 exact⟨p,by simpa using hp,rfl,rfl⟩
theorem aB3 {V:Type} {kd:IntKind} {ev:V→AV} {l:List (Int × V)} {n:Nat} {p:Int × V} (h:l[n]? = some p):(.int kd p.1,ev p.2,n)∈bK kd ev l:=by
 refine List.mem_iff_getElem?.2 ⟨n,?_⟩
 unfold bK
 rw[aAX,h]
 simp
theorem aKI {V:Type} {kd:IntKind} {ev:V→AV} {l:List (Int × V)}:((bK kd ev l).map (·.2.2))=List.range l.length:=by
 apply List.ext_getElem?
 intro i
 unfold bK
 rw[List.getElem?_map,aAX]
 rcases Nat.lt_or_ge i l.length with h | h
 · simp [h]
 · simp [h]
theorem aB4 {V:Type} {kd:IntKind} {ev:V→AV} {l:List (Int × V)}:((bK kd ev l).map (·.2.2)).Nodup:=by rw[aKI];exact List.nodup_range
theorem aCG {V:Type} {kd:IntKind} {ev:V→AV} {l:List (Int × V)}:∀e∈bK kd ev l,e.2.2<l.length:=fun e he=>by
 obtain⟨p,hp,_⟩:=vA (k:=e.1) (v:=e.2.1) (n:=e.2.2) he
 exact(List.getElem?_eq_some_iff.1 hp).1
theorem aEG:∀(l:List (Int × Int)) (q x a:Int),cZ (bG l q x) a=if a=q then some x else cZ l a
 | [],q,x,a=>by simp [bG,cZ]
 | (k,v)::l,q,x,a=>by
  simp only[bG]
  split
  · rename_i h
    simp only[cZ]
    by_cases e:a=q
    · rw[if_pos e,if_pos e]
    · rw[if_neg e,if_neg e,if_neg (by rw[← h];exact e)]
  · rename_i h
    simp only[cZ]
    rw[aEG l q x a]
    by_cases e:a=k
    · rw[if_pos e,if_pos e,if_neg (by rw[e];exact fun h2=>h h2.symm)]
    · rw[if_neg e,if_neg e]
def Inv (K:List (Int × Int)) (Sx:Int × Int→Prop):Prop:=(∀a v,Sx (a,v)→v≠0→cZ K a=some v)∧(∀a v,cZ K a=some v→Sx (a,v)∧v≠0)
theorem Inv.skip {K:List (Int × Int)} {Sx Sy:Int × Int→Prop} (h:Inv K Sx) {k v:Int} (hv:v=0) (hS:∀e,Sy e↔Sx e∨e=(k,v)):Inv K Sy:=by
 refine⟨fun a u hs hu=>?_,fun a u hg=>⟨(hS _).2 (.inl (h.2 a u hg).1),(h.2 a u hg).2⟩⟩
 rcases (hS _).1 hs with h1 | h1
 · exact h.1 a u h1 hu
 · cases h1;exact absurd hv hu
theorem Inv.put {K:List (Int × Int)} {Sx Sy:Int × Int→Prop} (h:Inv K Sx) {k v:Int} (hv:v≠0) (hk:cZ K k=none∨cZ K k=some v) (hS:∀e,Sy e↔Sx e∨e=(k,v)):Inv (bG K k v) Sy:=by
 refine⟨fun a u hs hu=>?_,fun a u hg=>?_⟩
 · rw[aEG]
   by_cases e:a=k
   · rw[if_pos e]
     subst e
     rcases (hS _).1 hs with h1 | h1
     · have:=h.1 a u h1 hu
       rcases hk with hk | hk<;>rw[hk] at this<;>cases this
       rfl
     · cases h1;rfl
   · rw[if_neg e]
     rcases (hS _).1 hs with h1 | h1
     · exact h.1 a u h1 hu
     · cases h1;exact absurd rfl e
 · rw[aEG] at hg
   by_cases e:a=k
   · rw[if_pos e] at hg
     cases hg
     subst e
     exact⟨(hS _).2 (.inr rfl),hv⟩
   · rw[if_neg e] at hg
     exact⟨(hS _).2 (.inl (h.2 a u hg).1),(h.2 a u hg).2⟩
theorem Inv.no {K All:List (Int × Int)} {Sx:Int × Int→Prop} (h:Inv K Sx) (hA:∀e,Sx e→e∈All) {k v x:Int} (hv:v≠0) (hm:(k,v)∈All) (hg:cZ K k=some x) (hx:x≠v):dL All=false:=by
 refine Bool.eq_false_iff.2 fun ht=>hx ?_
 obtain⟨h1,h2⟩:=h.2 k x hg
 exact pX.1 ht _ (hA _ h1) _ hm rfl h2 hv
theorem Inv.yes {K All:List (Int × Int)} {Sx:Int × Int→Prop} (h:Inv K Sx) (hA:∀e∈All,Sx e):dL All=true:=by
 refine pX.2 fun x hx y hy e h1 h2=>?_
 have a1:=h.1 x.1 x.2 (hA x hx) h1
 have a2:=h.1 y.1 y.2 (hA y hy) h2
 rw[e,a2] at a1
 exact(Option.some.inj a1).symm
theorem yV {K:List (Int × Int)} {k:Int} (h:jA K k=true):∃v,cZ K k=some v:=by
 unfold jA at h
 cases hg:cZ K k with
 | none=>rw[hg] at h;cases h
 | some v=>exact⟨v,rfl⟩

theorem ti {p:Prop} (h:p:=by first|assumption | (exact .inl (by assumption)) | (exact .inr (by assumption)) | (exact .inl (.inl (by assumption))) | (exact .inl (.inr (by assumption)))):p:=h

section
variable {L0:List (Int × Int)}
def aEH (L0:List (Int × Int)) (D:List Nat) (t:List AV) (h:List Blk):Prop:=∃K,t=(tb [(.mp 0),.mapn,(.mp 0)] 1 3 0 [(5,(.mp 0)),(17,(.mp 0))])∧h=[mb L0,mb K]∧Inv K (fun e=>e∈([])∨∃n∈D,L0[n]? = some e)
theorem aIN (D:List Nat) (t:List AV) (h:List Blk) (p:Addr) (k v:AV) (n:Nat) (hj:aEH L0 D t h) (hm:(k,v,n)∈bK .i64 (fun y=>(aO y).headD aI) L0) (hD:D.contains n=false) :
 ∃ st7, iT (cT Try.prog) nR qM (⟨some 21, .entry (.tmp 18), 0, "model.go:31", #[], none⟩ :: aL3) aL3 ⟨((((t.set 18 (.raw p)).set 19 (.tup [.bool true, k, v])).set 20 (.bool true)).set 21 (.tup [k, v])), h⟩ = some st7 ∧
  ((∃y s' t',Tc Try.prog ⟨Try.f18,st7.h,false⟩ uB st7 (.st y s')∧(y = .normal∨y = .exit 3)∧rX (t'.set 18 (.raw p)) s'.t∧aEH L0 (n::D) t' s'.h) ∨
   (∃v h',Tc Try.prog ⟨Try.f18,st7.h,false⟩ uB st7 (.fin v h')∧v.refs=[]∧(∀b∈h'.take 1,b.refs=[])∧1≤h'.length∧(v = .bool false∧h'.take 1=[mb L0]∧dL (L0++L0)=false))):=by
 obtain⟨K,rfl,rfl,I⟩:=hj
 obtain⟨⟨a,x⟩,hp,rfl,rfl⟩:=vA hm
 have hS:∀e,(e∈([])∨∃m∈n::D,L0[m]? = some e)↔(e∈([])∨∃m∈D,L0[m]? = some e)∨e=(a,x):=fun e=>by
  constructor
  · rintro (h | ⟨m,hm,h⟩)
    · exact .inl (.inl h)
    · rcases List.mem_cons.1 hm with rfl | hm
      · rw[hp] at h;cases h;exact .inr rfl
      · exact .inl (.inr ⟨m,hm,h⟩)
  · rintro ((h | ⟨m,hm,h⟩) | rfl)
    · exact .inl h
    · exact .inr ⟨m,List.mem_cons_of_mem _ hm,h⟩
    · exact .inr ⟨n,List.mem_cons_self,hp⟩
 refine⟨⟨(s7 (tb [(.mp 0),.mapn,(.mp 0)] 1 3 0 [(5,(.mp 0)),(17,(.mp 0))]) p a x),[mb L0,mb K]⟩,by kernel_rfl,?_⟩
 by_cases c0:eqI x 0=true
 · left
   refine⟨.exit 3,⟨s8 (s7 (tb [(.mp 0),.mapn,(.mp 0)] 1 3 0 [(5,(.mp 0)),(17,(.mp 0))]) p a x) x,[mb L0,mb K]⟩,(tb [(.mp 0),.mapn,(.mp 0)] 1 3 0 [(5,(.mp 0)),(17,(.mp 0))]),Tc.code aD [.d true] [⟨c0⟩] (by kernel_rfl),.inr rfl,bQ (by kernel_rfl) (by kernel_rfl),K,rfl,rfl,I.skip (fE.1 c0) hS⟩
 replace c0:=eqf c0
 have hx:x≠0:=fun h=>by rw[fE.2 h] at c0;cases c0
 by_cases c1:jA K a=true
 · obtain⟨x1,e2⟩:=yV c1
   by_cases c3:eqI x1 x=true
   · left
     have e3:x1=x:=fE.1 c3
     refine⟨.normal,⟨s9 (s7 (tb [(.mp 0),.mapn,(.mp 0)] 1 3 0 [(5,(.mp 0)),(17,(.mp 0))]) p a x) 1 a x x1 true (.int .i64 x1) (.int .i64 x) (.bool (!eqI x1 x)) (.bool (!eqI x1 x)),[mb L0,mb (bG K a x)]⟩,(tb [(.mp 0),.mapn,(.mp 0)] 1 3 0 [(5,(.mp 0)),(17,(.mp 0))]),
      Tc.code aD [.d false,.opt (some (.int .i64 x1)),.d true,.d true,.d true,.d true,.d false,.ents (bK .i64 (fun y=>(aO y).headD aI) (bG K a x)) (bG K a x).length] [⟨(gK .i64 (fun y=>(aO y).headD aI) K a x)⟩,⟨(nF c3)⟩,⟨(rfl:true=true)⟩,⟨(rfl:true=true)⟩,⟨(rfl:true=true)⟩,⟨(rfl:true=true)⟩,⟨(eW .i64 (fun y=>(aO y).headD aI) e2)⟩,⟨c0⟩] (by kernel_rfl),.inl rfl,bQ (by kernel_rfl) (by kernel_rfl),bG K a x,rfl,rfl,I.put hx (.inr (by rw[e2,e3])) hS⟩
   · right
     have hne:x1≠x:=fun h=>c3 (fE.2 h)
     replace c3:=eqf c3
     refine⟨.bool false,[mb L0,mb K],Tc.code aD [.d false,.opt (some (.int .i64 x1)),.d true,.d true,.d true,.d true,.d true] [⟨(nT c3)⟩,⟨(rfl:true=true)⟩,⟨(rfl:true=true)⟩,⟨(rfl:true=true)⟩,⟨(rfl:true=true)⟩,⟨(eW .i64 (fun y=>(aO y).headD aI) e2)⟩,⟨c0⟩] (by kernel_rfl),rfl,by simp [Blk.refs,mb],by simp,rfl,rfl,I.no (fun e he=>?_) hx ?_ e2 hne⟩
     · rcases he with h | ⟨m,_,h⟩
       · simp only[List.mem_append] at h ⊢;cases h
       · have:=List.mem_of_getElem? h;(try simp only[List.mem_append]);exact ti
     · have:=List.mem_of_getElem? hp;(try simp only[List.mem_append]);exact ti
 · left
   have c1':=eqf c1
   refine⟨.normal,⟨s9 (s7 (tb [(.mp 0),.mapn,(.mp 0)] 1 3 0 [(5,(.mp 0)),(17,(.mp 0))]) p a x) 1 a x 0 false aI aI aI (.bool false),[mb L0,mb (bG K a x)]⟩,(tb [(.mp 0),.mapn,(.mp 0)] 1 3 0 [(5,(.mp 0)),(17,(.mp 0))]),
    Tc.code aD [.d false,.opt none,.d false,.d false,.d false,.d false,.d false,.ents (bK .i64 (fun y=>(aO y).headD aI) (bG K a x)) (bG K a x).length] [⟨(gK .i64 (fun y=>(aO y).headD aI) K a x)⟩,⟨(rfl:false=false)⟩,⟨(rfl:false=false)⟩,⟨(rfl:false=false)⟩,⟨(rfl:false=false)⟩,⟨(rfl:false=false)⟩,⟨(gP .i64 (fun y=>(aO y).headD aI) c1')⟩,⟨c0⟩] (by kernel_rfl),.inl rfl,bQ (by kernel_rfl) (by kernel_rfl),bG K a x,rfl,rfl,I.put hx (.inl (qZ c1')) hS⟩
def aFR (L0:List (Int × Int)) (D:List Nat) (t:List AV) (h:List Blk):Prop:=∃K,t=(tb [(.mp 0),.mapn,(.mp 0)] 1 3 2 [(5,(.mp 0)),(17,(.mp 0))])∧h=[mb L0,mb K]∧Inv K (fun e=>e∈(L0)∨∃n∈D,L0[n]? = some e)
theorem aHH (D:List Nat) (t:List AV) (h:List Blk) (p:Addr) (k v:AV) (n:Nat) (hj:aFR L0 D t h) (hm:(k,v,n)∈bK .i64 (fun y=>(aO y).headD aI) L0) (hD:D.contains n=false) :
 ∃ st7, iT (cT Try.prog) nR qM (⟨some 21, .entry (.tmp 18), 0, "model.go:31", #[], none⟩ :: aL3) aL3 ⟨((((t.set 18 (.raw p)).set 19 (.tup [.bool true, k, v])).set 20 (.bool true)).set 21 (.tup [k, v])), h⟩ = some st7 ∧
  ((∃y s' t',Tc Try.prog ⟨Try.f18,st7.h,false⟩ uB st7 (.st y s')∧(y = .normal∨y = .exit 3)∧rX (t'.set 18 (.raw p)) s'.t∧aFR L0 (n::D) t' s'.h) ∨
   (∃v h',Tc Try.prog ⟨Try.f18,st7.h,false⟩ uB st7 (.fin v h')∧v.refs=[]∧(∀b∈h'.take 1,b.refs=[])∧1≤h'.length∧(v = .bool false∧h'.take 1=[mb L0]∧dL (L0++L0)=false))):=by
 obtain⟨K,rfl,rfl,I⟩:=hj
 obtain⟨⟨a,x⟩,hp,rfl,rfl⟩:=vA hm
 have hS:∀e,(e∈(L0)∨∃m∈n::D,L0[m]? = some e)↔(e∈(L0)∨∃m∈D,L0[m]? = some e)∨e=(a,x):=fun e=>by
  constructor
  · rintro (h | ⟨m,hm,h⟩)
    · exact .inl (.inl h)
    · rcases List.mem_cons.1 hm with rfl | hm
      · rw[hp] at h;cases h;exact .inr rfl
      · exact .inl (.inr ⟨m,hm,h⟩)
  · rintro ((h | ⟨m,hm,h⟩) | rfl)
    · exact .inl h
    · exact .inr ⟨m,List.mem_cons_of_mem _ hm,h⟩
    · exact .inr ⟨n,List.mem_cons_self,hp⟩
 refine⟨⟨(s7 (tb [(.mp 0),.mapn,(.mp 0)] 1 3 2 [(5,(.mp 0)),(17,(.mp 0))]) p a x),[mb L0,mb K]⟩,by kernel_rfl,?_⟩
 by_cases c0:eqI x 0=true
 · left
   refine⟨.exit 3,⟨s8 (s7 (tb [(.mp 0),.mapn,(.mp 0)] 1 3 2 [(5,(.mp 0)),(17,(.mp 0))]) p a x) x,[mb L0,mb K]⟩,(tb [(.mp 0),.mapn,(.mp 0)] 1 3 2 [(5,(.mp 0)),(17,(.mp 0))]),Tc.code aD [.d true] [⟨c0⟩] (by kernel_rfl),.inr rfl,bQ (by kernel_rfl) (by kernel_rfl),K,rfl,rfl,I.skip (fE.1 c0) hS⟩
 replace c0:=eqf c0
 have hx:x≠0:=fun h=>by rw[fE.2 h] at c0;cases c0
 by_cases c1:jA K a=true
 · obtain⟨x1,e2⟩:=yV c1
   by_cases c3:eqI x1 x=true
   · left
     have e3:x1=x:=fE.1 c3
     refine⟨.normal,⟨s9 (s7 (tb [(.mp 0),.mapn,(.mp 0)] 1 3 2 [(5,(.mp 0)),(17,(.mp 0))]) p a x) 1 a x x1 true (.int .i64 x1) (.int .i64 x) (.bool (!eqI x1 x)) (.bool (!eqI x1 x)),[mb L0,mb (bG K a x)]⟩,(tb [(.mp 0),.mapn,(.mp 0)] 1 3 2 [(5,(.mp 0)),(17,(.mp 0))]),
      Tc.code aD [.d false,.opt (some (.int .i64 x1)),.d true,.d true,.d true,.d true,.d false,.ents (bK .i64 (fun y=>(aO y).headD aI) (bG K a x)) (bG K a x).length] [⟨(gK .i64 (fun y=>(aO y).headD aI) K a x)⟩,⟨(nF c3)⟩,⟨(rfl:true=true)⟩,⟨(rfl:true=true)⟩,⟨(rfl:true=true)⟩,⟨(rfl:true=true)⟩,⟨(eW .i64 (fun y=>(aO y).headD aI) e2)⟩,⟨c0⟩] (by kernel_rfl),.inl rfl,bQ (by kernel_rfl) (by kernel_rfl),bG K a x,rfl,rfl,I.put hx (.inr (by rw[e2,e3])) hS⟩
   · right
     have hne:x1≠x:=fun h=>c3 (fE.2 h)
     replace c3:=eqf c3
     refine⟨.bool false,[mb L0,mb K],Tc.code aD [.d false,.opt (some (.int .i64 x1)),.d true,.d true,.d true,.d true,.d true] [⟨(nT c3)⟩,⟨(rfl:true=true)⟩,⟨(rfl:true=true)⟩,⟨(rfl:true=true)⟩,⟨(rfl:true=true)⟩,⟨(eW .i64 (fun y=>(aO y).headD aI) e2)⟩,⟨c0⟩] (by kernel_rfl),rfl,by simp [Blk.refs,mb],by simp,rfl,rfl,I.no (fun e he=>?_) hx ?_ e2 hne⟩
     · rcases he with h | ⟨m,_,h⟩
       · simp only[List.mem_append] at h ⊢;exact ti
       · have:=List.mem_of_getElem? h;(try simp only[List.mem_append]);exact ti
     · have:=List.mem_of_getElem? hp;(try simp only[List.mem_append]);exact ti
 · left
   have c1':=eqf c1
   refine⟨.normal,⟨s9 (s7 (tb [(.mp 0),.mapn,(.mp 0)] 1 3 2 [(5,(.mp 0)),(17,(.mp 0))]) p a x) 1 a x 0 false aI aI aI (.bool false),[mb L0,mb (bG K a x)]⟩,(tb [(.mp 0),.mapn,(.mp 0)] 1 3 2 [(5,(.mp 0)),(17,(.mp 0))]),
    Tc.code aD [.d false,.opt none,.d false,.d false,.d false,.d false,.d false,.ents (bK .i64 (fun y=>(aO y).headD aI) (bG K a x)) (bG K a x).length] [⟨(gK .i64 (fun y=>(aO y).headD aI) K a x)⟩,⟨(rfl:false=false)⟩,⟨(rfl:false=false)⟩,⟨(rfl:false=false)⟩,⟨(rfl:false=false)⟩,⟨(rfl:false=false)⟩,⟨(gP .i64 (fun y=>(aO y).headD aI) c1')⟩,⟨c0⟩] (by kernel_rfl),.inl rfl,bQ (by kernel_rfl) (by kernel_rfl),bG K a x,rfl,rfl,I.put hx (.inl (qZ c1')) hS⟩
theorem aKN:Tri Try.prog 18 [.ps [(.mp 0),.mapn,(.mp 0)]] [mb L0] (.bool (dL (L0++L0))) [mb L0]:=by
 have hx : Try.prog.funcs[18]? = some Try.f18 ∧ (Try.f18.name == "runtime.NumGoroutine") = false ∧ Try.f18.body.isSome = true := aEU
 refine⟨uT hx.1 hx.2.1 zI,by simp,fun σ π w cargs R hv=>?_⟩
 refine calls_of_wp hx.1 zI ?_
 have N0:Now σ π w (mkT 42 [(0,.ps [(.mp 0),.mapn,(.mp 0)])]) (([mb L0]:List Blk)[·]?) { tmps:=cargs++Array.replicate (Try.f18.ntmps - cargs.size) undef,defers:=[] } w:=⟨rfl,σ,π,aAT hv Try.f18.ntmps,.refl R⟩
 have last:∀(v:AV) a' w',xM Try.prog ⟨Try.f18,[mb L0],false⟩ (.fin v [mb L0]) σ π w .ret a' w'→bodyPost Try.prog Try.f18 (Ret σ π w v [mb L0]) .ret a' w':=fun v a' w' hp=>by
  obtain⟨_,hd,u,hu,_,hr⟩:=hp
  exact⟨hd,u,hu,hr⟩
 have lastQ:∀v a' w',v = .bool (dL (L0++L0))→xM Try.prog ⟨Try.f18,[mb L0],false⟩ (.fin v [mb L0]) σ π w .ret a' w'→bodyPost Try.prog Try.f18 (Ret σ π w (.bool (dL (L0++L0))) [mb L0]) .ret a' w':=fun v a' w' e hp=>by subst e;exact last _ a' w' hp
 generalize bodyPost Try.prog Try.f18 (Ret σ π w (.bool (dL (L0++L0))) [mb L0])=Q0 at lastQ ⊢
 refine wp_seq ?_
 refine Tc.go (x:=⟨Try.f18,[mb L0],false⟩) (st:=⟨mkT 42 [(0,.ps [(.mp 0),.mapn,(.mp 0)])],[mb L0]⟩) (s:=⟨mkT 42 [(0,.ps [(.mp 0),.mapn,(.mp 0)]),(2,.bool false)],[mb L0]⟩) (Tc.code aD [] [] (by kernel_rfl)) R N0 fun a1 w1 N1=>?_
 refine wp_seq ?_
 refine Tc.go (x:=⟨Try.f18,[mb L0],false⟩) (st:=⟨mkT 42 [(0,.ps [(.mp 0),.mapn,(.mp 0)]),(2,.bool false)],[mb L0]⟩) (s:=⟨mkT 42 [(0,.ps [(.mp 0),.mapn,(.mp 0)]),(2,.bool false),(3,.mp 1),(10,.mp 1)],[mb L0,mb ([]:List (Int × Int))]⟩) (Tc.code aD [] [] (by kernel_rfl)) R N1 fun a2 w2 N2=>?_
 replace N2:=N2.less (t':=mkT 42 [(0,.ps [(.mp 0),.mapn,(.mp 0)]),(2,.bool false),(3,.mp 1)]) (bQ (by kernel_rfl) (by kernel_rfl))
 refine wp_seq (wp_seq ?_)
 refine Tc.go (x:=⟨Try.f18,[mb L0],false⟩) (st:=⟨mkT 42 [(0,.ps [(.mp 0),.mapn,(.mp 0)]),(2,.bool false),(3,.mp 1)],[mb L0,mb ([]:List (Int × Int))]⟩) (s:=⟨(tb [(.mp 0),.mapn,(.mp 0)] 1 3 0 []),[mb L0,mb ([]:List (Int × Int))]⟩) (Tc.code aD [] [] (by kernel_rfl)) R N2 fun a3 w3 N3=>?_
 refine wp_block (wp_loop_rounds 4 ?_)
 obtain⟨K0,hK0,I0⟩:∃K:List (Int × Int),K=[]∧Inv K (fun e=>e∈([]:List (Int × Int))):=⟨[],rfl,fun a v h=>(by cases h),fun a v h=>(by cases h)⟩
 rw[← hK0] at N3
 -- round 0
 rw[rounds_succ]
 refine o8 ?_
 refine wp_seq ?_
 refine Tc.go (x:=⟨Try.f18,[mb L0],false⟩) (st:=⟨(tb [(.mp 0),.mapn,(.mp 0)] 1 3 0 []),[mb L0,mb K0]⟩) (s:=⟨(tb [(.mp 0),.mapn,(.mp 0)] 1 3 0 [(14,.bool (ltI 0 3))]),[mb L0,mb K0]⟩) (Tc.code aD [] [] (by kernel_rfl)) R N3 fun a4 w4 N4=>?_
 refine wp_seq ?_
 refine Tc.go (x:=⟨Try.f18,[mb L0],false⟩) (st:=⟨(tb [(.mp 0),.mapn,(.mp 0)] 1 3 0 [(14,.bool (ltI 0 3))]),[mb L0,mb K0]⟩) (s:=⟨(tb [(.mp 0),.mapn,(.mp 0)] 1 3 0 [(14,.bool (ltI 0 3))]),[mb L0,mb K0]⟩) (Tc.code aD [.d true] [⟨(rfl:ltI 0 3=ltI 0 3)⟩] (by kernel_rfl)) R N4 fun a5 w5 N5=>?_
 replace N5:=N5.less (t':=(tb [(.mp 0),.mapn,(.mp 0)] 1 3 0 [])) (bQ (by kernel_rfl) (by kernel_rfl))
 refine wp_seq (wp_block (wp_seq ?_))
 refine Tc.go (x:=⟨Try.f18,[mb L0],false⟩) (st:=⟨(tb [(.mp 0),.mapn,(.mp 0)] 1 3 0 []),[mb L0,mb K0]⟩) (s:=⟨(tb [(.mp 0),.mapn,(.mp 0)] 1 3 0 [(5,(.mp 0)),(15,.pp [(.mp 0),.mapn,(.mp 0)] 0),(16,(.mp 0))]),[mb L0,mb K0]⟩) (Tc.code aD [] [] (by kernel_rfl)) R N5 fun a6 w6 N6=>?_
 replace N6:=N6.less (t':=(tb [(.mp 0),.mapn,(.mp 0)] 1 3 0 [(5,(.mp 0))])) (bQ (by kernel_rfl) (by kernel_rfl))
 refine uV (x:=⟨Try.f18,[mb L0],false⟩) (t:=(tb [(.mp 0),.mapn,(.mp 0)] 1 3 0 [(5,(.mp 0))])) (h:=[mb L0,mb K0]) (b:=0) (es:=bK .i64 (fun y=>(aO y).headD aI) L0) (cl:=L0.length) (J:=aEH L0) (F:=fun v h'=>v = .bool false∧h'=[mb L0]∧dL (L0++L0)=false) R aB4 aCG (by decide) (by decide) (by decide) aDE rfl (by decide) ⟨K0,rfl,rfl,?_⟩ ?_ (aIN) N6 ?_ ?_
 · exact⟨fun a v hs=>I0.1 a v (by rcases hs with h | ⟨m,hm,_⟩;exact h;cases hm),fun a v hg=>⟨.inl (I0.2 a v hg).1,(I0.2 a v hg).2⟩⟩
 · rintro D t h ⟨K,rfl,rfl,_⟩;exact⟨⟨rfl,rfl,rfl,rfl⟩,rfl⟩
 rotate_left
 · rintro v h' a' w' ⟨rfl,rfl,hf⟩ hp;exact lastQ _ a' w' (by rw[hf]) hp
 rintro D t h a7 w7 ⟨K1,rfl,rfl,I1⟩ hall N7
 replace N7:=N7.less (t':=(tb [(.mp 0),.mapn,(.mp 0)] 1 3 0 [])) (bQ (by kernel_rfl) (by kernel_rfl))
 replace I1:Inv K1 (fun e=>e∈(L0)):=by
  refine⟨fun a v hs=>I1.1 a v ?_,fun a v hg=>⟨?_,(I1.2 a v hg).2⟩⟩
  · have h:=hs
    · obtain⟨m,hm⟩:=List.mem_iff_getElem?.1 h
      have:=hall _ (aB3 (kd:=.i64) (ev:=fun y=>(aO y).headD aI) hm)
      exact .inr ⟨m,by simpa using this,hm⟩
  · rcases (I1.2 a v hg).1 with h | ⟨m,_,hm⟩
    · cases h
    · have:=List.mem_of_getElem? hm;(try simp only[List.mem_append]);exact ti
 show Code.wp _ _ _ _ _
 refine Tc.go (x:=⟨Try.f18,[mb L0],false⟩) (st:=⟨(tb [(.mp 0),.mapn,(.mp 0)] 1 3 0 []),[mb L0,mb K1]⟩) (s:=⟨(tb [(.mp 0),.mapn,(.mp 0)] 1 3 1 [(41,.int .i64 1)]),[mb L0,mb K1]⟩) (Tc.code aD [] [] (by kernel_rfl)) R N7 fun a8 w8 N8=>?_
 replace N8:=N8.less (t':=(tb [(.mp 0),.mapn,(.mp 0)] 1 3 1 [])) (bQ (by kernel_rfl) (by kernel_rfl))
 -- round 1
 rw[rounds_succ]
 refine o8 ?_
 refine wp_seq ?_
 refine Tc.go (x:=⟨Try.f18,[mb L0],false⟩) (st:=⟨(tb [(.mp 0),.mapn,(.mp 0)] 1 3 1 []),[mb L0,mb K1]⟩) (s:=⟨(tb [(.mp 0),.mapn,(.mp 0)] 1 3 1 [(14,.bool (ltI 1 3))]),[mb L0,mb K1]⟩) (Tc.code aD [] [] (by kernel_rfl)) R N8 fun a9 w9 N9=>?_
 refine wp_seq ?_
 refine Tc.go (x:=⟨Try.f18,[mb L0],false⟩) (st:=⟨(tb [(.mp 0),.mapn,(.mp 0)] 1 3 1 [(14,.bool (ltI 1 3))]),[mb L0,mb K1]⟩) (s:=⟨(tb [(.mp 0),.mapn,(.mp 0)] 1 3 1 [(14,.bool (ltI 1 3))]),[mb L0,mb K1]⟩) (Tc.code aD [.d true] [⟨(rfl:ltI 1 3=ltI 1 3)⟩] (by kernel_rfl)) R N9 fun a10 w10 N10=>?_
 replace N10:=N10.less (t':=(tb [(.mp 0),.mapn,(.mp 0)] 1 3 1 [])) (bQ (by kernel_rfl) (by kernel_rfl))
 refine wp_seq (wp_block (wp_seq ?_))
 refine Tc.go (x:=⟨Try.f18,[mb L0],false⟩) (st:=⟨(tb [(.mp 0),.mapn,(.mp 0)] 1 3 1 []),[mb L0,mb K1]⟩) (s:=⟨(tb [(.mp 0),.mapn,(.mp 0)] 1 3 1 [(5,.mapn),(15,.pp [(.mp 0),.mapn,(.mp 0)] 1),(16,.mapn)]),[mb L0,mb K1]⟩) (Tc.code aD [] [] (by kernel_rfl)) R N10 fun a11 w11 N11=>?_
 replace N11:=N11.less (t':=(tb [(.mp 0),.mapn,(.mp 0)] 1 3 1 [(5,.mapn)])) (bQ (by kernel_rfl) (by kernel_rfl))
 refine aKG (t:=(tb [(.mp 0),.mapn,(.mp 0)] 1 3 1 [(5,.mapn)])) (h:=[mb L0,mb K1]) (by decide) aDE rfl (by decide) ⟨rfl,rfl,rfl⟩ (by decide) N11 fun a12 w12 N12=>?_
 replace N12:=N12.less (t':=(tb [(.mp 0),.mapn,(.mp 0)] 1 3 1 [])) (bQ (by kernel_rfl) (by kernel_rfl))
 obtain⟨K2,hKn1,I2⟩:∃K,K=K1∧Inv K (fun e=>e∈(L0)):=⟨_,rfl,I1⟩
 rw[← hKn1] at N12
 show Code.wp _ _ _ _ _
 refine Tc.go (x:=⟨Try.f18,[mb L0],false⟩) (st:=⟨(tb [(.mp 0),.mapn,(.mp 0)] 1 3 1 []),[mb L0,mb K2]⟩) (s:=⟨(tb [(.mp 0),.mapn,(.mp 0)] 1 3 2 [(41,.int .i64 2)]),[mb L0,mb K2]⟩) (Tc.code aD [] [] (by kernel_rfl)) R N12 fun a13 w13 N13=>?_
 replace N13:=N13.less (t':=(tb [(.mp 0),.mapn,(.mp 0)] 1 3 2 [])) (bQ (by kernel_rfl) (by kernel_rfl))
 -- round 2
 rw[rounds_succ]
 refine o8 ?_
 refine wp_seq ?_
 refine Tc.go (x:=⟨Try.f18,[mb L0],false⟩) (st:=⟨(tb [(.mp 0),.mapn,(.mp 0)] 1 3 2 []),[mb L0,mb K2]⟩) (s:=⟨(tb [(.mp 0),.mapn,(.mp 0)] 1 3 2 [(14,.bool (ltI 2 3))]),[mb L0,mb K2]⟩) (Tc.code aD [] [] (by kernel_rfl)) R N13 fun a14 w14 N14=>?_
 refine wp_seq ?_
 refine Tc.go (x:=⟨Try.f18,[mb L0],false⟩) (st:=⟨(tb [(.mp 0),.mapn,(.mp 0)] 1 3 2 [(14,.bool (ltI 2 3))]),[mb L0,mb K2]⟩) (s:=⟨(tb [(.mp 0),.mapn,(.mp 0)] 1 3 2 [(14,.bool (ltI 2 3))]),[mb L0,mb K2]⟩) (Tc.code aD [.d true] [⟨(rfl:ltI 2 3=ltI 2 3)⟩] (by kernel_rfl)) R N14 fun a15 w15 N15=>?_
 replace N15:=N15.less (t':=(tb [(.mp 0),.mapn,(.mp 0)] 1 3 2 [])) (bQ (by kernel_rfl) (by kernel_rfl))
 refine wp_seq (wp_block (wp_seq ?_))
 refine Tc.go (x:=⟨Try.f18,[mb L0],false⟩) (st:=⟨(tb [(.mp 0),.mapn,(.mp 0)] 1 3 2 []),[mb L0,mb K2]⟩) (s:=⟨(tb [(.mp 0),.mapn,(.mp 0)] 1 3 2 [(5,(.mp 0)),(15,.pp [(.mp 0),.mapn,(.mp 0)] 2),(16,(.mp 0))]),[mb L0,mb K2]⟩) (Tc.code aD [] [] (by kernel_rfl)) R N15 fun a16 w16 N16=>?_
 replace N16:=N16.less (t':=(tb [(.mp 0),.mapn,(.mp 0)] 1 3 2 [(5,(.mp 0))])) (bQ (by kernel_rfl) (by kernel_rfl))
 refine uV (x:=⟨Try.f18,[mb L0],false⟩) (t:=(tb [(.mp 0),.mapn,(.mp 0)] 1 3 2 [(5,(.mp 0))])) (h:=[mb L0,mb K2]) (b:=0) (es:=bK .i64 (fun y=>(aO y).headD aI) L0) (cl:=L0.length) (J:=aFR L0) (F:=fun v h'=>v = .bool false∧h'=[mb L0]∧dL (L0++L0)=false) R aB4 aCG (by decide) (by decide) (by decide) aDE rfl (by decide) ⟨K2,rfl,rfl,?_⟩ ?_ (aHH) N16 ?_ ?_
 · exact⟨fun a v hs=>I2.1 a v (by rcases hs with h | ⟨m,hm,_⟩;exact h;cases hm),fun a v hg=>⟨.inl (I2.2 a v hg).1,(I2.2 a v hg).2⟩⟩
 · rintro D t h ⟨K,rfl,rfl,_⟩;exact⟨⟨rfl,rfl,rfl,rfl⟩,rfl⟩
 rotate_left
 · rintro v h' a' w' ⟨rfl,rfl,hf⟩ hp;exact lastQ _ a' w' (by rw[hf]) hp
 rintro D t h a17 w17 ⟨K3,rfl,rfl,I3⟩ hall N17
 replace N17:=N17.less (t':=(tb [(.mp 0),.mapn,(.mp 0)] 1 3 2 [])) (bQ (by kernel_rfl) (by kernel_rfl))
 replace I3:Inv K3 (fun e=>e∈(L0++L0)):=by
  refine⟨fun a v hs=>I3.1 a v ?_,fun a v hg=>⟨?_,(I3.2 a v hg).2⟩⟩
  · rcases List.mem_append.1 hs with h | h
    · exact .inl h
    · obtain⟨m,hm⟩:=List.mem_iff_getElem?.1 h
      have:=hall _ (aB3 (kd:=.i64) (ev:=fun y=>(aO y).headD aI) hm)
      exact .inr ⟨m,by simpa using this,hm⟩
  · rcases (I3.2 a v hg).1 with h | ⟨m,_,hm⟩
    · (try simp only[List.mem_append] at h ⊢);exact ti
    · have:=List.mem_of_getElem? hm;(try simp only[List.mem_append]);exact ti
 show Code.wp _ _ _ _ _
 refine Tc.go (x:=⟨Try.f18,[mb L0],false⟩) (st:=⟨(tb [(.mp 0),.mapn,(.mp 0)] 1 3 2 []),[mb L0,mb K3]⟩) (s:=⟨(tb [(.mp 0),.mapn,(.mp 0)] 1 3 3 [(41,.int .i64 3)]),[mb L0,mb K3]⟩) (Tc.code aD [] [] (by kernel_rfl)) R N17 fun a18 w18 N18=>?_
 replace N18:=N18.less (t':=(tb [(.mp 0),.mapn,(.mp 0)] 1 3 3 [])) (bQ (by kernel_rfl) (by kernel_rfl))
 -- the end
 rw[rounds_succ]
 refine o8 ?_
 refine wp_seq ?_
 refine Tc.go (x:=⟨Try.f18,[mb L0],false⟩) (st:=⟨(tb [(.mp 0),.mapn,(.mp 0)] 1 3 3 []),[mb L0,mb K3]⟩) (s:=⟨(tb [(.mp 0),.mapn,(.mp 0)] 1 3 3 [(14,.bool (ltI 3 3))]),[mb L0,mb K3]⟩) (Tc.code aD [] [] (by kernel_rfl)) R N18 fun a19 w19 N19=>?_
 have hc:Tc Try.prog ⟨Try.f18,[mb L0],false⟩ (.cond (.tmp 14) .skip (.exit 0)) ⟨(tb [(.mp 0),.mapn,(.mp 0)] 1 3 3 [(14,.bool (ltI 3 3))]),[mb L0,mb K3]⟩ (.st (.exit 0) ⟨(tb [(.mp 0),.mapn,(.mp 0)] 1 3 3 [(14,.bool (ltI 3 3))]),[mb L0,mb K3]⟩):=Tc.code aD [.d false] [⟨(rfl:ltI 3 3=ltI 3 3)⟩] (by kernel_rfl)
 refine wp_seq (hc σ π w _ _ _ R N19 fun e a' w' hp=>?_)
 obtain⟨rfl,N20⟩:=hp
 replace N20:=N20.less (t':=(tb [(.mp 0),.mapn,(.mp 0)] 1 3 3 [])) (bQ (by kernel_rfl) (by kernel_rfl))
 show Code.wp _ _ _ _ _
 have hE:Tc Try.prog ⟨Try.f18,[mb L0],false⟩ aEnd ⟨(tb [(.mp 0),.mapn,(.mp 0)] 1 3 3 []),[mb L0,mb K3]⟩ (.fin (.bool true) [mb L0]):=Tc.code aD [] [] (by kernel_rfl)
 refine hE σ π w _ _ _ R N20 fun e a2 w2 hp=>?_
 have he:=hp.1
 subst he
 exact lastQ _ a2 w2 (by rw[I3.yes (fun e he=>he)]) hp
end
section
variable {L0:List (Int × Int)} {L1:List (Int × Int)}
def aHZ (L0:List (Int × Int)) (L1:List (Int × Int)) (D:List Nat) (t:List AV) (h:List Blk):Prop:=∃K,t=(tb [(.mp 0),(.mp 1)] 2 2 0 [(5,(.mp 0)),(17,(.mp 0))])∧h=[mb L0,mb L1,mb K]∧Inv K (fun e=>e∈([])∨∃n∈D,L0[n]? = some e)
theorem aKR (D:List Nat) (t:List AV) (h:List Blk) (p:Addr) (k v:AV) (n:Nat) (hj:aHZ L0 L1 D t h) (hm:(k,v,n)∈bK .i64 (fun y=>(aO y).headD aI) L0) (hD:D.contains n=false) :
 ∃ st7, iT (cT Try.prog) nR qM (⟨some 21, .entry (.tmp 18), 0, "model.go:31", #[], none⟩ :: aL3) aL3 ⟨((((t.set 18 (.raw p)).set 19 (.tup [.bool true, k, v])).set 20 (.bool true)).set 21 (.tup [k, v])), h⟩ = some st7 ∧
  ((∃y s' t',Tc Try.prog ⟨Try.f18,st7.h,false⟩ uB st7 (.st y s')∧(y = .normal∨y = .exit 3)∧rX (t'.set 18 (.raw p)) s'.t∧aHZ L0 L1 (n::D) t' s'.h) ∨
   (∃v h',Tc Try.prog ⟨Try.f18,st7.h,false⟩ uB st7 (.fin v h')∧v.refs=[]∧(∀b∈h'.take 2,b.refs=[])∧2≤h'.length∧(v = .bool false∧h'.take 2=[mb L0,mb L1]∧dL (L0++L1)=false))):=by
 obtain⟨K,rfl,rfl,I⟩:=hj
 obtain⟨⟨a,x⟩,hp,rfl,rfl⟩:=vA hm
 have hS:∀e,(e∈([])∨∃m∈n::D,L0[m]? = some e)↔(e∈([])∨∃m∈D,L0[m]? = some e)∨e=(a,x):=fun e=>by
  constructor
  · rintro (h | ⟨m,hm,h⟩)
    · exact .inl (.inl h)
    · rcases List.mem_cons.1 hm with rfl | hm
      · rw[hp] at h;cases h;exact .inr rfl
      · exact .inl (.inr ⟨m,hm,h⟩)
  · rintro ((h | ⟨m,hm,h⟩) | rfl)
    · exact .inl h
    · exact .inr ⟨m,List.mem_cons_of_mem _ hm,h⟩
    · exact .inr ⟨n,List.mem_cons_self,hp⟩
 refine⟨⟨(s7 (tb [(.mp 0),(.mp 1)] 2 2 0 [(5,(.mp 0)),(17,(.mp 0))]) p a x),[mb L0,mb L1,mb K]⟩,by kernel_rfl,?_⟩
 by_cases c0:eqI x 0=true
 · left
   refine⟨.exit 3,⟨s8 (s7 (tb [(.mp 0),(.mp 1)] 2 2 0 [(5,(.mp 0)),(17,(.mp 0))]) p a x) x,[mb L0,mb L1,mb K]⟩,(tb [(.mp 0),(.mp 1)] 2 2 0 [(5,(.mp 0)),(17,(.mp 0))]),Tc.code aD [.d true] [⟨c0⟩] (by kernel_rfl),.inr rfl,bQ (by kernel_rfl) (by kernel_rfl),K,rfl,rfl,I.skip (fE.1 c0) hS⟩
 replace c0:=eqf c0
 have hx:x≠0:=fun h=>by rw[fE.2 h] at c0;cases c0
 by_cases c1:jA K a=true
 · obtain⟨x1,e2⟩:=yV c1
   by_cases c3:eqI x1 x=true
   · left
     have e3:x1=x:=fE.1 c3
     refine⟨.normal,⟨s9 (s7 (tb [(.mp 0),(.mp 1)] 2 2 0 [(5,(.mp 0)),(17,(.mp 0))]) p a x) 2 a x x1 true (.int .i64 x1) (.int .i64 x) (.bool (!eqI x1 x)) (.bool (!eqI x1 x)),[mb L0,mb L1,mb (bG K a x)]⟩,(tb [(.mp 0),(.mp 1)] 2 2 0 [(5,(.mp 0)),(17,(.mp 0))]),
      Tc.code aD [.d false,.opt (some (.int .i64 x1)),.d true,.d true,.d true,.d true,.d false,.ents (bK .i64 (fun y=>(aO y).headD aI) (bG K a x)) (bG K a x).length] [⟨(gK .i64 (fun y=>(aO y).headD aI) K a x)⟩,⟨(nF c3)⟩,⟨(rfl:true=true)⟩,⟨(rfl:true=true)⟩,⟨(rfl:true=true)⟩,⟨(rfl:true=true)⟩,⟨(eW .i64 (fun y=>(aO y).headD aI) e2)⟩,⟨c0⟩] (by kernel_rfl),.inl rfl,bQ (by kernel_rfl) (by kernel_rfl),bG K a x,rfl,rfl,I.put hx (.inr (by rw[e2,e3])) hS⟩
   · right
     have hne:x1≠x:=fun h=>c3 (fE.2 h)
     replace c3:=eqf c3
     refine⟨.bool false,[mb L0,mb L1,mb K],Tc.code aD [.d false,.opt (some (.int .i64 x1)),.d true,.d true,.d true,.d true,.d true] [⟨(nT c3)⟩,⟨(rfl:true=true)⟩,⟨(rfl:true=true)⟩,⟨(rfl:true=true)⟩,⟨(rfl:true=true)⟩,⟨(eW .i64 (fun y=>(aO y).headD aI) e2)⟩,⟨c0⟩] (by kernel_rfl),rfl,by simp [Blk.refs,mb],by simp,rfl,rfl,I.no (fun e he=>?_) hx ?_ e2 hne⟩
     · rcases he with h | ⟨m,_,h⟩
       · simp only[List.mem_append] at h ⊢;cases h
       · have:=List.mem_of_getElem? h;(try simp only[List.mem_append]);exact ti
     · have:=List.mem_of_getElem? hp;(try simp only[List.mem_append]);exact ti
 · left
   have c1':=eqf c1
   refine⟨.normal,⟨s9 (s7 (tb [(.mp 0),(.mp 1)] 2 2 0 [(5,(.mp 0)),(17,(.mp 0))]) p a x) 2 a x 0 false aI aI aI (.bool false),[mb L0,mb L1,mb (bG K a x)]⟩,(tb [(.mp 0),(.mp 1)] 2 2 0 [(5,(.mp 0)),(17,(.mp 0))]),
    Tc.code aD [.d false,.opt none,.d false,.d false,.d false,.d false,.d false,.ents (bK .i64 (fun y=>(aO y).headD aI) (bG K a x)) (bG K a x).length] [⟨(gK .i64 (fun y=>(aO y).headD aI) K a x)⟩,⟨(rfl:false=false)⟩,⟨(rfl:false=false)⟩,⟨(rfl:false=false)⟩,⟨(rfl:false=false)⟩,⟨(rfl:false=false)⟩,⟨(gP .i64 (fun y=>(aO y).headD aI) c1')⟩,⟨c0⟩] (by kernel_rfl),.inl rfl,bQ (by kernel_rfl) (by kernel_rfl),bG K a x,rfl,rfl,I.put hx (.inl (qZ c1')) hS⟩
def aHN (L0:List (Int × Int)) (L1:List (Int × Int)) (D:List Nat) (t:List AV) (h:List Blk):Prop:=∃K,t=(tb [(.mp 0),(.mp 1)] 2 2 1 [(5,(.mp 1)),(17,(.mp 1))])∧h=[mb L0,mb L1,mb K]∧Inv K (fun e=>e∈(L0)∨∃n∈D,L1[n]? = some e)
theorem aK1 (D:List Nat) (t:List AV) (h:List Blk) (p:Addr) (k v:AV) (n:Nat) (hj:aHN L0 L1 D t h) (hm:(k,v,n)∈bK .i64 (fun y=>(aO y).headD aI) L1) (hD:D.contains n=false) :
 ∃ st7, iT (cT Try.prog) nR qM (⟨some 21, .entry (.tmp 18), 0, "model.go:31", #[], none⟩ :: aL3) aL3 ⟨((((t.set 18 (.raw p)).set 19 (.tup [.bool true, k, v])).set 20 (.bool true)).set 21 (.tup [k, v])), h⟩ = some st7 ∧
  ((∃y s' t',Tc Try.prog ⟨Try.f18,st7.h,false⟩ uB st7 (.st y s')∧(y = .normal∨y = .exit 3)∧rX (t'.set 18 (.raw p)) s'.t∧aHN L0 L1 (n::D) t' s'.h) ∨
   (∃v h',Tc Try.prog ⟨Try.f18,st7.h,false⟩ uB st7 (.fin v h')∧v.refs=[]∧(∀b∈h'.take 2,b.refs=[])∧2≤h'.length∧(v = .bool false∧h'.take 2=[mb L0,mb L1]∧dL (L0++L1)=false))):=by
 obtain⟨K,rfl,rfl,I⟩:=hj
 obtain⟨⟨a,x⟩,hp,rfl,rfl⟩:=vA hm
 have hS:∀e,(e∈(L0)∨∃m∈n::D,L1[m]? = some e)↔(e∈(L0)∨∃m∈D,L1[m]? = some e)∨e=(a,x):=fun e=>by
  constructor
  · rintro (h | ⟨m,hm,h⟩)
    · exact .inl (.inl h)
    · rcases List.mem_cons.1 hm with rfl | hm
      · rw[hp] at h;cases h;exact .inr rfl
      · exact .inl (.inr ⟨m,hm,h⟩)
  · rintro ((h | ⟨m,hm,h⟩) | rfl)
    · exact .inl h
    · exact .inr ⟨m,List.mem_cons_of_mem _ hm,h⟩
    · exact .inr ⟨n,List.mem_cons_self,hp⟩
 refine⟨⟨(s7 (tb [(.mp 0),(.mp 1)] 2 2 1 [(5,(.mp 1)),(17,(.mp 1))]) p a x),[mb L0,mb L1,mb K]⟩,by kernel_rfl,?_⟩
 by_cases c0:eqI x 0=true
 · left
   refine⟨.exit 3,⟨s8 (s7 (tb [(.mp 0),(.mp 1)] 2 2 1 [(5,(.mp 1)),(17,(.mp 1))]) p a x) x,[mb L0,mb L1,mb K]⟩,(tb [(.mp 0),(.mp 1)] 2 2 1 [(5,(.mp 1)),(17,(.mp 1))]),Tc.code aD [.d true] [⟨c0⟩] (by kernel_rfl),.inr rfl,bQ (by kernel_rfl) (by kernel_rfl),K,rfl,rfl,I.skip (fE.1 c0) hS⟩
 replace c0:=eqf c0
 have hx:x≠0:=fun h=>by rw[fE.2 h] at c0;cases c0
 by_cases c1:jA K a=true
 · obtain⟨x1,e2⟩:=yV c1
   by_cases c3:eqI x1 x=true
   · left
     have e3:x1=x:=fE.1 c3
     refine⟨.normal,⟨s9 (s7 (tb [(.mp 0),(.mp 1)] 2 2 1 [(5,(.mp 1)),(17,(.mp 1))]) p a x) 2 a x x1 true (.int .i64 x1) (.int .i64 x) (.bool (!eqI x1 x)) (.bool (!eqI x1 x)),[mb L0,mb L1,mb (bG K a x)]⟩,(tb [(.mp 0),(.mp 1)] 2 2 1 [(5,(.mp 1)),(17,(.mp 1))]),
      Tc.code aD [.d false,.opt (some (.int .i64 x1)),.d true,.d true,.d true,.d true,.d false,.ents (bK .i64 (fun y=>(aO y).headD aI) (bG K a x)) (bG K a x).length] [⟨(gK .i64 (fun y=>(aO y).headD aI) K a x)⟩,⟨(nF c3)⟩,⟨(rfl:true=true)⟩,⟨(rfl:true=true)⟩,⟨(rfl:true=true)⟩,⟨(rfl:true=true)⟩,⟨(eW .i64 (fun y=>(aO y).headD aI) e2)⟩,⟨c0⟩] (by kernel_rfl),.inl rfl,bQ (by kernel_rfl) (by kernel_rfl),bG K a x,rfl,rfl,I.put hx (.inr (by rw[e2,e3])) hS⟩
   · right
     have hne:x1≠x:=fun h=>c3 (fE.2 h)
     replace c3:=eqf c3
     refine⟨.bool false,[mb L0,mb L1,mb K],Tc.code aD [.d false,.opt (some (.int .i64 x1)),.d true,.d true,.d true,.d true,.d true] [⟨(nT c3)⟩,⟨(rfl:true=true)⟩,⟨(rfl:true=true)⟩,⟨(rfl:true=true)⟩,⟨(rfl:true=true)⟩,⟨(eW .i64 (fun y=>(aO y).headD aI) e2)⟩,⟨c0⟩] (by kernel_rfl),rfl,by simp [Blk.refs,mb],by simp,rfl,rfl,I.no (fun e he=>?_) hx ?_ e2 hne⟩
     · rcases he with h | ⟨m,_,h⟩
       · simp only[List.mem_append] at h ⊢;exact ti
       · have:=List.mem_of_getElem? h;(try simp only[List.mem_append]);exact ti
     · have:=List.mem_of_getElem? hp;(try simp only[List.mem_append]);exact ti
 · left
   have c1':=eqf c1
   refine⟨.normal,⟨s9 (s7 (tb [(.mp 0),(.mp 1)] 2 2 1 [(5,(.mp 1)),(17,(.mp 1))]) p a x) 2 a x 0 false aI aI aI (.bool false),[mb L0,mb L1,mb (bG K a x)]⟩,(tb [(.mp 0),(.mp 1)] 2 2 1 [(5,(.mp 1)),(17,(.mp 1))]),
    Tc.code aD [.d false,.opt none,.d false,.d false,.d false,.d false,.d false,.ents (bK .i64 (fun y=>(aO y).headD aI) (bG K a x)) (bG K a x).length] [⟨(gK .i64 (fun y=>(aO y).headD aI) K a x)⟩,⟨(rfl:false=false)⟩,⟨(rfl:false=false)⟩,⟨(rfl:false=false)⟩,⟨(rfl:false=false)⟩,⟨(rfl:false=false)⟩,⟨(gP .i64 (fun y=>(aO y).headD aI) c1')⟩,⟨c0⟩] (by kernel_rfl),.inl rfl,bQ (by kernel_rfl) (by kernel_rfl),bG K a x,rfl,rfl,I.put hx (.inl (qZ c1')) hS⟩
theorem agree_01:Tri Try.prog 18 [.ps [(.mp 0),(.mp 1)]] [mb L0,mb L1] (.bool (dL (L0++L1))) [mb L0,mb L1]:=by
 have hx : Try.prog.funcs[18]? = some Try.f18 ∧ (Try.f18.name == "runtime.NumGoroutine") = false ∧ Try.f18.body.isSome = true := aEU
 refine⟨uT hx.1 hx.2.1 zI,by simp,fun σ π w cargs R hv=>?_⟩
 refine calls_of_wp hx.1 zI ?_
 have N0:Now σ π w (mkT 42 [(0,.ps [(.mp 0),(.mp 1)])]) (([mb L0,mb L1]:List Blk)[·]?) { tmps:=cargs++Array.replicate (Try.f18.ntmps - cargs.size) undef,defers:=[] } w:=⟨rfl,σ,π,aAT hv Try.f18.ntmps,.refl R⟩
 have last:∀(v:AV) a' w',xM Try.prog ⟨Try.f18,[mb L0,mb L1],false⟩ (.fin v [mb L0,mb L1]) σ π w .ret a' w'→bodyPost Try.prog Try.f18 (Ret σ π w v [mb L0,mb L1]) .ret a' w':=fun v a' w' hp=>by
  obtain⟨_,hd,u,hu,_,hr⟩:=hp
  exact⟨hd,u,hu,hr⟩
 have lastQ:∀v a' w',v = .bool (dL (L0++L1))→xM Try.prog ⟨Try.f18,[mb L0,mb L1],false⟩ (.fin v [mb L0,mb L1]) σ π w .ret a' w'→bodyPost Try.prog Try.f18 (Ret σ π w (.bool (dL (L0++L1))) [mb L0,mb L1]) .ret a' w':=fun v a' w' e hp=>by subst e;exact last _ a' w' hp
 generalize bodyPost Try.prog Try.f18 (Ret σ π w (.bool (dL (L0++L1))) [mb L0,mb L1])=Q0 at lastQ ⊢
 refine wp_seq ?_
 refine Tc.go (x:=⟨Try.f18,[mb L0,mb L1],false⟩) (st:=⟨mkT 42 [(0,.ps [(.mp 0),(.mp 1)])],[mb L0,mb L1]⟩) (s:=⟨mkT 42 [(0,.ps [(.mp 0),(.mp 1)]),(2,.bool false)],[mb L0,mb L1]⟩) (Tc.code aD [] [] (by kernel_rfl)) R N0 fun a1 w1 N1=>?_
 refine wp_seq ?_
 refine Tc.go (x:=⟨Try.f18,[mb L0,mb L1],false⟩) (st:=⟨mkT 42 [(0,.ps [(.mp 0),(.mp 1)]),(2,.bool false)],[mb L0,mb L1]⟩) (s:=⟨mkT 42 [(0,.ps [(.mp 0),(.mp 1)]),(2,.bool false),(3,.mp 2),(10,.mp 2)],[mb L0,mb L1,mb ([]:List (Int × Int))]⟩) (Tc.code aD [] [] (by kernel_rfl)) R N1 fun a2 w2 N2=>?_
 replace N2:=N2.less (t':=mkT 42 [(0,.ps [(.mp 0),(.mp 1)]),(2,.bool false),(3,.mp 2)]) (bQ (by kernel_rfl) (by kernel_rfl))
 refine wp_seq (wp_seq ?_)
 refine Tc.go (x:=⟨Try.f18,[mb L0,mb L1],false⟩) (st:=⟨mkT 42 [(0,.ps [(.mp 0),(.mp 1)]),(2,.bool false),(3,.mp 2)],[mb L0,mb L1,mb ([]:List (Int × Int))]⟩) (s:=⟨(tb [(.mp 0),(.mp 1)] 2 2 0 []),[mb L0,mb L1,mb ([]:List (Int × Int))]⟩) (Tc.code aD [] [] (by kernel_rfl)) R N2 fun a3 w3 N3=>?_
 refine wp_block (wp_loop_rounds 3 ?_)
 obtain⟨K0,hK0,I0⟩:∃K:List (Int × Int),K=[]∧Inv K (fun e=>e∈([]:List (Int × Int))):=⟨[],rfl,fun a v h=>(by cases h),fun a v h=>(by cases h)⟩
 rw[← hK0] at N3
 -- round 0
 rw[rounds_succ]
 refine o8 ?_
 refine wp_seq ?_
 refine Tc.go (x:=⟨Try.f18,[mb L0,mb L1],false⟩) (st:=⟨(tb [(.mp 0),(.mp 1)] 2 2 0 []),[mb L0,mb L1,mb K0]⟩) (s:=⟨(tb [(.mp 0),(.mp 1)] 2 2 0 [(14,.bool (ltI 0 2))]),[mb L0,mb L1,mb K0]⟩) (Tc.code aD [] [] (by kernel_rfl)) R N3 fun a4 w4 N4=>?_
 refine wp_seq ?_
 refine Tc.go (x:=⟨Try.f18,[mb L0,mb L1],false⟩) (st:=⟨(tb [(.mp 0),(.mp 1)] 2 2 0 [(14,.bool (ltI 0 2))]),[mb L0,mb L1,mb K0]⟩) (s:=⟨(tb [(.mp 0),(.mp 1)] 2 2 0 [(14,.bool (ltI 0 2))]),[mb L0,mb L1,mb K0]⟩) (Tc.code aD [.d true] [⟨(rfl:ltI 0 2=ltI 0 2)⟩] (by kernel_rfl)) R N4 fun a5 w5 N5=>?_
 replace N5:=N5.less (t':=(tb [(.mp 0),(.mp 1)] 2 2 0 [])) (bQ (by kernel_rfl) (by kernel_rfl))
 refine wp_seq (wp_block (wp_seq ?_))
 refine Tc.go (x:=⟨Try.f18,[mb L0,mb L1],false⟩) (st:=⟨(tb [(.mp 0),(.mp 1)] 2 2 0 []),[mb L0,mb L1,mb K0]⟩) (s:=⟨(tb [(.mp 0),(.mp 1)] 2 2 0 [(5,(.mp 0)),(15,.pp [(.mp 0),(.mp 1)] 0),(16,(.mp 0))]),[mb L0,mb L1,mb K0]⟩) (Tc.code aD [] [] (by kernel_rfl)) R N5 fun a6 w6 N6=>?_
 replace N6:=N6.less (t':=(tb [(.mp 0),(.mp 1)] 2 2 0 [(5,(.mp 0))])) (bQ (by kernel_rfl) (by kernel_rfl))
 refine uV (x:=⟨Try.f18,[mb L0,mb L1],false⟩) (t:=(tb [(.mp 0),(.mp 1)] 2 2 0 [(5,(.mp 0))])) (h:=[mb L0,mb L1,mb K0]) (b:=0) (es:=bK .i64 (fun y=>(aO y).headD aI) L0) (cl:=L0.length) (J:=aHZ L0 L1) (F:=fun v h'=>v = .bool false∧h'=[mb L0,mb L1]∧dL (L0++L1)=false) R aB4 aCG (by decide) (by decide) (by decide) aDE rfl (by decide) ⟨K0,rfl,rfl,?_⟩ ?_ (aKR) N6 ?_ ?_
 · exact⟨fun a v hs=>I0.1 a v (by rcases hs with h | ⟨m,hm,_⟩;exact h;cases hm),fun a v hg=>⟨.inl (I0.2 a v hg).1,(I0.2 a v hg).2⟩⟩
 · rintro D t h ⟨K,rfl,rfl,_⟩;exact⟨⟨rfl,rfl,rfl,rfl⟩,rfl⟩
 rotate_left
 · rintro v h' a' w' ⟨rfl,rfl,hf⟩ hp;exact lastQ _ a' w' (by rw[hf]) hp
 rintro D t h a7 w7 ⟨K1,rfl,rfl,I1⟩ hall N7
 replace N7:=N7.less (t':=(tb [(.mp 0),(.mp 1)] 2 2 0 [])) (bQ (by kernel_rfl) (by kernel_rfl))
 replace I1:Inv K1 (fun e=>e∈(L0)):=by
  refine⟨fun a v hs=>I1.1 a v ?_,fun a v hg=>⟨?_,(I1.2 a v hg).2⟩⟩
  · have h:=hs
    · obtain⟨m,hm⟩:=List.mem_iff_getElem?.1 h
      have:=hall _ (aB3 (kd:=.i64) (ev:=fun y=>(aO y).headD aI) hm)
      exact .inr ⟨m,by simpa using this,hm⟩
  · rcases (I1.2 a v hg).1 with h | ⟨m,_,hm⟩
    · cases h
    · have:=List.mem_of_getElem? hm;(try simp only[List.mem_append]);exact ti
 show Code.wp _ _ _ _ _
 refine Tc.go (x:=⟨Try.f18,[mb L0,mb L1],false⟩) (st:=⟨(tb [(.mp 0),(.mp 1)] 2 2 0 []),[mb L0,mb L1,mb K1]⟩) (s:=⟨(tb [(.mp 0),(.mp 1)] 2 2 1 [(41,.int .i64 1)]),[mb L0,mb L1,mb K1]⟩) (Tc.code aD [] [] (by kernel_rfl)) R N7 fun a8 w8 N8=>?_
 replace N8:=N8.less (t':=(tb [(.mp 0),(.mp 1)] 2 2 1 [])) (bQ (by kernel_rfl) (by kernel_rfl))
 -- round 1
 rw[rounds_succ]
 refine o8 ?_
 refine wp_seq ?_
 refine Tc.go (x:=⟨Try.f18,[mb L0,mb L1],false⟩) (st:=⟨(tb [(.mp 0),(.mp 1)] 2 2 1 []),[mb L0,mb L1,mb K1]⟩) (s:=⟨(tb [(.mp 0),(.mp 1)] 2 2 1 [(14,.bool (ltI 1 2))]),[mb L0,mb L1,mb K1]⟩) (Tc.code aD [] [] (by kernel_rfl)) R N8 fun a9 w9 N9=>?_
 refine wp_seq ?_
 refine Tc.go (x:=⟨Try.f18,[mb L0,mb L1],false⟩) (st:=⟨(tb [(.mp 0),(.mp 1)] 2 2 1 [(14,.bool (ltI 1 2))]),[mb L0,mb L1,mb K1]⟩) (s:=⟨(tb [(.mp 0),(.mp 1)] 2 2 1 [(14,.bool (ltI 1 2))]),[mb L0,mb L1,mb K1]⟩) (Tc.code aD [.d true] [⟨(rfl:ltI 1 2=ltI 1 2)⟩] (by kernel_rfl)) R N9 fun a10 w10 N10=>?_
 replace N10:=N10.less (t':=(tb [(.mp 0),(.mp 1)] 2 2 1 [])) (bQ (by kernel_rfl) (by kernel_rfl))
 refine wp_seq (wp_block (wp_seq ?_))
 refine Tc.go (x:=⟨Try.f18,[mb L0,mb L1],false⟩) (st:=⟨(tb [(.mp 0),(.mp 1)] 2 2 1 []),[mb L0,mb L1,mb K1]⟩) (s:=⟨(tb [(.mp 0),(.mp 1)] 2 2 1 [(5,(.mp 1)),(15,.pp [(.mp 0),(.mp 1)] 1),(16,(.mp 1))]),[mb L0,mb L1,mb K1]⟩) (Tc.code aD [] [] (by kernel_rfl)) R N10 fun a11 w11 N11=>?_
 replace N11:=N11.less (t':=(tb [(.mp 0),(.mp 1)] 2 2 1 [(5,(.mp 1))])) (bQ (by kernel_rfl) (by kernel_rfl))
 refine uV (x:=⟨Try.f18,[mb L0,mb L1],false⟩) (t:=(tb [(.mp 0),(.mp 1)] 2 2 1 [(5,(.mp 1))])) (h:=[mb L0,mb L1,mb K1]) (b:=1) (es:=bK .i64 (fun y=>(aO y).headD aI) L1) (cl:=L1.length) (J:=aHN L0 L1) (F:=fun v h'=>v = .bool false∧h'=[mb L0,mb L1]∧dL (L0++L1)=false) R aB4 aCG (by decide) (by decide) (by decide) aDE rfl (by decide) ⟨K1,rfl,rfl,?_⟩ ?_ (aK1) N11 ?_ ?_
 · exact⟨fun a v hs=>I1.1 a v (by rcases hs with h | ⟨m,hm,_⟩;exact h;cases hm),fun a v hg=>⟨.inl (I1.2 a v hg).1,(I1.2 a v hg).2⟩⟩
 · rintro D t h ⟨K,rfl,rfl,_⟩;exact⟨⟨rfl,rfl,rfl,rfl⟩,rfl⟩
 rotate_left
 · rintro v h' a' w' ⟨rfl,rfl,hf⟩ hp;exact lastQ _ a' w' (by rw[hf]) hp
 rintro D t h a12 w12 ⟨K2,rfl,rfl,I2⟩ hall N12
 replace N12:=N12.less (t':=(tb [(.mp 0),(.mp 1)] 2 2 1 [])) (bQ (by kernel_rfl) (by kernel_rfl))
 replace I2:Inv K2 (fun e=>e∈(L0++L1)):=by
  refine⟨fun a v hs=>I2.1 a v ?_,fun a v hg=>⟨?_,(I2.2 a v hg).2⟩⟩
  · rcases List.mem_append.1 hs with h | h
    · exact .inl h
    · obtain⟨m,hm⟩:=List.mem_iff_getElem?.1 h
      have:=hall _ (aB3 (kd:=.i64) (ev:=fun y=>(aO y).headD aI) hm)
      exact .inr ⟨m,by simpa using this,hm⟩
  · rcases (I2.2 a v hg).1 with h | ⟨m,_,hm⟩
    · (try simp only[List.mem_append] at h ⊢);exact ti
    · have:=List.mem_of_getElem? hm;(try simp only[List.mem_append]);exact ti
 show Code.wp _ _ _ _ _
 refine Tc.go (x:=⟨Try.f18,[mb L0,mb L1],false⟩) (st:=⟨(tb [(.mp 0),(.mp 1)] 2 2 1 []),[mb L0,mb L1,mb K2]⟩) (s:=⟨(tb [(.mp 0),(.mp 1)] 2 2 2 [(41,.int .i64 2)]),[mb L0,mb L1,mb K2]⟩) (Tc.code aD [] [] (by kernel_rfl)) R N12 fun a13 w13 N13=>?_
 replace N13:=N13.less (t':=(tb [(.mp 0),(.mp 1)] 2 2 2 [])) (bQ (by kernel_rfl) (by kernel_rfl))
 -- the end
 rw[rounds_succ]
 refine o8 ?_
 refine wp_seq ?_
 refine Tc.go (x:=⟨Try.f18,[mb L0,mb L1],false⟩) (st:=⟨(tb [(.mp 0),(.mp 1)] 2 2 2 []),[mb L0,mb L1,mb K2]⟩) (s:=⟨(tb [(.mp 0),(.mp 1)] 2 2 2 [(14,.bool (ltI 2 2))]),[mb L0,mb L1,mb K2]⟩) (Tc.code aD [] [] (by kernel_rfl)) R N13 fun a14 w14 N14=>?_
 have hc:Tc Try.prog ⟨Try.f18,[mb L0,mb L1],false⟩ (.cond (.tmp 14) .skip (.exit 0)) ⟨(tb [(.mp 0),(.mp 1)] 2 2 2 [(14,.bool (ltI 2 2))]),[mb L0,mb L1,mb K2]⟩ (.st (.exit 0) ⟨(tb [(.mp 0),(.mp 1)] 2 2 2 [(14,.bool (ltI 2 2))]),[mb L0,mb L1,mb K2]⟩):=Tc.code aD [.d false] [⟨(rfl:ltI 2 2=ltI 2 2)⟩] (by kernel_rfl)
 refine wp_seq (hc σ π w _ _ _ R N14 fun e a' w' hp=>?_)
 obtain⟨rfl,N15⟩:=hp
 replace N15:=N15.less (t':=(tb [(.mp 0),(.mp 1)] 2 2 2 [])) (bQ (by kernel_rfl) (by kernel_rfl))
 show Code.wp _ _ _ _ _
 have hE:Tc Try.prog ⟨Try.f18,[mb L0,mb L1],false⟩ aEnd ⟨(tb [(.mp 0),(.mp 1)] 2 2 2 []),[mb L0,mb L1,mb K2]⟩ (.fin (.bool true) [mb L0,mb L1]):=Tc.code aD [] [] (by kernel_rfl)
 refine hE σ π w _ _ _ R N15 fun e a2 w2 hp=>?_
 have he:=hp.1
 subst he
 exact lastQ _ a2 w2 (by rw[I2.yes (fun e he=>he)]) hp
end
section
variable {X:List (List (Int × Int))}
def tl (X:List (List (Int × Int))) (n i:Int) (m:List (Nat × AV)):List AV:=mkT 42 ((0,.sl 1 (X.map aH))::(2,.bool false)::(3,.mp 0)::(11,.sl 1 (X.map aH))::(12,.int .i64 n)::(13,.int .i64 i)::m)
def fL (L:List (Int × Int)):AV:=uL (bK .i64 (fun y=>(aO y).headD aI) L) L.length
def Jl (X:List (List (Int × Int))) (i:Nat) (L:List (Int × Int)) (D:List Nat) (t:List AV) (h:List Blk):Prop:=∃K,t=(tl X X.length i [(5,fL L),(17,fL L)])∧h=[mb K]∧Inv K (fun e=>e∈(X.take i).flatten∨∃n∈D,L[n]? = some e)
theorem step_l {i:Nat} {L:List (Int × Int)} (hi:X[i]? = some L) (D:List Nat) (t:List AV) (h:List Blk) (p:Addr) (k v:AV) (n:Nat) (hj:Jl X i L D t h) (hm:(k,v,n)∈bK .i64 (fun y=>(aO y).headD aI) L) (hD:D.contains n=false) :
 ∃ st7, iT (cT Try.prog) nR qM (⟨some 21, .entry (.tmp 18), 0, "model.go:31", #[], none⟩ :: aL3) aL3 ⟨((((t.set 18 (.raw p)).set 19 (.tup [.bool true, k, v])).set 20 (.bool true)).set 21 (.tup [k, v])), h⟩ = some st7 ∧
  ((∃y s' t',Tc Try.prog ⟨Try.f18,st7.h,false⟩ uB st7 (.st y s')∧(y = .normal∨y = .exit 3)∧rX (t'.set 18 (.raw p)) s'.t∧Jl X i L (n::D) t' s'.h) ∨
   (∃v h',Tc Try.prog ⟨Try.f18,st7.h,false⟩ uB st7 (.fin v h')∧v.refs=[]∧(∀b∈h'.take 0,b.refs=[])∧0≤h'.length∧(v = .bool false∧h'.take 0=[]∧dL X.flatten=false))):=by
 obtain⟨K,rfl,rfl,I⟩:=hj
 obtain⟨⟨a,x⟩,hp,rfl,rfl⟩:=vA hm
 have hS:∀e,(e∈((X.take i).flatten)∨∃m∈n::D,L[m]? = some e)↔(e∈((X.take i).flatten)∨∃m∈D,L[m]? = some e)∨e=(a,x):=fun e=>by
  constructor
  · rintro (h | ⟨m,hm,h⟩)
    · exact .inl (.inl h)
    · rcases List.mem_cons.1 hm with rfl | hm
      · rw[hp] at h;cases h;exact .inr rfl
      · exact .inl (.inr ⟨m,hm,h⟩)
  · rintro ((h | ⟨m,hm,h⟩) | rfl)
    · exact .inl h
    · exact .inr ⟨m,List.mem_cons_of_mem _ hm,h⟩
    · exact .inr ⟨n,List.mem_cons_self,hp⟩
 refine⟨⟨(s7 (tl X X.length i [(5,fL L),(17,fL L)]) p a x),[mb K]⟩,by kernel_rfl,?_⟩
 by_cases c0:eqI x 0=true
 · left
   refine⟨.exit 3,⟨s8 (s7 (tl X X.length i [(5,fL L),(17,fL L)]) p a x) x,[mb K]⟩,(tl X X.length i [(5,fL L),(17,fL L)]),Tc.code aD [.d true] [⟨c0⟩] (by kernel_rfl),.inr rfl,bQ (by kernel_rfl) (by kernel_rfl),K,rfl,rfl,I.skip (fE.1 c0) hS⟩
 replace c0:=eqf c0
 have hx:x≠0:=fun h=>by rw[fE.2 h] at c0;cases c0
 by_cases c1:jA K a=true
 · obtain⟨x1,e2⟩:=yV c1
   by_cases c3:eqI x1 x=true
   · left
     have e3:x1=x:=fE.1 c3
     refine⟨.normal,⟨s9 (s7 (tl X X.length i [(5,fL L),(17,fL L)]) p a x) 0 a x x1 true (.int .i64 x1) (.int .i64 x) (.bool (!eqI x1 x)) (.bool (!eqI x1 x)),[mb (bG K a x)]⟩,(tl X X.length i [(5,fL L),(17,fL L)]),
      Tc.code aD [.d false,.opt (some (.int .i64 x1)),.d true,.d true,.d true,.d true,.d false,.ents (bK .i64 (fun y=>(aO y).headD aI) (bG K a x)) (bG K a x).length] [⟨(gK .i64 (fun y=>(aO y).headD aI) K a x)⟩,⟨(nF c3)⟩,⟨(rfl:true=true)⟩,⟨(rfl:true=true)⟩,⟨(rfl:true=true)⟩,⟨(rfl:true=true)⟩,⟨(eW .i64 (fun y=>(aO y).headD aI) e2)⟩,⟨c0⟩] (by kernel_rfl),.inl rfl,bQ (by kernel_rfl) (by kernel_rfl),bG K a x,rfl,rfl,I.put hx (.inr (by rw[e2,e3])) hS⟩
   · right
     have hne:x1≠x:=fun h=>c3 (fE.2 h)
     replace c3:=eqf c3
     refine⟨.bool false,[mb K],Tc.code aD [.d false,.opt (some (.int .i64 x1)),.d true,.d true,.d true,.d true,.d true] [⟨(nT c3)⟩,⟨(rfl:true=true)⟩,⟨(rfl:true=true)⟩,⟨(rfl:true=true)⟩,⟨(rfl:true=true)⟩,⟨(eW .i64 (fun y=>(aO y).headD aI) e2)⟩,⟨c0⟩] (by kernel_rfl),rfl,by simp,by simp,rfl,rfl,I.no (fun e he=>?_) hx ?_ e2 hne⟩
     · rcases he with h | ⟨m,_,h⟩
       · obtain⟨l,h1,h2⟩:=List.mem_flatten.1 h
         exact List.mem_flatten.2 ⟨l,List.mem_of_mem_take h1,h2⟩
       · exact List.mem_flatten.2 ⟨L,List.mem_of_getElem? hi,List.mem_of_getElem? h⟩
     · exact List.mem_flatten.2 ⟨L,List.mem_of_getElem? hi,List.mem_of_getElem? hp⟩
 · left
   have c1':=eqf c1
   refine⟨.normal,⟨s9 (s7 (tl X X.length i [(5,fL L),(17,fL L)]) p a x) 0 a x 0 false aI aI aI (.bool false),[mb (bG K a x)]⟩,(tl X X.length i [(5,fL L),(17,fL L)]),
    Tc.code aD [.d false,.opt none,.d false,.d false,.d false,.d false,.d false,.ents (bK .i64 (fun y=>(aO y).headD aI) (bG K a x)) (bG K a x).length] [⟨(gK .i64 (fun y=>(aO y).headD aI) K a x)⟩,⟨(rfl:false=false)⟩,⟨(rfl:false=false)⟩,⟨(rfl:false=false)⟩,⟨(rfl:false=false)⟩,⟨(rfl:false=false)⟩,⟨(gP .i64 (fun y=>(aO y).headD aI) c1')⟩,⟨c0⟩] (by kernel_rfl),.inl rfl,bQ (by kernel_rfl) (by kernel_rfl),bG K a x,rfl,rfl,I.put hx (.inl (qZ c1')) hS⟩
theorem rounds_l (hX:X.length≤100000) {σ:Sig} {π:bE} {w:World} (R:Rel σ π w (([]:List Blk)[·]?)) {Q0:Exit→Act→World→Prop}
 (last:∀(v:AV) a' w',v = .bool (dL X.flatten)→xM Try.prog ⟨Try.f18,[],false⟩ (.fin v []) σ π w .ret a' w'→Q0 .ret a' w')
 (hend:∀K a' w',Inv K (fun e=>e∈X.flatten)→Now σ π w (tl X X.length X.length []) ([mb K][·]?) a' w'→Q0 (.exit 0) a' w') :
 ∀(d i:Nat) (K:List (Int × Int)) (a:Act) (w1:World),X.length - i=d→i≤X.length→Inv K (fun e=>e∈(X.take i).flatten)→Now σ π w (tl X X.length i []) ([mb K][·]?) a w1→Code.rounds Try.prog aB0 Q0 (d+1) a w1:=by
 intro d
 induction d with
 | zero =>
  intro i K a w1 hd hi I N
  obtain rfl:i=X.length:=by omega
  rw[List.take_length] at I
  rw[rounds_succ]
  refine o8 ?_
  refine wp_seq ?_
  refine Tc.go (x:=⟨Try.f18,[],false⟩) (st:=⟨(tl X X.length X.length []),[mb K]⟩) (s:=⟨(tl X X.length X.length [(14,.bool (ltI X.length X.length))]),[mb K]⟩) (Tc.code aD [] [] (by kernel_rfl)) R N fun a4 w4 N4=>?_
  have cf:ltI X.length X.length=false:=eqf fun h=>by rw[aEC] at h;omega
  have hc:Tc Try.prog ⟨Try.f18,[],false⟩ (.cond (.tmp 14) .skip (.exit 0)) ⟨(tl X X.length X.length [(14,.bool (ltI X.length X.length))]),[mb K]⟩ (.st (.exit 0) ⟨(tl X X.length X.length [(14,.bool (ltI X.length X.length))]),[mb K]⟩):=Tc.code aD [.d false] [⟨cf⟩] (by kernel_rfl)
  refine wp_seq (hc σ π w _ _ _ R N4 fun e a' w' hp=>?_)
  obtain⟨rfl,N20⟩:=hp
  replace N20:=N20.less (t':=(tl X X.length X.length [])) (bQ (by kernel_rfl) (by kernel_rfl))
  exact hend K _ _ I N20
 | succ d ih =>
  intro i K a w1 hd hi I N
  have hlt:i<X.length:=by omega
  have hg:X[i]? = some X[i]:=List.getElem?_eq_getElem hlt
  have hin:inI (i:Int) X.length=true:=aI4.2 ⟨by omega,by omega⟩
  have hgt:X[tN (i:Int)]? = some X[i]:=by rw[tN_nat];exact hg
  have ct:ltI (i:Int) X.length=true:=aEC.2 (by omega)
  have hnx:aN .i64 (i:Int) 1=((i+1:Nat):Int):=by rw[aHY (by omega)];omega
  have htk:(X.take (i+1)).flatten=(X.take i).flatten++X[i]:=by rw[List.take_add_one,hg,List.flatten_append];simp
  have hstep:=step_l hg
  generalize X[i]=L at hg hgt htk hstep
  rw[rounds_succ]
  refine o8 ?_
  refine wp_seq ?_
  refine Tc.go (x:=⟨Try.f18,[],false⟩) (st:=⟨(tl X X.length i []),[mb K]⟩) (s:=⟨(tl X X.length i [(14,.bool (ltI i X.length))]),[mb K]⟩) (Tc.code aD [] [] (by kernel_rfl)) R N fun a4 w4 N4=>?_
  refine wp_seq ?_
  refine Tc.go (x:=⟨Try.f18,[],false⟩) (st:=⟨(tl X X.length i [(14,.bool (ltI i X.length))]),[mb K]⟩) (s:=⟨(tl X X.length i [(14,.bool (ltI i X.length))]),[mb K]⟩) (Tc.code aD [.d true] [⟨ct⟩] (by kernel_rfl)) R N4 fun a5 w5 N5=>?_
  replace N5:=N5.less (t':=(tl X X.length i [])) (bQ (by kernel_rfl) (by kernel_rfl))
  refine wp_seq (wp_block (wp_seq ?_))
  refine Tc.go (x:=⟨Try.f18,[],false⟩) (st:=⟨(tl X X.length i []),[mb K]⟩) (s:=⟨(tl X X.length i [(5,fL L),(15,.ip 1 (X.map aH) (tN (i:Int)) 0),(16,fL L)]),[mb K]⟩) (Tc.code aD [.n X.length,.row [fL L]] [⟨(bA (e:=aH) hgt 1 0 1 (by decide))⟩,⟨hin⟩,⟨(aL aH X)⟩] (by kernel_rfl)) R N5 fun a6 w6 N6=>?_
  replace N6:=N6.less (t':=(tl X X.length i [(5,fL L)])) (bQ (by kernel_rfl) (by kernel_rfl))
  refine range_fm (x:=⟨Try.f18,[],false⟩) (t:=(tl X X.length i [(5,fL L)])) (h:=[mb K]) (es:=bK .i64 (fun y=>(aO y).headD aI) L) (cl:=L.length) (J:=Jl X i L) (F:=fun v h'=>v = .bool false∧h'=[]∧dL X.flatten=false) R aB4 aCG (by decide) (by decide) (by decide) aDE rfl (Nat.lt_of_lt_of_eq (by decide:17<42) (by kernel_rfl)) ⟨K,rfl,rfl,?_⟩ ?_ hstep N6 ?_ ?_
  · exact⟨fun a v hs=>I.1 a v (by rcases hs with h | ⟨m,hm,_⟩;exact h;cases hm),fun a v hg=>⟨.inl (I.2 a v hg).1,(I.2 a v hg).2⟩⟩
  · rintro D t h ⟨K,rfl,rfl,_⟩;exact⟨rfl,rfl,rfl,rfl⟩
  rotate_left
  · rintro v h' a' w' ⟨rfl,rfl,hf⟩ hp;exact last _ a' w' (by rw[hf]) hp
  rintro D t h a7 w7 ⟨K1,rfl,rfl,I1⟩ hall N7
  replace N7:=N7.less (t':=(tl X X.length i [])) (bQ (by kernel_rfl) (by kernel_rfl))
  replace I1:Inv K1 (fun e=>e∈(X.take (i+1)).flatten):=by
   rw[htk]
   refine⟨fun a v hs=>I1.1 a v ?_,fun a v hg=>⟨?_,(I1.2 a v hg).2⟩⟩
   · rcases List.mem_append.1 hs with h | h
     · exact .inl h
     · obtain⟨m,hm⟩:=List.mem_iff_getElem?.1 h
       have:=hall _ (aB3 (kd:=.i64) (ev:=fun y=>(aO y).headD aI) hm)
       exact .inr ⟨m,by simpa using this,hm⟩
   · rcases (I1.2 a v hg).1 with h | ⟨m,_,hm⟩
     · exact List.mem_append.2 (.inl h)
     · exact List.mem_append.2 (.inr (List.mem_of_getElem? hm))
  show Code.wp _ _ _ _ _
  refine Tc.go (x:=⟨Try.f18,[],false⟩) (st:=⟨(tl X X.length i []),[mb K1]⟩) (s:=⟨(tl X X.length (aN .i64 i 1) [(41,.int .i64 (aN .i64 i 1))]),[mb K1]⟩) (Tc.code aD [] [] (by kernel_rfl)) R N7 fun a8 w8 N8=>?_
  rw[hnx] at N8
  replace N8:=N8.less (t':=(tl X X.length ((i+1:Nat):Int) [])) (bQ (by kernel_rfl) (by kernel_rfl))
  exact ih (i+1) K1 a8 w8 (by omega) (by omega) I1 N8
theorem aHI {r:Bool} (hr:wB X=some r):Tri Try.prog 18 [.sl 1 (X.map aH)] [] (.bool r) []:=by
 obtain⟨hX,rfl⟩:X.length≤100000∧dL X.flatten=r:=by
  unfold wB at hr
  split at hr
  · exact⟨by assumption,Option.some.inj hr⟩
  · cases hr
 have hx : Try.prog.funcs[18]? = some Try.f18 ∧ (Try.f18.name == "runtime.NumGoroutine") = false ∧ Try.f18.body.isSome = true := aEU
 refine⟨uT hx.1 hx.2.1 zI,by simp,fun σ π w cargs R hv=>?_⟩
 refine calls_of_wp hx.1 zI ?_
 have N0:Now σ π w (mkT 42 [(0,.sl 1 (X.map aH))]) (([]:List Blk)[·]?) { tmps:=cargs++Array.replicate (Try.f18.ntmps - cargs.size) undef,defers:=[] } w:=⟨rfl,σ,π,aAT hv Try.f18.ntmps,.refl R⟩
 have last:∀(v:AV) a' w',xM Try.prog ⟨Try.f18,[],false⟩ (.fin v []) σ π w .ret a' w'→bodyPost Try.prog Try.f18 (Ret σ π w v []) .ret a' w':=fun v a' w' hp=>by
  obtain⟨_,hd,u,hu,_,hr⟩:=hp
  exact⟨hd,u,hu,hr⟩
 have lastQ:∀v a' w',v = .bool (dL X.flatten)→xM Try.prog ⟨Try.f18,[],false⟩ (.fin v []) σ π w .ret a' w'→bodyPost Try.prog Try.f18 (Ret σ π w (.bool (dL X.flatten)) []) .ret a' w':=fun v a' w' e hp=>by subst e;exact last _ a' w' hp
 generalize bodyPost Try.prog Try.f18 (Ret σ π w (.bool (dL X.flatten)) [])=Q0 at lastQ ⊢
 refine wp_seq ?_
 refine Tc.go (x:=⟨Try.f18,[],false⟩) (st:=⟨mkT 42 [(0,.sl 1 (X.map aH))],[]⟩) (s:=⟨mkT 42 [(0,.sl 1 (X.map aH)),(2,.bool false)],[]⟩) (Tc.code aD [] [] (by kernel_rfl)) R N0 fun a1 w1 N1=>?_
 refine wp_seq ?_
 refine Tc.go (x:=⟨Try.f18,[],false⟩) (st:=⟨mkT 42 [(0,.sl 1 (X.map aH)),(2,.bool false)],[]⟩) (s:=⟨mkT 42 [(0,.sl 1 (X.map aH)),(2,.bool false),(3,.mp 0),(10,.mp 0)],[mb ([]:List (Int × Int))]⟩) (Tc.code aD [] [] (by kernel_rfl)) R N1 fun a2 w2 N2=>?_
 replace N2:=N2.less (t':=mkT 42 [(0,.sl 1 (X.map aH)),(2,.bool false),(3,.mp 0)]) (bQ (by kernel_rfl) (by kernel_rfl))
 refine wp_seq (wp_seq ?_)
 refine Tc.go (x:=⟨Try.f18,[],false⟩) (st:=⟨mkT 42 [(0,.sl 1 (X.map aH)),(2,.bool false),(3,.mp 0)],[mb ([]:List (Int × Int))]⟩) (s:=⟨(tl X X.length 0 []),[mb ([]:List (Int × Int))]⟩) (Tc.code aD [.n X.length] [⟨(aL aH X)⟩] (by kernel_rfl)) R N2 fun a3 w3 N3=>?_
 refine wp_block (wp_loop_rounds (X.length+1) ?_)
 refine rounds_l hX R (Q0:=Exit.inBlock 0 (Exit.then (Code.wp Try.prog aEnd Q0) Q0)) (fun v a' w' e hp=>lastQ v a' w' e hp) (fun K a' w' I N=>?_) X.length 0 [] a3 w3 (by omega) (by omega) ⟨fun a v h=>(by simp at h),fun a v h=>(by cases h)⟩ N3
 show Exit.inBlock 0 _ (.exit 0) a' w'
 simp only[Exit.inBlock,if_true]
 show Code.wp _ _ _ _ _
 have hE:Tc Try.prog ⟨Try.f18,[],false⟩ aEnd ⟨(tl X X.length X.length []),[mb K]⟩ (.fin (.bool true) []):=Tc.code aD [] [] (by kernel_rfl)
 refine hE σ π w _ _ _ R N fun e a2 w2 hp=>?_
 have he:=hp.1
 subst he
 exact lastQ _ a2 w2 (by rw[I.yes (fun e he=>he)]) hp
end

end Go.Ws
