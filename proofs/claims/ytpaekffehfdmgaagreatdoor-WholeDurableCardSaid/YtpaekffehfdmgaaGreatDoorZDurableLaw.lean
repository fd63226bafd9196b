/-
  WholeDurable, plainly.
  Conditions: none.
-/
import Derived.Test.YtpaekffehfdmgaaGreatDoorZDurable
import Derived.Test.YtpaekffehfdmgaaGreatDoorZWf
set_option linter.unusedVariables false
set_option linter.unusedSimpArgs false
namespace Go.Ws.L12
open Go.Ws
set_option linter.unusedVariables false
set_option linter.unusedSimpArgs false
set_option maxHeartbeats 1000000
theorem aI7:j8=some true:=zF.le 80 true (by kernel_rfl)
theorem aKW {a b:Int} (h:0≤a∧a<65536∧0<b):bB .u16 a b=a / b:=by
 show IntKind.u16.wrap (a.tdiv b)=_
 rw[Int.tdiv_eq_ediv_of_nonneg h.1]
 have h1:a / b≤a:=Int.ediv_le_self b h.1
 have h2:0≤a / b:=Int.ediv_nonneg h.1 (by omega)
 exact wrap16 (by omega)
def Mp (f:Int→Sd):List (Int × Sd):=[(0,f 0),(1,f 1),(2,f 2)]
theorem aKS (f:Int→Sd):(Mp f).length=3:=rfl
theorem aC2 {i:Int} (h:0≤i∧i<3):i=0∨i=1∨i=2:=by omega
theorem aKD (f:Int→Sd) {i:Int} (h:0≤i∧i<3):sO (Mp f) i=some (f i):=by
 rcases aC2 h with rfl | rfl | rfl<;>rfl
theorem mp_has (f:Int→Sd) {i:Int} (h:0≤i∧i<3):mHas (Mp f) i=true:=by
 unfold mHas
 rw[aKD f h];rfl
theorem mp_put (f:Int→Sd) {i:Int} (h:0≤i∧i<3) (y:Sd):qV (Mp f) i y=Mp (upd f i y):=by
 rcases aC2 h with rfl | rfl | rfl<;>simp [Mp,qV,upd]
theorem get_ok (f:Int→Sd) {i:Int} (h:0≤i∧i<3):cB i (Mp f) (Mp f)=some ((f i).1,(f i).2.1,(f i).2.2.1,(f i).2.2.2.1,(f i).2.2.2.2.1,(f i).2.2.2.2.2,0):=by
 have h1:=aKD f h
 have h2:=mp_has f h
 unfold cB
 rw[if_pos h2,bnd h1]
theorem set_ok (f:Int→Sd) {i:Int} (h:0≤i∧i<3) (y:Sd):eY i y.1 y.2.1 y.2.2.1 y.2.2.2.1 y.2.2.2.2.1 y.2.2.2.2.2 8 (Mp f) (Mp f)=some (0,Mp (upd f i y)):=by
 have h1:=aKD f h
 have h2:=mp_has f h
 have h3:gR i 8 (Mp f) (Mp f)=some ((f i).1,(f i).2.1,(f i).2.2.1,(f i).2.2.2.1,(f i).2.2.2.2.1,(f i).2.2.2.2.2,0):=by
  unfold gR
  rw[if_pos (by decide),if_pos h2,bnd h1]
 unfold eY
 rw[bnd h3]
 simp only
 rw[if_neg (by decide),if_neg (by decide)]
 rw[show (y.1,y.2.1,y.2.2.1,y.2.2.2.1,y.2.2.2.2.1,y.2.2.2.2.2)=y from rfl,mp_put f h]
theorem aMU {i:Int} {y:Sd} (hi:0≤i∧i<3) (h:Wf i y):(0≤ep y∧ep y<4294967296)∧(0≤stt y∧stt y<256)∧(0≤tot y∧tot y<256):=by
 cases h<;>(simp only[ep,stt,tot];omega)
theorem yI {i:Int} {y:Sd} (hi:0≤i∧i<3) (h:Wf i y):m7 y=some (if stt y=1 then 1 else 0):=by
 have hb:=aMU hi h
 have hr:=(qU hi h).2
 have h1:=aMY hb.1 hb.2.1 hb.2.2 hr
 have h2:=aNF hb.1 hb.2.1 hb.2.2 hr
 unfold m7
 rw[bnd h1]
 simp only
 rw[if_pos (by decide),bnd h2]
 simp only
 rw[if_pos (by simp [eqI])]
 cases h with
 | idle=>rfl
 | held e he=>rfl
 | kept e t he ht hn=>rfl
 | gone e t he ht hn=>rfl
theorem aL2 {f:Int→Sd} {p:Int} {S:List Ms} (I:Inv f p S):∃n,fX (Mp f)=some n∧n≤1:=by
 have h0:=yI ⟨by omega,by omega⟩ (I.w 0 (by omega) (by omega))
 have h1:=yI ⟨by omega,by omega⟩ (I.w 1 (by omega) (by omega))
 have h2:=yI ⟨by omega,by omega⟩ (I.w 2 (by omega) (by omega))
 have l0:=I.low 0 (by omega) (by omega)
 have l1:=I.low 1 (by omega) (by omega)
 have l2:=I.low 2 (by omega) (by omega)
 refine⟨(if stt (f 0)=1 then 1 else 0)+(if stt (f 1)=1 then 1 else 0)+(if stt (f 2)=1 then 1 else 0),?_,?_⟩
 · unfold fX
   rw[bnd (show (Mp f)[0]? = some (0,f 0) from rfl),bnd (show (Mp f)[1]? = some (1,f 1) from rfl),bnd (show (Mp f)[2]? = some (2,f 2) from rfl)]
   rw[if_pos (by simp [eqN,eqI,aKS]),bnd h0,bnd h1,bnd h2]
 · rcases aC2 I.p0 with hp | hp | hp<;>rw[hp] at l0 l1 l2<;>simp at l0 l1 l2<;>simp [l0,l1,l2]<;>split<;>omega
theorem ask_ok {f:Int→Sd} {p:Int} {S:List Ms} (I:Inv f p S) {i to:Int} (hi:0≤i∧i<3) (ht:0≤to∧to<3) :
 ∃q,iR (f i).1 (f i).2.1 (f i).2.2.1 (f i).2.2.2.1 (f i).2.2.2.2.1 (f i).2.2.2.2.2 to=some q∧(q.2.2.2.2.2≠0∨(q.2.2.2.2.2=0∧Inv f p (S++[(q.1,q.2.1,q.2.2.1,q.2.2.2.1,q.2.2.2.2.1)]))):=by
 have hw:=I.w i hi.1 hi.2
 have hR:=(qU hi hw).1
 have hme:=hw.me
 unfold iR
 rw[if_pos hR]
 split
 · exact⟨_,rfl,.inl (by decide)⟩
 · split
   · refine⟨_,rfl,.inr ⟨rfl,I.say fun m hm=>?_⟩⟩
     rcases List.mem_singleton.1 hm with rfl
     exact⟨by show 0≤(f i).1∧(f i).1<3;rw[hme];exact hi,ht,fun h=>(by cases h),fun h=>(by cases h)⟩
   · rename_i h
     exact⟨_,rfl,.inl fun h2=>h (jB.2 h2)⟩
theorem again_ok {f:Int→Sd} {p:Int} {S:List Ms} (I:Inv f p S) {i:Int} (hi:0≤i∧i<3):∃L,aS (f i).1 (f i).2.1 (f i).2.2.1 (f i).2.2.2.1 (f i).2.2.2.2.1 (f i).2.2.2.2.2=L∧L.length≤1∧Inv f p (S++L):=by
 have hw:=I.w i hi.1 hi.2
 have hR:=(qU hi hw).1
 unfold aS
 rw[if_pos hR]
 by_cases hk:(f i).2.2.2.2.2=true
 · rw[if_pos hk]
   refine⟨_,rfl,by simp,I.say fun m hm=>?_⟩
   obtain⟨e,t,hf,he,_⟩:=hw.kept_of hk
   have hadd:bI .i64 (f i).2.1 1=(f i).2.1+1:=xO (by rw[hf];simp only;omega)
   rcases List.mem_singleton.1 hm with rfl
   rw[hadd,hw.me]
   exact I.again hi hk
 · rw[if_neg hk]
   exact⟨[],rfl,by simp,by rw[List.append_nil];exact I⟩
section
variable {x1 x2:List Int} (hx:∀y∈x1,aFE y) (h200:x1.length≤200)
theorem rest_ok {i:Nat} {v n:Int} {f:Int→Sd} {p:Int} {S:List Ms} (hv:v=(i:Int)) (hi:i<200) (hn:0≤n∧n<65536) (I:Inv f p S) (hS:S.length≤i)
 (ih:∀f' p' S',Inv f' p' S'→S'.length≤i+1→bD x1 x2 (bI .i64 v 1) S' (Mp f') (Mp f')=some (.inl ())) :
 ((cB (conv .u8 (aP .u16 n 3)) (Mp f) (Mp f)).bind fun w1=>(if eqI w1.2.2.2.2.2.2 0=true then (if eqI (aP .u16 (bB .u16 n 3) 4) 0=true then ((iR w1.1 w1.2.1 w1.2.2.1 w1.2.2.2.1 w1.2.2.2.2.1 w1.2.2.2.2.2.1 (conv .u8 (aP .u16 (bB .u16 n 12) 3))).bind fun w2=>(if eqI w2.2.2.2.2.2 0=true then (if bV (((S++[(w2.1,w2.2.1,w2.2.2.1,w2.2.2.2.1,w2.2.2.2.2.1)]).length)*40)=true then ((fX (Mp f)).bind fun w3=>(if ltI 1 w3=true then (some (.inr false)) else (if eqI (nI (Mp f).length) 3=true then (bD x1 x2 (bI .i64 v 1) (S++[(w2.1,w2.2.1,w2.2.2.1,w2.2.2.2.1,w2.2.2.2.2.1)]) (Mp f) (Mp f)) else (some (.inr false))))) else none) else ((fX (Mp f)).bind fun w3=>(if ltI 1 w3=true then (some (.inr false)) else (if eqI (nI (Mp f).length) 3=true then (bD x1 x2 (bI .i64 v 1) S (Mp f) (Mp f)) else (some (.inr false))))))) else (if eqI (aP .u16 (bB .u16 n 3) 4) 1=true then (if bV (((S++(aS w1.1 w1.2.1 w1.2.2.1 w1.2.2.2.1 w1.2.2.2.2.1 w1.2.2.2.2.2.1)).length)*40)=true then ((fX (Mp f)).bind fun w2=>(if ltI 1 w2=true then (some (.inr false)) else (if eqI (nI (Mp f).length) 3=true then (bD x1 x2 (bI .i64 v 1) (S++(aS w1.1 w1.2.1 w1.2.2.1 w1.2.2.2.1 w1.2.2.2.2.1 w1.2.2.2.2.2.1)) (Mp f) (Mp f)) else (some (.inr false))))) else none) else (if eqI (nI S.length) 0=true then ((fX (Mp f)).bind fun w2=>(if ltI 1 w2=true then (some (.inr false)) else (if eqI (nI (Mp f).length) 3=true then (bD x1 x2 (bI .i64 v 1) S (Mp f) (Mp f)) else (some (.inr false))))) else (if inI (aP .i64 (conv .i64 (bB .u16 n 12)) (nI S.length)) S.length=true then ((S[tN (aP .i64 (conv .i64 (bB .u16 n 12)) (nI S.length))]?).bind fun w2=>((cB w2.2.2.1 (Mp f) (Mp f)).bind fun w3=>(if eqI w3.2.2.2.2.2.2 0=true then ((g5 w3.1 w3.2.1 w3.2.2.1 w3.2.2.2.1 w3.2.2.2.2.1 w3.2.2.2.2.2.1 w2.1 w2.2.1 w2.2.2.1 w2.2.2.2.1 w2.2.2.2.2).bind fun w4=>((eY w2.2.2.1 w4.1 w4.2.1 w4.2.2.1 w4.2.2.2.1 w4.2.2.2.2.1 w4.2.2.2.2.2.1 8 (Mp f) (Mp f)).bind fun w5=>(if bV (((S++w4.2.2.2.2.2.2.1).length)*40)=true then ((fX w5.2).bind fun w6=>(if ltI 1 w6=true then (some (.inr false)) else (if eqI (nI w5.2.length) 3=true then (bD x1 x2 (bI .i64 v 1) (S++w4.2.2.2.2.2.2.1) w5.2 w5.2) else (some (.inr false))))) else none))) else (some (.inr false))))) else none)))) else (some (.inr false))))=some (.inl ()):=by
 have e1:conv .u8 (aP .u16 n 3)=n % 3:=by rw[sX hn.1,conv8 (by omega)]
 have e2:aP .u16 (bB .u16 n 3) 4=n / 3 % 4:=by rw[aKW ⟨hn.1,hn.2,by omega⟩,sX (by omega)]
 have e3:conv .u8 (aP .u16 (bB .u16 n 12) 3)=n / 12 % 3:=by rw[aKW ⟨hn.1,hn.2,by omega⟩,sX (by omega),conv8 (by omega)]
 have e4:conv .i64 (bB .u16 n 12)=n / 12:=by rw[aKW ⟨hn.1,hn.2,by omega⟩,aHB (by omega)]
 have hs:0≤n % 3∧n % 3<3:=by omega
 have ht:0≤n / 12 % 3∧n / 12 % 3<3:=by omega
 have hg:=get_ok f hs
 have hl:=aKS f
 obtain⟨c,hh,hc⟩:=aL2 I
 have ihS:=ih f p S I (by omega)
 simp only[e1,e2,e3,e4]
 refine(bnd hg).trans ?_
 simp only
 rw[if_pos (by decide)]
 by_cases q0:n / 3 % 4=0
 · rw[if_pos (jB.2 q0)]
   obtain⟨q,hq,hc2⟩:=ask_ok I hs ht
   refine(bnd hq).trans ?_
   rcases hc2 with h | ⟨h,I2⟩
   · rw[if_neg (fun e=>h (jB.1 e))]
     refine(bnd hh).trans ?_
     repeat (first|refine ip (by first|with_reducible rfl | assumption | (simp (disch:=omega) only[ws,wl,wb,hl]<;>omega)|omega) ?_|refine jn (by first|with_reducible rfl | assumption | (simp (disch:=omega) only[ws,wl,wb,hl]<;>omega)|omega) ?_|refine el ?_|refine er ?_)
     exact ihS
   · rw[if_pos (jB.2 h)]
     have ih2:=ih f p _ I2 (by rw[List.length_append];simp;omega)
     rw[if_pos (by rw[t7,List.length_append];simp;omega)]
     refine(bnd hh).trans ?_
     repeat (first|refine ip (by first|with_reducible rfl | assumption | (simp (disch:=omega) only[ws,wl,wb,hl]<;>omega)|omega) ?_|refine jn (by first|with_reducible rfl | assumption | (simp (disch:=omega) only[ws,wl,wb,hl]<;>omega)|omega) ?_|refine el ?_|refine er ?_)
     exact ih2
 · rw[if_neg (fun e=>q0 (jB.1 e))]
   by_cases q1:n / 3 % 4=1
   · rw[if_pos (jB.2 q1)]
     obtain⟨L,hL,hL1,I2⟩:=again_ok I hs
     rw[hL]
     have ih2:=ih f p _ I2 (by rw[List.length_append];omega)
     rw[if_pos (by rw[t7,List.length_append];omega)]
     refine(bnd hh).trans ?_
     repeat (first|refine ip (by first|with_reducible rfl | assumption | (simp (disch:=omega) only[ws,wl,wb,hl]<;>omega)|omega) ?_|refine jn (by first|with_reducible rfl | assumption | (simp (disch:=omega) only[ws,wl,wb,hl]<;>omega)|omega) ?_|refine el ?_|refine er ?_)
     exact ih2
   · rw[if_neg (fun e=>q1 (jB.1 e))]
     by_cases q2:S.length=0
     · rw[if_pos (by rw[jB,rS,q2];rfl)]
       refine(bnd hh).trans ?_
       repeat (first|refine ip (by first|with_reducible rfl | assumption | (simp (disch:=omega) only[ws,wl,wb,hl]<;>omega)|omega) ?_|refine jn (by first|with_reducible rfl | assumption | (simp (disch:=omega) only[ws,wl,wb,hl]<;>omega)|omega) ?_|refine el ?_|refine er ?_)
       exact ihS
     · have hj:aP .i64 (n / 12) (nI S.length)=((n / 12 % S.length).toNat:Int):=by
        rw[sX (by omega),rS]
        have:=Int.emod_nonneg (n / 12) (b:=(S.length:Int)) (by omega)
        omega
       have hjl:(n / 12 % S.length).toNat<S.length:=by
        have h1:=Int.emod_nonneg (n / 12) (b:=(S.length:Int)) (by omega)
        have h2:=Int.emod_lt_of_pos (n / 12) (b:=(S.length:Int)) (by omega)
        omega
       rw[hj]
       generalize (n / 12 % S.length).toNat=j at hjl
       have hm:=List.getElem_mem hjl
       have hg2:S[tN (j:Int)]? = some S[j]:=geti rfl hjl
       generalize S[j]=m at hm hg2
       rw[if_neg (by rw[jB,rS];omega),if_pos (by rw[aCS];omega)]
       refine(bnd hg2).trans ?_
       have hb:=(I.ms m hm).b
       have hgm:=get_ok f hb
       refine(bnd hgm).trans ?_
       simp only
       rw[if_pos (by decide)]
       obtain⟨z,S',er,hz,hS1,p',I2⟩:=hear_inv I hm
       refine(bnd hz).trans ?_
       simp only
       have hset:=set_ok f hb z
       refine(bnd hset).trans ?_
       simp only
       obtain⟨c2,hh2,hc2⟩:=aL2 I2
       have hl2:=aKS (upd f m.2.2.1 z)
       have ih2:=ih _ p' _ I2 (by rw[List.length_append];omega)
       rw[if_pos (by rw[t7,List.length_append];omega)]
       refine(bnd hh2).trans ?_
       repeat (first|refine ip (by first|with_reducible rfl | assumption | (simp (disch:=omega) only[ws,wl,wb,hl2]<;>omega)|omega) ?_|refine jn (by first|with_reducible rfl | assumption | (simp (disch:=omega) only[ws,wl,wb,hl2]<;>omega)|omega) ?_|refine el ?_|refine er ?_)
       exact ih2
include hx h200 in
theorem loop_ok:∀(d i:Nat) (v:Int) (f:Int→Sd) (p:Int) (S:List Ms),x1.length - i=d→i≤x1.length→v=(i:Int)→Inv f p S→S.length≤i→bD x1 x2 v S (Mp f) (Mp f)=some (.inl ()):=by
 intro d
 induction d with
 | zero =>
  intro i v f p S hd hi hv I hS
  rw[jT,if_neg (by rw[tY,rS];omega)]
 | succ d ih =>
  intro i v f p S hd hi hv I hS
  have hlt:i<x1.length:=by omega
  have hw:=hx _ (List.getElem_mem hlt)
  have hgi:=geti hv hlt
  generalize x1[i]=n at hw hgi
  have hn:0≤n∧n<65536:=by
   unfold aFE at hw
   omega
  have ih2:∀f' p' S',Inv f' p' S'→S'.length≤i+1→bD x1 x2 (bI .i64 v 1) S' (Mp f') (Mp f')=some (.inl ()):=fun f' p' S' I' hS' =>
   ih (i+1) (bI .i64 v 1) f' p' S' (by omega) (by omega) (by rw[hv,xO (by omega)];simp) I' hS'
  have hrest:=rest_ok (x1:=x1) (x2:=x2) hv (by omega) hn I hS ih2
  rw[jT]
  rw[if_pos (by rw[tY,rS];omega),if_pos (by rw[aCS];omega)]
  refine(bnd hgi).trans ?_
  by_cases c1:i<x2.length
  · rw[if_pos (by rw[tY,rS];omega),if_pos (by rw[aCS];omega)]
    refine(bnd (geti hv c1)).trans ?_
    show (if eqI (aP .u8 x2[i] 2) 0=true then _ else _)=_
    by_cases c2:eqI (aP .u8 x2[i] 2) 0=true
    · rw[if_pos c2];exact hrest
    · rw[if_neg c2];exact hrest
  · rw[if_neg (by rw[tY,rS];omega)]
    exact hrest
end
theorem aM9:Inv (fun i=>if i=0 then (0,1,1,0,cg,false) else (i,0,0,0,eb,false)) 0 [] where
 w:=fun i h0 h3=>by
  split
  · rename_i h;subst h;exact .held 1 (by omega)
  · exact .idle
 p0:=by omega
 low:=fun i h0 h3 hi=>by
  simp only[if_neg hi]
  exact⟨by show (0:Int)<1;decide,by show (0:Int)≠1;decide⟩
 top:=.inl rfl
 keep:=fun i h0 h3 hi hk=>by simp only[if_neg hi] at hk;cases hk
 ms:=fun m hm=>by cases hm
theorem fill_ok (x1 x2:List Int):iL x1 x2 0 []=some (Mp (fun i=>if i=0 then (0,1,1,0,cg,false) else (i,0,0,0,eb,false))) :=
 (kW x1 x2 0 []).le 40 _ (by kernel_rfl)
theorem plain_durable (x1 x2:List Int) (hx1:w_t54 x1) (hx2:w_t27 x2):hH x1 x2=some true:=by
 have hx:=hx1.2
 unfold hH
 by_cases h:ltI 200 (nI x1.length)=true
 · rw[if_pos h,bnd aI7]
 · rw[if_neg h,bnd aI7]
   rw[if_pos rfl,bnd (fill_ok x1 x2)]
   have h200:x1.length≤200:=by
    have h2:¬(200:Int)<nI x1.length:=fun e=>h (tY.2 e)
    rw[rS] at h2
    omega
   rw[bnd (loop_ok hx h200 _ 0 0 _ 0 [] rfl (by omega) rfl aM9 (by simp))]
   rfl
end Go.Ws.L12
