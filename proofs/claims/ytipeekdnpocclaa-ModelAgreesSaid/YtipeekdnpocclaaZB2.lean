/-
  The abstract machine and its soundness, part 2.
  Conditions: none.
-/
import Derived.Test.YtipeekdnpocclaaZB1
import Derived.Laws.IdiomRangeMap
import Derived.WalkKit
import Derived.ProofKit
import Derived.OpenShut
import Derived.ReadAgain
import Derived.ChangeBears
import Derived.ChangeArms
import Derived.RangeFuncBox
import Derived.Below
import Derived.Lib.Overlaps
import Derived.Lib.AppendZeros
import Derived.Shelf.RegionOpenPlain
set_option linter.unusedVariables false
set_option linter.unusedSimpArgs false
namespace Go.Ws
set_option linter.unusedVariables false
set_option linter.unusedSimpArgs false

section
variable {P:Program} {σ:Sig} {π:bE} {w:World}

def aBO (tmps:Array Value):ResultVar→Sem Value
 | .tmp t=>pure (tmps.getD t undef)
 | .cell a t=>do loadVar t (← asAddr (tmps.getD a undef))

theorem aKX {st:St} {tmps:Array Value} (R:Rel σ π w (st.h[·]?)) (ht:VRs σ π w st.t tmps) {r:ResultVar} {v:AV} (e:aE0 (cT P) st r=some v) :
 ∃u,(aBO tmps r).run P w = .ok u w∧VR σ π w v u:=by
 cases r with
 | tmp t =>
  simp only[aE0,Option.some.injEq] at e
  subst e
  exact⟨_,rfl,aCH ht t⟩
 | cell a ty =>
  simp only[aE0] at e
  split at e
  · rename_i i b o hi hb
    have hvr:=aCH ht a
    rw[hb] at hvr
    split at e
    · rename_i c hc
      split at e
      · rename_i hle
        obtain⟨d,inf,h1,h2,rfl⟩:=aP hi
        generalize hu0:tmps.getD a undef=u at hvr
        cases hvr with
        | hp _ _ l hl =>
         obtain⟨l',C,ty',q1,q2,q3,q4,q5⟩:=R.blk b _ hc
         rw[hl] at q1
         cases q1
         obtain⟨cs,hcl,hcs,hvr⟩:=aDB q4 hle
         obtain⟨u,hr,hvu⟩:=n9 (P:=P) (w:=w) h1 h2 l.blk o cs hcl (fun j v hj=>by have:=hcs j v hj;simp [World.cell?,q2];simpa using this) hvr e
         exact⟨u,by simp only[aBO,hu0,asAddr,pure_bind,hr],hvu⟩
      · cases e
    · cases e
  · cases e

theorem aH3 {st:St} {tmps:Array Value} (R:Rel σ π w (st.h[·]?)) (ht:VRs σ π w st.t tmps) {fn:Func} {vs:List AV} (e:vE (cT P) st fn.results.toList=some vs) :
 ∃u,(results fn tmps).run P w = .ok u w∧VR σ π w (resTup vs) u:=by
 have key:∀(l:List ResultVar) (vs:List AV),vE (cT P) st l=some vs →
  ∃us:List Value,(l.mapM (aBO tmps)).run P w = .ok us w∧VRs σ π w vs us.toArray:=by
  intro l
  induction l with
  | nil =>
   intro vs e
   simp only[vE,Option.some.injEq] at e
   subst e
   exact⟨[],rfl,⟨rfl,fun i v u h=>by simp at h⟩⟩
  | cons r l ih =>
   intro vs e
   simp only[vE] at e
   split at e
   · rename_i v vs' hv hvs
     cases e
     obtain⟨u,h1,h2⟩:=aKX R ht hv
     obtain⟨us,h3,h4⟩:=ih vs' hvs
     refine⟨u::us,?_,.cons h2 h4⟩
     rw[List.mapM_cons]
     simp only[Sem.run_bind,h1,Result.andThen_ok,h3,Sem.run_pure]
   · cases e
 obtain⟨us,h1,h2⟩:=key _ _ e
 have hsz:=h2.1
 simp only[List.size_toArray] at hsz
 refine⟨if h:us.toArray.size=1 then us.toArray[0] else .tuple us.toArray,?_,?_⟩
 · have he:results fn tmps=(do let vs ← fn.results.mapM (aBO tmps);pure (if h:vs.size=1 then vs[0] else .tuple vs)):=by
    have hf:(fun (r:ResultVar)=>(match r with | .tmp t=>(pure (tmps.getD t undef):Sem Value) | .cell a t=>(do loadVar t (← asAddr (tmps.getD a undef)):Sem Value)))=aBO tmps:=by
     funext r
     cases r<;>rfl
    rw[← hf]
    rfl
   rw[he,Array.mapM_eq_mapM_toList]
   simp only[bind_map_left,Sem.run_bind,h1,Result.andThen_ok,Sem.run_pure]
 · match vs,us,hsz,h2 with
   | [v],[u],_,h2=>exact h2.2 0 v u rfl rfl
   | [],[],_,h2=>exact .tup [] #[] rfl (fun i v u h=>by simp at h)
   | v1::v2::vs,u1::u2::us,_,h2 =>
    have:¬(u1::u2::us).toArray.size=1:=by simp
    rw[dif_neg this]
    exact .tup _ _ h2.1 h2.2

theorem uT {f : FuncId} {fn : Func} {c : Code} (hf : P.funcs[f]? = some fn) (hname : (fn.name == "runtime.NumGoroutine") = false) (hb : fn.body = some c) (args : Array Value) (w : World) :
 (callFunc f args).run P w = .ok (.enter f args) w:=by
 unfold callFunc
 have hn : ¬ (fn.name = "runtime.NumGoroutine") := by simpa using hname
 simp [hf,hn,hb]

theorem aAT {args:List AV} {cargs:Array Value} (h:VRs σ π w args cargs) (n:Nat):VRs σ π w (args++List.replicate (n - args.length) .any) (cargs++Array.replicate (n - cargs.size) undef):=by
 refine⟨by simp [h.1],fun i v u hi hu=>?_⟩
 rcases Nat.lt_or_ge i args.length with hlt | hge
 · rw[List.getElem?_append_left hlt] at hi
   rw[Array.getElem?_append_left (by rw[h.1];exact hlt)] at hu
   exact h.2 i v u hi hu
 · rw[List.getElem?_append_right hge] at hi
   rw[Array.getElem?_append_right (by rw[h.1];exact hge)] at hu
   have h1:v = .any:=by
    rw[List.getElem?_replicate] at hi
    split at hi
    · cases hi;rfl
    · cases hi
   rw[h1]
   exact .any _


def AX.out':AX→Exit
 | .normal=>.normal
 | .exit id=>.exit id
 | .ret=>.ret

def xM (P:Program) (x:Ctx) (o:GX) (σ:Sig) (π:bE) (w:World) (e:Exit) (a:Act) (w':World):Prop:=match o with
 | .st y s=>e=y.out'∧Now σ π w s.t (s.h[·]?) a w'
 | .fin v h'=>e = .ret∧a.defers=[]∧∃u,(results x.fn a.tmps).run P w' = .ok u w'∧x.h0.length≤h'.length∧Ret σ π w v h' (.returned u) w'

def Tc (P:Program) (x:Ctx) (c:Code) (st:St) (o:GX):Prop:=∀(σ:Sig) (π:bE) (w:World) (a:Act) (w1:World) (Q:Exit→Act→World→Prop),
 Rel σ π w (x.h0[·]?)→Now σ π w st.t (st.h[·]?) a w1→(∀e a' w',xM P x o σ π w e a' w'→Q e a' w')→c.wp P Q a w1

def LT (P:Program) (x:Ctx) (c:Code) (st:St) (o:GX):Prop:=∃n,∀(σ:Sig) (π:bE) (w:World) (a:Act) (w1:World) (Q:Exit→Act→World→Prop),
 Rel σ π w (x.h0[·]?)→Now σ π w st.t (st.h[·]?) a w1→(∀e a' w',xM P x o σ π w e a' w'→Q e a' w')→Code.rounds P c Q n a w1

theorem aBR {x:Ctx} {s:NSpec} {st0 st':St} {a:Act} {w1:World} (R0:Rel σ π w (x.h0[·]?)) (e:NormR x.h0.length (x.h0.map Blk.gen) s st0 st'∧kgOk (x.h0.map Blk.gen) 0 s.kg x.h0=true) (N:Now σ π w st0.t (st0.h[·]?) a w1) :
 Now σ π w st'.t (st'.h[·]?) a w1:=by
 refine norm_ok (fun b hb g=>R0.non b (List.getElem?_eq_none hb) g) (fun b g1 hk g hg=>?_) e.1 N
 obtain⟨hlt,sz,rows,gen,wgen,ro,hb⟩:=uY e.2 b g1 hk
 rw[Nat.zero_add] at hlt
 have hB:=R0.blk b _ hb
 have hgen:(x.h0.map Blk.gen).getD b 0=gen:=by rw[List.getD_eq_getElem?_getD,List.getElem?_map,hb];rfl
 rw[hgen] at hlt
 exact hB.2.2.2.1 g (by omega)

theorem vC {tag:Nat} {x:Ctx} {st:St}:G.Ok (wF tag x.h0 st) (fun st'=>∀(σ:Sig) (π:bE) (w:World) (a:Act) (w1:World),Rel σ π w (x.h0[·]?)→Now σ π w st.t (st.h[·]?) a w1→Now σ π w st'.t (st'.h[·]?) a w1):=fun s acc b s' acc' e=>by
 unfold wF at e
 split at e
 · rename_i t sp s1
   split at e
   · obtain⟨h1,h2⟩:=uM _ _ _ _ _ e
     exact⟨h1,fun hp σ π w a w1 R0 N=>aBR R0 (h2 hp) N⟩
   · simp only[Option.some.injEq,Prod.mk.injEq] at e
     obtain⟨rfl,_,rfl⟩:=e
     exact⟨⟨[],rfl⟩,fun _ σ π w a w1 R0 N=>N⟩
 · simp only[Option.some.injEq,Prod.mk.injEq] at e
   obtain⟨rfl,_,rfl⟩:=e
   exact⟨⟨[],rfl⟩,fun _ σ π w a w1 R0 N=>N⟩

theorem aK6 {m:Nat} {frz:Bool} {v:AV} {h:List Blk} {r:AV × List Blk} (e:aDC m frz v h=some r):m≤r.2.length:=by
 unfold aDC at e
 split at e
 · cases e
 rename_i hlen
 split at e
 · rename_i v1 kept h1 h2
   split at e
   · split at e
     · cases e
     · simp only[Option.some.injEq] at e
       subst e
       have:kept.length=m:=by
        cases frz with
        | false =>
         simp only[Bool.false_eq_true,if_false,Option.some.injEq] at h2
         subst h2
         simp;omega
        | true =>
         simp only[if_true] at h2
         have:=(qY _ _ _ _ h2).1
         simp at this
         omega
       simp;omega
   · cases e
 · cases e

def FinS (P:Program) (x:Ctx) (st:St) (o:GX):Prop:=∃v h',o = .fin v h'∧∀(σ:Sig) (π:bE) (w:World) (a:Act) (w1:World),Rel σ π w (x.h0[·]?)→Now σ π w st.t (st.h[·]?) a w1 →
 a.defers=[]∧∃u,(results x.fn a.tmps).run P w1 = .ok u w1∧x.h0.length≤h'.length∧Ret σ π w v h' (.returned u) w1

theorem aIV {x:Ctx} {st:St}:G.Ok (gFin (cT P) x st) (FinS P x st):=by
 unfold gFin
 refine .bind vC fun st1=>.bind .lift fun vs=>.bind aK2 fun r=>?_
 obtain⟨v,h'⟩:=r
 refine .pure fun hf hv hn=>⟨v,h',rfl,fun σ π w a w1 R0 N=>?_⟩
 obtain⟨hd,σ1,π1,ht,D⟩:=hn σ π w a w1 R0 N
 obtain⟨u,hu,hvu⟩:=aH3 D.rel ht hv
 exact⟨hd,u,hu,aK6 hf,(final_ok R0 D hvu hf).2⟩

theorem gTold_ok {Lp:Code→St→GX→Prop} {k:G GX} {c:Code} {st:St} {S:GX→Prop} (h:G.Ok k S) (hl:∀o,Lp c st o→S o):G.Ok (gTold Lp k c st) S:=fun s acc b s' acc' e=>by
 unfold gTold at e
 split at e
 · simp only[Option.some.injEq,Prod.mk.injEq] at e
   obtain⟨rfl,_,rfl⟩:=e
   exact⟨⟨[_],rfl⟩,fun hp=>hl _ (hp _ (by simp))⟩
 · exact h _ _ _ _ _ e

theorem aKM {Lp:Code→St→GX→Prop} {k:G GX} {a c:Code} {st:St} {S:GX→Prop} (h:G.Ok k S) (hl:∀o,Lp c st o→S o):G.Ok (aHU Lp k a c st) S:=fun s acc b s' acc' e=>by
 unfold aHU at e
 split at e
 · split at e
   · split at e
     · simp only[Option.some.injEq,Prod.mk.injEq] at e
       obtain⟨rfl,_,rfl⟩:=e
       exact⟨⟨[_],rfl⟩,fun hp=>hl _ (hp _ (by simp))⟩
     · exact h _ _ _ _ _ e
   · exact h _ _ _ _ _ e
 · exact h _ _ _ _ _ e

theorem xH {x:Ctx} (hm:P.follows .mixedOrders=true):∀(c:Code) (st:St),G.Ok (oA (Tri P) (Tc P x) (cT P) x c st) (Tc P x c st):=by
 intro c
 induction c with
 | skip=>exact fun st=>.pure fun σ π w a w1 Q R0 N hQ=>wp_skip (hQ _ _ _ ⟨rfl,N⟩)
 | label l=>exact fun st=>.pure fun σ π w a w1 Q R0 N hQ=>wp_label (hQ _ _ _ ⟨rfl,N⟩)
 | region id ops draw =>
  intro st
  unfold oA
  refine .bind vC fun st1=>.bind aHW fun st2=>.pure fun hr hn σ π w a w1 Q R0 N hQ=>?_
  obtain⟨call,cfg,hc,hr⟩:=hr
  exact aHV hc hm hr (hn _ _ _ _ _ R0 N) fun a' w' N'=>hQ _ _ _ ⟨rfl,N'⟩
 | seq c1 c2 ih1 ih2 =>
  intro st
  unfold oA
  refine aKM (S:=Tc P x (.seq c1 c2) st) ?_ fun o h=>h
  refine .bind (ih1 st) fun r=>?_
  split
  · rename_i st1
    exact(ih2 st1).imp fun o h2 h1 σ π w a w1 Q R0 N hQ=>wp_seq (h1 _ _ _ _ _ _ R0 N fun e a' w' hp=>by
     obtain⟨rfl,N'⟩:=hp
     exact h2 _ _ _ _ _ _ R0 N' hQ)
  · rename_i hne
    refine .pure fun h1 σ π w a w1 Q R0 N hQ=>wp_seq (h1 _ _ _ _ _ _ R0 N fun e a' w' hp=>?_)
    have h2:=hQ _ _ _ hp
    cases r with
    | fin v h' =>
     obtain⟨rfl,_⟩:=hp
     exact h2
    | st y s =>
     obtain⟨rfl,_⟩:=hp
     cases y with
     | normal=>exact absurd rfl (hne s)
     | exit i=>exact h2
     | ret=>exact h2
 | cond o c1 c2 ih1 ih2 =>
  intro st
  unfold oA
  split
  · rename_i z hz
    refine .bind .dec fun y=>?_
    have hv:∀(σ:Sig) (π:bE) (w:World) (a:Act) (w1:World),Now σ π w st.t (st.h[·]?) a w1→a.eval o = .bool z:=by
     intro σ π w a w1 N
     obtain⟨hd,σ1,π1,ht,D⟩:=N
     have hv:=dH ht hz
     generalize a.eval o=u at hv
     cases hv
     rfl
    split
    · rename_i hy
      exact(ih1 st).imp fun r h1 hzy σ π w a w1 Q R0 N hQ=>wp_cond_true (by rw[hv _ _ _ _ _ N,hzy,hy]) (h1 _ _ _ _ _ _ R0 N hQ)
    · rename_i hy
      have hyf:y=false:=by simpa using hy
      exact(ih2 st).imp fun r h1 hzy σ π w a w1 Q R0 N hQ=>wp_cond_false (by rw[hv _ _ _ _ _ N,hzy,hyf]) (h1 _ _ _ _ _ _ R0 N hQ)
  · exact .fail
 | block id c ih =>
  intro st
  unfold oA
  refine .bind vC fun st1=>?_
  have hk:G.Ok ((oA (Tri P) (Tc P x) (cT P) x c st1).bind fun r=>match r with
   | .st (.exit i) st=>if i=id then (wF (3*id+3) x.h0 st).bind fun st=>.pure (.st .normal st) else .pure (.st (.exit i) st)
   | r=>.pure r) (Tc P x (.block id c) st1):=by
   refine .bind (ih st1) fun r=>?_
   split
   · rename_i i st2
     split
     · rename_i hi
       subst hi
       refine .bind vC fun st3=>.pure fun hn h1 σ π w a w1 Q R0 N hQ=>wp_block (h1 _ _ _ _ _ _ R0 N fun e a' w' hp=>?_)
       obtain⟨rfl,N'⟩:=hp
       simp only[Exit.inBlock,AX.out',if_true]
       exact hQ _ _ _ ⟨rfl,hn _ _ _ _ _ R0 N'⟩
     · rename_i hi
       refine .pure fun h1 σ π w a w1 Q R0 N hQ=>wp_block (h1 _ _ _ _ _ _ R0 N fun e a' w' hp=>?_)
       have h2:=hQ _ _ _ hp
       obtain⟨rfl,N'⟩:=hp
       simp only[Exit.inBlock,AX.out',if_neg hi]
       exact h2
   · rename_i hne
     refine .pure fun h1 σ π w a w1 Q R0 N hQ=>wp_block (h1 _ _ _ _ _ _ R0 N fun e a' w' hp=>?_)
     have h2:=hQ _ _ _ hp
     cases r with
     | fin v h' =>
      obtain⟨rfl,_⟩:=hp
      exact h2
     | st y s =>
      obtain⟨rfl,_⟩:=hp
      cases y with
      | normal=>exact h2
      | exit i=>exact absurd rfl (hne i s)
      | ret=>exact h2
  exact(gTold_ok hk fun o h=>h).imp fun o h hn σ π w a w1 Q R0 N hQ=>h _ _ _ _ _ _ R0 (hn _ _ _ _ _ R0 N) hQ
 | loop c ih=>exact fun st=>.fail
 | exit id=>exact fun st=>.pure fun σ π w a w1 Q R0 N hQ=>wp_exit (hQ _ _ _ ⟨rfl,N⟩)
 | ret =>
  intro st
  unfold oA
  refine aIV.imp fun o ho σ π w a w1 Q R0 N hQ=>?_
  obtain⟨v,h',rfl,hf⟩:=ho
  exact wp_ret (hQ _ _ _ ⟨rfl,hf _ _ _ _ _ R0 N⟩)
 | scope c ih =>
  intro st
  unfold oA
  refine(ih st).imp fun o ho σ π w a w1 Q R0 N hQ=>wp_scope_straight (ho _ _ _ _ _ _ R0 N fun e a' w' hp=>?_)
  have h2:=hQ _ _ _ hp
  cases o with
  | fin v h'=>obtain⟨rfl,_⟩:=hp;exact h2
  | st y s =>
   obtain⟨rfl,_⟩:=hp
   cases y<;>exact h2
 | rangeFunc _ _ _ _=>exact fun st=>.fail
 | goto _=>exact fun st=>.fail
 | refuse _=>exact fun st=>.fail

structure Prf where
 {p:Prop}
 h:p

theorem aA4 (ps:List Prf):∀p∈ps.map (fun q=>q.p),p:=by
 intro p hp
 obtain⟨q,_,rfl⟩:=List.mem_map.1 hp
 exact q.h

theorem LT.next {x:Ctx} (hm:P.follows .mixedOrders=true) {c:Code} {st s1:St} {o:GX} {hs:NSpec} {es:Option NSpec} (an:List Ans) (ps:List Prf)
 (e:zT (Tri P) (Tc P x) (cT P) x hs es c st an []=some (.st .normal s1,[],ps.map (fun q=>q.p))) (h:LT P x c s1 o):LT P x c st o:=by
 obtain⟨n,h⟩:=h
 refine⟨n+1,fun σ π w a w1 Q R0 N hQ=>?_⟩
 rw[rounds_succ]
 have hok:G.Ok (zT (Tri P) (Tc P x) (cT P) x hs es c st) (fun r=>r = .st .normal s1→∃st',Tc P x c st (.st .normal st')∧∀(σ:Sig) (π:bE) (w:World) (a:Act) (w1:World),Rel σ π w (x.h0[·]?)→Now σ π w st'.t (st'.h[·]?) a w1→Now σ π w s1.t (s1.h[·]?) a w1):=by
  unfold zT
  refine .bind (xH hm c st) fun r=>?_
  split
  · rename_i st'
    refine .bind uM fun st2=>.pure fun hn h1 he=>⟨st',h1,fun σ π w a w1 R0 N=>?_⟩
    cases he
    exact aBR R0 hn N
  · rename_i i st'
    refine .bind (S1:=fun _=>True) ?_ fun st2=>.pure fun hn h1 he=>by cases he
    split
    · exact uM.imp fun _ _=>trivial
    · exact .pure trivial
  · rename_i h1 h2
    refine .pure fun h3 he=>?_
    cases he
    exact absurd rfl (h1 _)
 obtain⟨st',h1,h2⟩:=(hok _ _ _ _ _ e).2 (aA4 ps) rfl
 refine h1 _ _ _ _ _ _ R0 N fun e' a' w' hp=>?_
 obtain⟨rfl,N'⟩:=hp
 exact h σ π w a' w' Q R0 (h2 _ _ _ _ _ R0 N') hQ

theorem LT.done {x:Ctx} (hm:P.follows .mixedOrders=true) {c:Code} {st:St} {o:GX} {hs:NSpec} {es:Option NSpec} (an:List Ans) (ps:List Prf)
 (e:zT (Tri P) (Tc P x) (cT P) x hs es c st an []=some (o,[],ps.map (fun q=>q.p))) (ho:∀s,o ≠ .st .normal s):LT P x c st o:=by
 refine⟨1,fun σ π w a w1 Q R0 N hQ=>?_⟩
 rw[rounds_succ]
 have hok:G.Ok (zT (Tri P) (Tc P x) (cT P) x hs es c st) (fun r=>(∀s,r ≠ .st .normal s)→∀(σ:Sig) (π:bE) (w:World) (a:Act) (w1:World) (Q:Exit→Act→World→Prop),Rel σ π w (x.h0[·]?)→Now σ π w st.t (st.h[·]?) a w1 →
  (∀e a' w',xM P x r σ π w e a' w'→Q e a' w')→c.wp P (Exit.then (Code.rounds P c Q 0) Q) a w1):=by
  unfold zT
  refine .bind (xH hm c st) fun r=>?_
  split
  · exact .bind uM fun st2=>.pure fun hn h1 he=>absurd rfl (he _)
  · rename_i i st'
    refine .bind (S1:=fun st2=>∀(σ:Sig) (π:bE) (w:World) (a:Act) (w1:World),Rel σ π w (x.h0[·]?)→Now σ π w st'.t (st'.h[·]?) a w1→Now σ π w st2.t (st2.h[·]?) a w1) ?_ fun st2=>.pure fun hn h1 he σ π w a w1 Q R0 N hQ=>h1 _ _ _ _ _ _ R0 N fun e a' w' hp=>?_
    · split
      · exact uM.imp fun st2 h σ π w a w1 R0 N=>aBR R0 h N
      · exact .pure fun σ π w a w1 R0 N=>N
    · obtain⟨rfl,N'⟩:=hp
      exact hQ _ _ _ ⟨rfl,hn _ _ _ _ _ R0 N'⟩
  · rename_i h1 h2
    refine .pure fun h3 he σ π w a w1 Q R0 N hQ=>h3 _ _ _ _ _ _ R0 N fun e a' w' hp=>?_
    have h4:=hQ _ _ _ hp
    cases r with
    | fin v h'=>obtain⟨rfl,_⟩:=hp;exact h4
    | st y s =>
     obtain⟨rfl,_⟩:=hp
     cases y with
     | normal=>exact absurd rfl (he s)
     | exit i=>exact h4
     | ret=>exact h4
 exact(hok _ _ _ _ _ e).2 (aA4 ps) ho _ _ _ _ _ _ R0 N hQ

theorem LT.block {x:Ctx} {c:Code} {st s:St} {id:Nat} (h:LT P x c st (.st (.exit id) s)):Tc P x (.block id (.loop c)) st (.st .normal s):=by
 obtain⟨n,h⟩:=h
 intro σ π w a w1 Q R0 N hQ
 refine wp_block (wp_loop_rounds n (h σ π w a w1 _ R0 N fun e a' w' hp=>?_))
 obtain⟨rfl,N'⟩:=hp
 simp only[Exit.inBlock,AX.out',if_true]
 exact hQ _ _ _ ⟨rfl,N'⟩

theorem LT.blockFin {x:Ctx} {c:Code} {st:St} {id:Nat} {v:AV} {h':List Blk} (h:LT P x c st (.fin v h')):Tc P x (.block id (.loop c)) st (.fin v h'):=by
 obtain⟨n,h⟩:=h
 intro σ π w a w1 Q R0 N hQ
 refine wp_block (wp_loop_rounds n (h σ π w a w1 _ R0 N fun e a' w' hp=>?_))
 have h2:=hQ _ _ _ hp
 obtain⟨rfl,_⟩:=hp
 exact h2

def aBM (args:List AV) (n:Nat) (h:List Blk):St:=⟨args++List.replicate (n - args.length) .any,h⟩

theorem Tri.of {x : Ctx} (hm : P.follows .mixedOrders = true) {f : Nat} (hF : P.funcs[f]? = some x.fn ∧ (x.fn.name == "runtime.NumGoroutine") = false ∧ x.fn.body.isSome = true) {args : List AV} {v : AV} {h' : List Blk} (an : List Ans) (ps : List Prf)
 (e:gBody (Tri P) (Tc P x) (cT P) x (x.fn.body.getD .skip) (aBM args x.fn.ntmps x.h0) an []=some (.fin v h',[],ps.map (fun q=>q.p))):Tri P f args x.h0 v h':=by
 obtain⟨hf,hname,hbs⟩:=hF
 obtain⟨c,hb⟩:∃c,x.fn.body=some c:=Option.isSome_iff_exists.1 hbs
 rw[hb,Option.getD_some] at e
 have hok:G.Ok (aIH (Tri P) (Tc P x) (cT P) x c (aBM args x.fn.ntmps x.h0)) (fun r=>∃v h',r = .fin v h'∧∀(σ:Sig) (π:bE) (w:World) (a:Act) (w1:World) (Q:Exit→Act→World→Prop),Rel σ π w (x.h0[·]?) →
  Now σ π w (aBM args x.fn.ntmps x.h0).t ((aBM args x.fn.ntmps x.h0).h[·]?) a w1→(∀e a' w',e = .normal∨e = .ret→a'.defers=[]→(∃u,(results x.fn a'.tmps).run P w' = .ok u w'∧x.h0.length≤h'.length∧Ret σ π w v h' (.returned u) w')→Q e a' w')→c.wp P Q a w1):=by
  unfold aIH
  refine .bind (xH hm c _) fun r=>?_
  split
  · rename_i st
    refine aIV.imp fun o ho h1=>?_
    obtain⟨v,h',rfl,hfin⟩:=ho
    refine⟨v,h',rfl,fun σ π w a w1 Q R0 N hQ=>h1 _ _ _ _ _ _ R0 N fun e a' w' hp=>?_⟩
    obtain⟨rfl,N'⟩:=hp
    have:=hfin _ _ _ _ _ R0 N'
    exact hQ _ _ _ (.inl rfl) this.1 this.2
  · exact .fail
  · rename_i hne1 hne2
    refine .pure fun h1=>?_
    cases r with
    | st y s=>exact absurd rfl (hne2 y s)
    | fin v h' =>
     refine⟨v,h',rfl,fun σ π w a w1 Q R0 N hQ=>h1 _ _ _ _ _ _ R0 N fun e a' w' hp=>?_⟩
     obtain⟨rfl,hd,hu⟩:=hp
     exact hQ _ _ _ (.inr rfl) hd hu
 have hok2:G.Ok (gBody (Tri P) (Tc P x) (cT P) x c (aBM args x.fn.ntmps x.h0)) (fun r=>∃v h',r = .fin v h'∧x.h0.length≤h'.length∧∀(σ:Sig) (π:bE) (w:World) (a:Act) (w1:World) (Q:Exit→Act→World→Prop),Rel σ π w (x.h0[·]?) →
  Now σ π w (aBM args x.fn.ntmps x.h0).t ((aBM args x.fn.ntmps x.h0).h[·]?) a w1→(∀e a' w',e = .normal∨e = .ret→a'.defers=[]→(∃u,(results x.fn a'.tmps).run P w' = .ok u w'∧x.h0.length≤h'.length∧Ret σ π w v h' (.returned u) w')→Q e a' w')→c.wp P Q a w1):=by
  unfold gBody
  refine .bind hok fun r=>?_
  split
  · refine .bind .need fun _=>.pure fun hl h=>?_
    obtain⟨v,h',he,h⟩:=h
    cases he
    exact⟨_,_,rfl,by simpa using hl,h⟩
  · rename_i hne
    refine .pure fun h=>?_
    obtain⟨v,h',he,h⟩:=h
    exact absurd he (hne _ _)
 obtain⟨v2,h2,heq,hlen,hrun⟩:=(hok2 _ _ _ _ _ e).2 (aA4 ps)
 cases heq
 refine⟨uT hf hname hb,hlen,fun σ π w cargs R hv=>?_⟩
 refine calls_of_wp hf hb (hrun σ π w _ w _ R ⟨rfl,σ,π,aAT hv x.fn.ntmps,.refl R⟩ fun e a' w' he hd hu=>?_)
 obtain⟨u,hu,_,hr⟩:=hu
 rcases he with rfl | rfl<;>exact⟨hd,u,hu,hr⟩

theorem Tri.slOf {f sz:Nat} {rows:List (List AV)} {v:AV} {h':List Blk} (h1:Tri P f [.inl sz rows] [] v h') (h2:rows=[]→Tri P f [.nils] [] v h'):Tri P f [.sl sz rows] [] v h':=by
 refine⟨h1.1,h1.2.1,fun σ π w cargs R hv=>?_⟩
 obtain⟨u,r,rfl,hu,hr⟩:=hv.tail
 rcases hu.sl_cases with⟨rfl,a,c,rfl,h0⟩ | hu
 · cases a with
   | none =>
    obtain rfl:=h0 rfl
    exact(h2 rfl).2.2 σ π w _ R (.cons .nils hr)
   | some a=>exact h1.2.2 σ π w _ R (.cons (.inl0 _ _ _) hr)
 · exact h1.2.2 σ π w _ R (.cons hu hr)
end

def sub:Code→List Nat→Code
 | c,[]=>c
 | .seq a _,0::l=>sub a l
 | .seq _ b,1::l=>sub b l
 | .cond _ a _,2::l=>sub a l
 | .cond _ _ b,3::l=>sub b l
 | .block _ c,4::l=>sub c l
 | .loop c,5::l=>sub c l
 | .scope c,6::l=>sub c l
 | c,_=>c

def at_ (fn:Func) (l:List Nat):Code:=sub (fn.body.getD .skip) l
end Go.Ws

namespace Go.Ws
set_option linter.unusedVariables false
set_option linter.unusedSimpArgs false

section
variable {P:Program}

def m7 (w:World) (r:Nat) (o:Obj):World:={ w with heap:=w.heap.setIfInBounds r o }

theorem aJ8 {w:World} {r m since c0 clock:Nat} {seen:Array Nat} {es:Array MapEntry} (ty:TypeId) (hr:w.heap[r]? = some (.mapIter (some m) since seen c0)) (hb:w.heap[m]? = some (.map es clock))
 (hold:∀x∈es.toList,x.born<since) (hsc:since≤c0) :
 ((∀e∈es.toList,seen.contains e.born=true)∧(Instr.next (.pointer (some ⟨r,0,none⟩)) false ty).run P w = .ok (.tuple #[.bool false]) w) ∨
 ∃e∈es.toList,seen.contains e.born=false∧∃w0:World,(w0=w∨w0=w.drew) ∧
  (Instr.next (.pointer (some ⟨r,0,none⟩)) false ty).run P w = .ok (.tuple #[.bool true,e.key,e.val]) (m7 w0 r (.mapIter (some m) since (seen.push e.born) clock)):=by
 simp only[Instr.next,getObj,Sem.run_bind,Sem.run,hr,hb,Result.andThen,next_test_false seen es since c0 hold hsc,Bool.false_eq_true,if_false]
 have hmem:∀x∈(Array.filter (fun e=>!seen.contains e.born) es).toList,x.born<since∧x∈es.toList∧seen.contains x.born=false:=fun x hx=>by
  simp at hx
  exact⟨hold x (by simpa using hx.1),by simpa using hx.1,by simpa using hx.2⟩
 have hall:(Array.filter (fun e=>!seen.contains e.born) es) = #[]→∀e∈es.toList,seen.contains e.born=true:=fun h e he=>by
  rw[Array.filter_eq_empty_iff] at h
  have:=h e (by simpa using he)
  simpa using this
 generalize Array.filter (fun e=>!seen.contains e.born) es=L at hmem hall ⊢
 have e1:L.filter (fun x=>decide (x.born<since))=L:=Array.filter_eq_self.2 (fun x hx=>by simpa using (hmem x (by simpa using hx)).1)
 have e2:L.filter (fun x=>decide (x.born≥since)) = #[]:=by
  rw[Array.filter_eq_empty_iff]
  intro x hx
  have:=(hmem x (by simpa using hx)).1
  simp
  omega
 simp only[e1,e2,Array.append_empty]
 by_cases h0:L.size=0
 · left
   have:L = #[]:=Array.eq_empty_of_size_eq_zero h0
   refine⟨hall this,?_⟩
   subst this
   simp [choose,Sem.run,Question.forced]
 · right
   have hne:L.isEmpty=false:=by simp [Array.isEmpty,h0]
   simp only[hne,Bool.false_eq_true,if_false,Array.empty_append,Array.size_map]
   have hch:∃(j:Nat) (w1:World),j<L.size∧(w1=w∨w1=w.drew)∧(choose (Question.mapNext L.size)).run P w = .ok j w1:=by
    by_cases hf:L.size≤1
    · exact⟨0,w,by omega,.inl rfl,by simp [choose,Sem.run,Question.forced,hf]⟩
    · exact⟨_,w.drew,Nat.mod_lt _ (by omega),.inr rfl,by
       simp only[choose,Sem.run,Question.forced,decide_eq_true_eq,hf,if_false,Question.cut]
       rfl⟩
   obtain⟨j,w1,hj,hal,hrun⟩:=hch
   have hin:L[j]∈L.toList:=by simp
   refine⟨L[j],(hmem _ hin).2.1,(hmem _ hin).2.2,w1,hal,?_⟩
   have hr1:w1.heap[r]? = some (.mapIter (some m) since seen c0):=by rcases hal with rfl | rfl<;>exact hr
   have hset:∀(o':Obj),(setObj r o').run P w1 = .ok () (m7 w1 r o'):=fun o'=>by
    simp only[setObj,Sem.run,hr1]
    rfl
   simp only[hrun,Array.getElem?_map,Array.getElem?_eq_getElem hj,Option.map_some,Sem.run_bind,hset,Result.andThen]
   rfl

theorem iter_nil {w:World} {r a b:Nat} {s:Array Nat} (ty:TypeId) (hr:w.heap[r]? = some (.mapIter none a s b)):(Instr.next (.pointer (some ⟨r,0,none⟩)) false ty).run P w = .ok (.tuple #[.bool false]) w:=by
 simp only[Instr.next,getObj,Sem.run_bind,Sem.run,hr,Result.andThen]
 rfl

theorem aHK {w:World} {r m since clock:Nat} {seen:Array Nat} {es:Array MapEntry} {e:MapEntry} (hr:w.heap[r]? = some (.mapIter (some m) since (seen.push e.born) clock)) (hb:w.heap[m]? = some (.map es clock))
 (he:e∈es.toList) (hn:(es.toList.map (·.born)).Nodup):(Instr.entry (.pointer (some ⟨r,0,none⟩))).run P w = .ok (.tuple #[e.key,e.val]) w:=by
 have hf:es.find? (·.born == e.born)=some e:=by rw[← Array.find?_toList];exact find_born e es.toList hn he
 simp only[Instr.entry,getObj,Sem.run_bind,Sem.run,hr,hb,Result.andThen,Array.back?_push,bne_self_eq_false,Bool.false_eq_true,if_false,hf]
 rfl

def mB (σ:Sig) (π:bE) (w:World) (t:List AV) (h:List Blk) (K:Sig→bE→World→Prop) (r:Nat) (o:Obj) (a:Act) (w1:World):Prop :=
 a.defers=[]∧∃σ1 π1,VRs σ1 π1 w1 t a.tmps∧Done σ π w σ1 π1 w1 (h[·]?)∧w.heap.size≤r∧(∀b g l,σ1 b g=some l→l.blk≠r)∧w1.heap[r]? = some o∧((∀C e f,o ≠ .cells C e f)∧∀C k,o ≠ .map C k)∧K σ1 π1 w1

def Kp (K:Sig→bE→World→Prop):Prop:=∀σ1 π1 w1 σ2 π2 w2,Ext σ1 π1 w1 σ2 π2 w2→K σ1 π1 w1→K σ2 π2 w2

variable {σ:Sig} {π:bE} {w w1:World} {t:List AV} {h:List Blk} {K:Sig→bE→World→Prop} {r:Nat} {o:Obj} {a:Act}

theorem mB.now (N:mB σ π w t h K r o a w1):Now σ π w t (h[·]?) a w1:=by
 obtain⟨hd,σ1,π1,ht,D,_⟩:=N
 exact⟨hd,σ1,π1,ht,D⟩

theorem aBH (w0:World) (r:Nat) (o:Obj) {B:Nat} (h:B≠r):(m7 w0 r o).heap[B]? = w0.heap[B]?:=by
 simp only[m7]
 rw[Array.getElem?_setIfInBounds_ne (fun e=>h e.symm)]

theorem mB.turn (hK:Kp K) (N:mB σ π w t h K r o a w1) {w0:World} (h0:w0=w1∨w0=w1.drew) {o':Obj} (ho':(∀C e f,o' ≠ .cells C e f)∧∀C k,o' ≠ .map C k):mB σ π w t h K r o' a (m7 w0 r o'):=by
 obtain⟨hd,σ1,π1,ht,D,hr,hne,ho,hoc,hbl⟩:=N
 have hh:w0.heap=w1.heap:=by rcases h0 with rfl | rfl<;>rfl
 have hos:w0.os=w1.os:=by rcases h0 with rfl | rfl<;>rfl
 have htp:w0.tape=w1.tape:=by rcases h0 with rfl | rfl<;>rfl
 have hou:w0.output=w1.output:=by rcases h0 with rfl | rfl<;>rfl
 have hlt:r<w1.heap.size:=sX ho
 have hsame:∀B,B≠r→(m7 w0 r o').heap[B]? = w1.heap[B]?:=fun B hB=>by rw[aBH _ _ _ hB,hh]
 have hnew:(m7 w0 r o').heap[r]? = some o':=by simp only[m7];rw[hh,Array.getElem?_setIfInBounds_self_of_lt hlt]
 have hsz:(m7 w0 r o').heap.size=w1.heap.size:=by simp [m7,hh]
 have hcell:∀B k,(m7 w0 r o').cell? ⟨B,k,none⟩=w1.cell? ⟨B,k,none⟩:=fun B k=>by
  by_cases hB:B=r
  · subst hB
    simp only[World.cell?,hnew,ho]
    cases o<;>cases o'<;>first|rfl | exact absurd rfl (hoc.1 _ _ _)|exact absurd rfl (ho'.1 _ _ _)
  · exact iO (hsame B hB)
 have E:Ext σ1 π1 w1 σ1 π1 (m7 w0 r o'):=⟨fun _ _ _ h=>h,fun _ _ h=>h,fun B k _=>hcell B k,fun b g l C e fr hl hC=>⟨C,fr,(hsame _ (hne b g l hl)).trans hC,rfl⟩,fun B k C c _ hC=>(hsame B (fun e=>by rw[e,ho] at hC;exact hoc.2 C c (Option.some.inj hC))).trans hC⟩
 refine⟨hd,σ1,π1,ht.mono E,⟨D.ext.trans E,⟨by rw[hsz];exact D.frm.size,hos.trans D.frm.os,htp.trans D.frm.tape,hou.trans D.frm.output,fun B hB hn=>(hsame B (by omega)).trans (D.frm.same B hB hn),D.frm.own,D.frm.pro⟩,
  ⟨fun b x hx=>(D.rel.blk b x hx).mono E (fun _=>rfl) (fun g l hl=>hsame _ (hne b g l hl)) (fun _ _ _ _ h=>h),D.rel.non,D.rel.inj,fun b g l hl=>by rw[hsz];exact D.rel.lt b g l hl,fun B k hp=>by rw[hsz];exact D.rel.prot B k hp⟩⟩,hr,hne,hnew,ho',hK _ _ _ _ _ _ E hbl⟩

theorem VRs.put {σ1:Sig} {π1:bE} {tmps:Array Value} (ht:VRs σ1 π1 w1 t tmps) (d:Nat) {v:AV} {u:Value} (hv:VR σ1 π1 w1 v u):VRs σ1 π1 w1 (t.set d v) (tmps.setIfInBounds d u):=by
 refine⟨by simp [ht.1],fun i x y hx hy=>?_⟩
 by_cases e:d=i
 · subst e
   have hlt:d<t.length:=by
    have:=(List.getElem?_eq_some_iff.1 hx).1
    simpa using this
   rw[List.getElem?_set_self hlt] at hx
   rw[Array.getElem?_setIfInBounds_self_of_lt (by rw[ht.1];exact hlt)] at hy
   cases hx;cases hy
   exact hv
 · rw[List.getElem?_set_ne e] at hx
   rw[Array.getElem?_setIfInBounds_ne e] at hy
   exact ht.2 i x y hx hy

def rX (t' t:List AV):Prop:=t'.length=t.length∧∀(i:Nat) v,t'[i]? = some v→v = .any∨t[i]? = some v

theorem VRs.less {σ1:Sig} {π1:bE} {tmps:Array Value} {t':List AV} (ht:VRs σ1 π1 w1 t tmps) (hl:rX t' t):VRs σ1 π1 w1 t' tmps:=by
 refine⟨by rw[ht.1,hl.1],fun i v u hv hu=>?_⟩
 rcases hl.2 i v hv with rfl | h
 · exact .any _
 · exact ht.2 i v u h hu

theorem mB.less {t':List AV} (N:mB σ π w t h K r o a w1) (hl:rX t' t):mB σ π w t' h K r o a w1:=by
 obtain⟨hd,σ1,π1,ht,D,q⟩:=N
 exact⟨hd,σ1,π1,ht.less hl,D,q⟩

theorem Now.less {t':List AV} {hf:Nat→Option Blk} (N:Now σ π w t hf a w1) (hl:rX t' t):Now σ π w t' hf a w1:=by
 obtain⟨hd,σ1,π1,ht,D⟩:=N
 exact⟨hd,σ1,π1,ht.less hl,D⟩

theorem mB.text (hK:Kp K) (N:mB σ π w t h K r o a w1) {fn:Func} {frz:Bool} {c:Code} {y:AX} {s:St} {Q:Exit→Act→World→Prop} (hT:Tc P ⟨fn,h,frz⟩ c ⟨t,h⟩ (.st y s))
 (hQ:∀a' w',mB σ π w s.t s.h K r o a' w'→Q y.out' a' w'):c.wp P Q a w1:=by
 obtain⟨hd,σ1,π1,ht,D,hr,hne,ho,hoc,hbl⟩:=N
 have hlt:r<w1.heap.size:=sX ho
 refine hT σ1 π1 w1 a w1 Q D.rel ⟨hd,σ1,π1,ht,.refl D.rel⟩ fun e a' w' hp=>?_
 obtain⟨rfl,hd',σ2,π2,ht2,D2⟩:=hp
 refine hQ _ _ ⟨hd',σ2,π2,ht2,D.trans D2,hr,fun b g l hl=>?_,(D2.frm.same r hlt hne).trans ho,hoc,hK _ _ _ _ _ _ D2.ext hbl⟩
 rcases D2.frm.own b g l hl with h1 | ⟨b0,g0,l0,h1,h2⟩
 · omega
 · rw[← h2];exact hne b0 g0 l0 h1

theorem mB.fin {x0:List Blk} (N:mB σ π w t h K r o a w1) (R:Rel σ π w (x0[·]?)) {fn:Func} {frz:Bool} {c:Code} {v:AV} {h':List Blk} {Q:Exit→Act→World→Prop} (hT:Tc P ⟨fn,h,frz⟩ c ⟨t,h⟩ (.fin v h'))
 {x:Ctx} (hx:x.fn=fn) (hx0:x.h0=x0) (hv:v.refs=[]) (hb:∀b∈h'.take x0.length,b.refs=[]) (hlen:x0.length≤h'.length)
 (hQ:∀a' w',xM P x (.fin v (h'.take x0.length)) σ π w .ret a' w'→Q .ret a' w'):c.wp P Q a w1:=by
 obtain⟨hd,σ1,π1,ht,D,hr,hne,ho,hoc,hbl⟩:=N
 refine hT σ1 π1 w1 a w1 Q D.rel ⟨hd,σ1,π1,ht,.refl D.rel⟩ fun e a' w' hp=>?_
 obtain⟨rfl,hd',u,hu,hle,u',σ2,π2,hue,hvu,D2⟩:=hp
 subst hx
 refine hQ _ _ ⟨rfl,hd',u,hu,by rw[hx0,List.length_take];omega,u',fun b g=>if b<x0.length then σ2 b g else none,π2,hue,hvu.flat_any hv _,?_⟩
 have D3:=D.trans D2
 have hsig:∀b g l,(if b<x0.length then σ2 b g else none)=some l→b<x0.length∧σ2 b g=some l:=fun b g l hl=>by
  split at hl
  · rename_i hb;exact⟨hb,hl⟩
  · cases hl
 refine⟨⟨fun b g l hl=>?_,D3.ext.prot,D3.ext.cell,D3.ext.size,D3.ext.mapc⟩,⟨D3.frm.size,D3.frm.os,D3.frm.tape,D3.frm.output,D3.frm.same,fun b g l hl=>D3.frm.own b g l (hsig b g l hl).2,D3.frm.pro⟩,
  ⟨fun b y hy=>?_,fun b hb g=>?_,fun b g b' g' l l' hl hl' he=>D3.rel.inj b g b' g' l l' (hsig _ _ _ hl).2 (hsig _ _ _ hl').2 he,fun b g l hl=>D3.rel.lt b g l (hsig _ _ _ hl).2,D3.rel.prot⟩⟩
 · have hbl:b<x0.length:=by
    rcases Nat.lt_or_ge b x0.length with h | h
    · exact h
    · have:=R.non b (List.getElem?_eq_none h) g
      rw[this] at hl;cases hl
   rw[if_pos hbl]
   exact D3.ext.sig b g l hl
 · have hbl:b<x0.length:=by
    have:=(List.getElem?_eq_some_iff.1 hy).1
    rw[List.length_take] at this
    omega
   have hy':h'[b]? = some y:=by
    rw[List.getElem?_take] at hy
    rwa [if_pos hbl] at hy
   have hre:=hb y (List.mem_of_getElem? hy)
   have:=(D3.rel.blk b y hy').ren (ρ:=id) (b':=b) (σ':=fun b g=>if b<x0.length then σ2 b g else none) (fun g=>by simp only[if_pos hbl]) (fun c hc=>by rw[hre] at hc;cases hc)
   cases y with
   | row c=>rw[show Blk.ren id (.row c) = .row (AV.renL id c) from rfl,renL_id id c hre] at this;exact this
   | arr _ _ _ _ _=>exact this
   | map _ _=>exact this
   | none=>exact this
 · split
   · rename_i hbl
     rw[List.getElem?_take,if_pos hbl] at hb
     exact D3.rel.non b hb g
   · rfl

theorem aKD:∀d,t7 P ((fun _ _ _ _=>none:Option Nat→jD) d):=fun _ _ _ _ _ _ h=>nomatch h
abbrev nR:Option Nat→jD:=fun _ _ _ _=>none
abbrev qM:Option Nat→CC:=fun _=>⟨false,[]⟩

theorem mB.ops (hK:Kp K) {ops:Array Oper} {l:List Oper} {i:Nat} {s:St} {Q:Exit→Act→World→Prop} (hl:ops.toList.drop i=l) (hr:iT (cT P) nR qM ops.toList l ⟨t,h⟩=some s) (N:mB σ π w t h K r o a w1)
 (hQ:∀a' w',mB σ π w s.t s.h K r o a' w'→Q .normal a' w'):wpOps P ops Q (List.range' i l.length) a w1:=by
 obtain⟨hd,σ1,π1,ht,D,hr',hne,ho,hoc,hbl⟩:=N
 have hlt:r<w1.heap.size:=sX ho
 refine aBB (σ:=σ1) (π:=π1) (w:=w1) aKD l i ⟨t,h⟩ s a w1 hl hr ⟨hd,σ1,π1,ht,.refl D.rel⟩ fun a' w' N'=>?_
 obtain⟨hd',σ2,π2,ht2,D2⟩:=N'
 refine hQ _ _ ⟨hd',σ2,π2,ht2,D.trans D2,hr',fun b g l hl=>?_,(D2.frm.same r hlt hne).trans ho,hoc,hK _ _ _ _ _ _ D2.ext hbl⟩
 rcases D2.frm.own b g l hl with h1 | ⟨b0,g0,l0,h1,h2⟩
 · omega
 · rw[← h2];exact hne b0 g0 l0 h1

theorem mB.put (N:mB σ π w t h K r o a w1) (d:Nat) {v:AV} {u:Value} (hv:∀σ1 π1,VRs σ1 π1 w1 t a.tmps→Rel σ1 π1 w1 (h[·]?)→VR σ1 π1 w1 v u):mB σ π w (t.set d v) h K r o (a.put (some d) u) w1:=by
 obtain⟨hd,σ1,π1,ht,D,q⟩:=N
 exact⟨hd,σ1,π1,ht.put d (hv σ1 π1 ht D.rel),D,q⟩

theorem aE5 (ρ:Operand→Value) (d:Option Nat) (x:Operand) (b:Bool) (ty:Nat) (pos) (af) (gd):execOp ρ ⟨d,.next x b,ty,pos,af,gd⟩=(do pure (.value (← Instr.next (ρ x) b ty))):=by
 unfold execOp
 rfl
theorem ex_entry (ρ:Operand→Value) (d:Option Nat) (x:Operand) (ty:Nat) (pos) (af) (gd):execOp ρ ⟨d,.entry x,ty,pos,af,gd⟩=(do pure (.value (← Instr.entry (ρ x)))):=by
 unfold execOp
 rfl
theorem aCJ (ρ:Operand→Value) (d:Option Nat) (x:Operand) (t ty:Nat) (pos) (af) (gd):execOp ρ ⟨d,.range t x,ty,pos,af,gd⟩=(do pure (.value (← Instr.range t (ρ x)))):=by
 unfold execOp
 rfl

theorem nP {ops:Array Oper} {i:Nat} {rest:List Nat} {o:Oper} {d:Nat} {u:Value} {w2:World} {Q:Exit→Act→World→Prop} (ho:ops[i]? = some o) (hg:o.guard=none) (hd:o.dst=some d)
 (hr:(execOp a.eval o).run P w1 = .ok (.value u) w2) (hK:wpOps P ops Q rest (a.put (some d) u) w2):wpOps P ops Q (i::rest) a w1:=by
 simp only[wpOps,ho]
 rw[if_pos (by simp [Region.wanted,hg])]
 left
 unfold Oper.wp
 rw[hr,Oper.upon_value,hd]
 exact hK

def aCP (es:List (AV × AV × Nat)) (D:List Nat):List (AV × AV × Nat):=es.filter fun e=>!D.contains e.2.2

theorem rem_lt {es:List (AV × AV × Nat)} {D:List Nat} {e:AV × AV × Nat} (he:e∈es) (hD:D.contains e.2.2=false):(aCP es (e.2.2::D)).length<(aCP es D).length:=by
 have h1:aCP es (e.2.2::D)=(aCP es D).filter fun x=>!(x.2.2 == e.2.2):=by
  unfold aCP
  rw[List.filter_filter]
  congr 1
  funext x
  rw[List.contains_cons,Bool.not_or]
 rw[h1]
 refine List.length_filter_lt_length_iff_exists.2 ⟨e,?_,by simp⟩
 unfold aCP
 rw[List.mem_filter]
 exact⟨he,by rw[hD];rfl⟩

theorem rC {t:List AV} {d:Nat} (h:t[d]? = some .any) (v:AV) {t':List AV} (hl:rX t t'):rX t (t'.set d v):=by
 refine⟨by rw[List.length_set];exact hl.1,fun i x hx=>?_⟩
 by_cases e:d=i
 · subst e
   rw[h] at hx;cases hx
   exact .inl rfl
 · rw[List.getElem?_set_ne e]
   exact hl.2 i x hx

theorem rX.refl (t:List AV):rX t t:=⟨rfl,fun i v h=>.inr h⟩

section
variable {x:Ctx} {es:List (AV × AV × Nat)} {cl b M:Nat} {l:Loc} {d2 d3 d4 d5 bB cB i2 i3 ty3 ty4 ty5:Nat} {p3 p4 p5:String} {af3 af4 af5:Array Edge} {l3:List Oper} {REST:Code}

def aGG (d2 d3 d4 d5 bB cB i2 i3 ty3 ty4 ty5:Nat) (p3 p4 p5:String) (af3 af4 af5:Array Edge) (l3:List Oper) (REST:Code):Code :=
 .seq (.region i2 #[⟨some d3,.next (.tmp d2) false,ty3,p3,af3,none⟩,⟨some d4,.extract (.tmp d3) 0,ty4,p4,af4,none⟩] false)
  (.seq (.cond (.tmp d4) .skip (.exit bB)) (.block cB (.seq (.region i3 (⟨some d5,.entry (.tmp d2),ty5,p5,af5,none⟩::l3).toArray false) REST)))

theorem mV {t:List AV} {d:Nat} {v:AV} (h:d<t.length):evA (t.set d v) (.tmp d)=some v:=by
 simp [evA,h]
theorem evA_ne {t:List AV} {d e:Nat} {v:AV} (h:d≠e):evA (t.set d v) (.tmp e)=evA t (.tmp e):=by
 simp [evA,List.getElem?_set_ne h]

theorem sV {ops:List Oper} {t:List AV} {h:List Blk} {d3 d4 ty:Nat} {pos:String} {af:Array Edge} {l:List AV} {v:AV} (h3:evA t (.tmp d3)=some (.tup (v::l))) :
 iT (cT P) nR qM ops [⟨some d4,.extract (.tmp d3) 0,ty,pos,af,none⟩] ⟨t,h⟩=some ⟨t.set d4 v,h⟩:=by
 simp [iT,oZ,lF,aop,h3,AM.val,AM.run,St.after,zY,upd,upOk]

theorem sP {t:List AV} {d:Nat} {v:AV} (h:t[d]? = some v):d<t.length:=(List.getElem?_eq_some_iff.1 h).1

def Lies (es:List (AV × AV × Nat)) (cl M:Nat) (σ1:Sig) (π1:bE) (w1:World):Prop :=
 ∃C:Array MapEntry,w1.heap[M]? = some (.map C cl)∧(∀x∈C.toList,x.born<cl)∧(C.toList.map (·.born)).Nodup ∧
  (∀e∈C.toList,∃k v,(k,v,e.born)∈es∧VR σ1 π1 w1 k e.key∧VR σ1 π1 w1 v e.val)∧(∀k v n,(k,v,n)∈es→∃e∈C.toList,e.born=n)

theorem map_at {σ1:Sig} {π1:bE} (R:Rel σ1 π1 w1 (h[·]?)) (hb:h[b]? = some (.map es cl)) (hl:σ1 b 0=some l) (hn:(es.map (·.2.2)).Nodup) (hc:∀e∈es,e.2.2<cl) :
 ∃C:Array MapEntry,w1.heap[l.blk]? = some (.map C cl)∧(∀x∈C.toList,x.born<cl)∧(C.toList.map (·.born)).Nodup ∧
  (∀e∈C.toList,∃k v,(k,v,e.born)∈es∧VR σ1 π1 w1 k e.key∧VR σ1 π1 w1 v e.val)∧(∀k v n,(k,v,n)∈es→∃e∈C.toList,e.born=n):=by
 obtain⟨l',C,q1,q2,q3,q4,q5⟩:=R.blk b _ hb
 rw[hl] at q1
 cases q1
 have hget:∀(i:Nat) (e:MapEntry),C[i]? = some e→∃k v,es[i]? = some (k,v,e.born)∧VR σ1 π1 w1 k e.key∧VR σ1 π1 w1 v e.val:=fun i e he=>by
  have hlt:i<es.length:=by
   have:=(Array.getElem?_eq_some_iff.1 he).1
   omega
  obtain⟨a1,a2,a3,_⟩:=q5 i es[i].1 es[i].2.1 es[i].2.2 e (List.getElem?_eq_getElem hlt) he
  exact⟨es[i].1,es[i].2.1,by rw[a3];exact List.getElem?_eq_getElem hlt,a1,a2⟩
 have hmap:C.toList.map (·.born)=es.map (·.2.2):=by
  apply List.ext_getElem?
  intro i
  rw[List.getElem?_map,List.getElem?_map,Array.getElem?_toList]
  cases he:C[i]? with
  | none =>
   have:es.length≤i:=by
    rw[Array.getElem?_eq_none_iff] at he
    omega
   rw[List.getElem?_eq_none this];rfl
  | some e =>
   obtain⟨k,v,h1,_⟩:=hget i e he
   rw[h1];rfl
 refine⟨C,q2,fun x hx=>?_,by rw[hmap];exact hn,fun e he=>?_,fun k v n hm=>?_⟩
 · have:x.born∈es.map (·.2.2):=by rw[← hmap];exact List.mem_map.2 ⟨x,hx,rfl⟩
   obtain⟨e,he,hx'⟩:=List.mem_map.1 this
   rw[← hx']
   exact hc e he
 · obtain⟨i,hi⟩:=List.mem_iff_getElem?.1 he
   obtain⟨k,v,h1,h2,h3⟩:=hget i e (by rw[Array.getElem?_toList] at hi;exact hi)
   exact⟨k,v,List.mem_of_getElem? h1,h2,h3⟩
 · have:n∈C.toList.map (·.born):=by rw[hmap];exact List.mem_map.2 ⟨_,hm,rfl⟩
   obtain⟨e,he,hx⟩:=List.mem_map.1 this
   exact⟨e,he,hx⟩

def uL (es:List (AV × AV × Nat)) (cl:Nat):AV:=.fm (es.map (·.1)) (es.map (·.2.1)) (es.map (·.2.2)) cl
theorem fm_at {σ1:Sig} {π1:bE} {es:List (AV × AV × Nat)} {cl M:Nat} (hv:VR σ1 π1 w1 (uL es cl) (.map (some M))) (hn:(es.map (·.2.2)).Nodup) (hc:∀e∈es,e.2.2<cl):Lies es cl M σ1 π1 w1:=by
 unfold uL at hv
 cases hv with
 | fm _ _ _ _ _ C hw hp h1 h2 h3 hk hv hb hr =>
  rw[List.length_map] at h1
  have hget:∀(i:Nat) (e:MapEntry),C[i]? = some e→∃k v,es[i]? = some (k,v,e.born)∧VR σ1 π1 w1 k e.key∧VR σ1 π1 w1 v e.val:=fun i e he=>by
   have hlt:i<es.length:=by
    have:=(Array.getElem?_eq_some_iff.1 he).1
    omega
   have hg:es[i]? = some es[i]:=List.getElem?_eq_getElem hlt
   have a3:=hb i es[i].2.2 e (by rw[List.getElem?_map,hg];rfl) he
   exact⟨es[i].1,es[i].2.1,by rw[a3];exact hg,hk i _ e (by rw[List.getElem?_map,hg];rfl) he,hv i _ e (by rw[List.getElem?_map,hg];rfl) he⟩
  have hmap:C.toList.map (·.born)=es.map (·.2.2):=by
   apply List.ext_getElem?
   intro i
   rw[List.getElem?_map,List.getElem?_map,Array.getElem?_toList]
   cases he:C[i]? with
   | none =>
    have:es.length≤i:=by
     rw[Array.getElem?_eq_none_iff] at he
     omega
    rw[List.getElem?_eq_none this];rfl
   | some e =>
    obtain⟨k,v,h1,_⟩:=hget i e he
    rw[h1];rfl
  refine⟨C,hw,fun x hx=>?_,by rw[hmap];exact hn,fun e he=>?_,fun k v n hm=>?_⟩
  · have:x.born∈es.map (·.2.2):=by rw[← hmap];exact List.mem_map.2 ⟨x,hx,rfl⟩
    obtain⟨e,he,hx'⟩:=List.mem_map.1 this
    rw[← hx']
    exact hc e he
  · obtain⟨i,hi⟩:=List.mem_iff_getElem?.1 he
    obtain⟨k,v,h1,h2,h3⟩:=hget i e (by rw[Array.getElem?_toList] at hi;exact hi)
    exact⟨k,v,List.mem_of_getElem? h1,h2,h3⟩
  · have:n∈C.toList.map (·.born):=by rw[hmap];exact List.mem_map.2 ⟨_,hm,rfl⟩
    obtain⟨e,he,hx⟩:=List.mem_map.1 this
    exact⟨e,he,hx⟩

set_option maxHeartbeats 1000000 in
theorem xL {J:List Nat→List AV→List Blk→Prop} {F:AV→List Blk→Prop} {Q:Exit→Act→World→Prop} (R:Rel σ π w (x.h0[·]?)) (hn:(es.map (·.2.2)).Nodup) (hK:Kp K)
 (hcont:∀D t h (σ1:Sig) (π1:bE) (w1:World),J D t h→Rel σ1 π1 w1 (h[·]?)→K σ1 π1 w1→Lies es cl M σ1 π1 w1)
 (h23:d2≠d3) (h24:d2≠d4) (h34:d3≠d4)
 (hJ:∀D t h,J D t h→(t[d2]? = some .any∧t[d3]? = some .any∧t[d4]? = some .any∧t[d5]? = some .any))
 (hstep:∀D t h p k v n,J D t h→(k,v,n)∈es→D.contains n=false →
  ∃st7,iT (cT P) nR qM (⟨some d5,.entry (.tmp d2),ty5,p5,af5,none⟩::l3) l3 ⟨((((t.set d2 (.raw p)).set d3 (.tup [.bool true,k,v])).set d4 (.bool true)).set d5 (.tup [k,v])),h⟩=some st7 ∧
   ((∃y s' t',Tc P ⟨x.fn,st7.h,x.frz⟩ REST st7 (.st y s')∧(y = .normal∨y = .exit cB)∧rX (t'.set d2 (.raw p)) s'.t∧J (n::D) t' s'.h) ∨
    (∃v h',Tc P ⟨x.fn,st7.h,x.frz⟩ REST st7 (.fin v h')∧v.refs=[]∧(∀b∈h'.take x.h0.length,b.refs=[])∧x.h0.length≤h'.length∧F v (h'.take x.h0.length))))
 (hend:∀D t h a' w',J D t h→(∀e∈es,D.contains e.2.2=true)→Now σ π w t (h[·]?) a' w'→Q (.exit bB) a' w')
 (hret:∀v h' a' w',F v h'→xM P x (.fin v h') σ π w .ret a' w'→Q .ret a' w') :
 ∀(n:Nat) (D:List Nat) (t:List AV) (h:List Blk) (seen:Array Nat) (a:Act) (w1:World),(aCP es D).length<n→J D t h→(∀k,seen.contains k=D.contains k) →
  mB σ π w (t.set d2 (.raw ⟨r,0,none⟩)) h K r (.mapIter (some M) cl seen cl) a w1 →
  Code.rounds P (aGG d2 d3 d4 d5 bB cB i2 i3 ty3 ty4 ty5 p3 p4 p5 af3 af4 af5 l3 REST) Q n a w1:=by
 intro n
 induction n with
 | zero=>intro D t h seen a w1 hlt;omega
 | succ n ih =>
  intro D t h seen a w1 hlt hj hs N
  obtain⟨j2,j3,j4,j5⟩:=hJ D t h hj
  have l2:=sP j2
  have l3':=sP j3
  have l4:=sP j4
  have l5:=sP j5
  have hev:a.eval (.tmp d2) = .pointer (some ⟨r,0,none⟩):=by
   obtain⟨_,σ1,π1,ht,_⟩:=N
   have:=dH ht (x:=.tmp d2) (mV (v:=.raw ⟨r,0,none⟩) l2)
   generalize a.eval (.tmp d2)=u at this
   cases this
   rfl
  have N0:=N
  obtain⟨_,σ1,π1,ht,D1,hr,hne,ho,hoc,hbl⟩:=N0
  obtain⟨C,c1,c2,c3,c4,c5⟩:=hcont D t h _ _ _ hj D1.rel hbl
  have hMr:M≠r:=fun e=>by rw[e,ho] at c1;cases c1
  rw[rounds_succ]
  unfold aGG
  refine wp_seq (wp_region ?_)
  show wpOps P _ _ [0,1] a w1
  rcases aJ8 (P:=P) ty3 ho c1 c2 (Nat.le_refl _) with⟨hall,hrun⟩ | ⟨e,he,hseen,w0,hw0,hrun⟩
  · -- nothing is left
    refine nP (o:=⟨some d3,.next (.tmp d2) false,ty3,p3,af3,none⟩) rfl rfl rfl (by rw[aE5,hev];exact gL hrun) ?_
    have N1:=N.put d3 (v:=.tup [.bool false]) (u:=.tuple #[.bool false]) (fun σ1 π1 _ _=>.tup _ _ rfl fun i v u hv hu=>by
     match i,hv,hu with
     | 0,hv,hu=>cases hv;cases hu;exact .bool _)
    refine mB.ops hK (i:=1) (l:=[⟨some d4,.extract (.tmp d3) 0,ty4,p4,af4,none⟩]) rfl (sV (mV (by rw[List.length_set];exact l3'))) N1 fun a' w' N2=>?_
    show Code.wp P _ _ a' w'
    refine wp_seq (wp_cond_false ?_ (wp_exit ?_))
    · obtain⟨_,σ2,π2,ht2,_⟩:=N2
      have:=dH ht2 (x:=.tmp d4) (mV (v:=.bool false) (by simp;exact l4))
      generalize a'.eval (.tmp d4)=u at this
      cases this
      rfl
    · refine hend D t h a' w' hj (fun e he=>?_) (N2.now.less (rC j4 _ (rC j3 _ (rC j2 _ (rX.refl t)))))
      obtain⟨e',he',hbn⟩:=c5 e.1 e.2.1 e.2.2 he
      rw[← hs,← hbn]
      exact hall e' he'
  · -- an entry
    obtain⟨k,v,hmem,_,_⟩:=c4 e he
    refine nP (o:=⟨some d3,.next (.tmp d2) false,ty3,p3,af3,none⟩) rfl rfl rfl (by rw[aE5,hev];exact gL hrun) ?_
    have Nt:=N.turn hK hw0 (o':=.mapIter (some M) cl (seen.push e.born) cl) ⟨fun _ _ _ h=>(nomatch h),fun _ _ h=>(nomatch h)⟩
    have hC:(m7 w0 r (.mapIter (some M) cl (seen.push e.born) cl)).heap[M]? = some (.map C cl):=by
     rw[aBH _ _ _ hMr]
     rcases hw0 with rfl | rfl<;>exact c1
    have hkv:∀σ1 π1,Rel σ1 π1 (m7 w0 r (.mapIter (some M) cl (seen.push e.born) cl)) (h[·]?)→K σ1 π1 (m7 w0 r (.mapIter (some M) cl (seen.push e.born) cl))→VR σ1 π1 (m7 w0 r (.mapIter (some M) cl (seen.push e.born) cl)) k e.key∧VR σ1 π1 (m7 w0 r (.mapIter (some M) cl (seen.push e.born) cl)) v e.val:=fun σ1 π1 R1 hl1=>by
     obtain⟨C',k1,k2,k3,k4,k5⟩:=hcont D t h _ _ _ hj R1 hl1
     rw[hC] at k1
     cases k1
     obtain⟨k',v',hm',hk',hv'⟩:=k4 e he
     have:(k',v',e.born)=(k,v,e.born):=by
      obtain⟨i,hi⟩:=List.mem_iff_getElem?.1 hm'
      obtain⟨j,hj⟩:=List.mem_iff_getElem?.1 hmem
      have hi':(es.map (·.2.2))[i]? = some e.born:=by rw[List.getElem?_map,hi];rfl
      have hj':(es.map (·.2.2))[j]? = some e.born:=by rw[List.getElem?_map,hj];rfl
      have hij:i=j:=by
       have hil:=(List.getElem?_eq_some_iff.1 hi').1
       exact(List.getElem?_inj hil hn).1 (hi'.trans hj'.symm)
      subst hij
      rw[hi] at hj
      exact Option.some.inj hj
     cases this
     exact⟨hk',hv'⟩
    have N1:mB σ π w ((t.set d2 (.raw ⟨r,0,none⟩)).set d3 (.tup [.bool true,k,v])) h K r (.mapIter (some M) cl (seen.push e.born) cl) (a.put (some d3) (.tuple #[.bool true,e.key,e.val])) (m7 w0 r (.mapIter (some M) cl (seen.push e.born) cl)):=by
     obtain⟨hd,σ2,π2,ht2,D2,q1,q2,q3,q4,q5⟩:=Nt
     obtain⟨hk,hv⟩:=hkv σ2 π2 D2.rel q5
     refine⟨hd,σ2,π2,ht2.put d3 (.tup _ _ rfl fun i x u hx hu=>?_),D2,q1,q2,q3,q4,q5⟩
     match i,hx,hu with
     | 0,hx,hu=>cases hx;cases hu;exact .bool _
     | 1,hx,hu=>cases hx;cases hu;exact hk
     | 2,hx,hu=>cases hx;cases hu;exact hv
    refine mB.ops hK (i:=1) (l:=[⟨some d4,.extract (.tmp d3) 0,ty4,p4,af4,none⟩]) rfl (sV (mV (by rw[List.length_set];exact l3'))) N1 fun a' w' N2=>?_
    show Code.wp P _ _ a' w'
    refine wp_seq (wp_cond_true ?_ (wp_skip ?_))
    · obtain⟨_,σ2,π2,ht2,_⟩:=N2
      have:=dH ht2 (x:=.tmp d4) (mV (v:=.bool true) (by simp;exact l4))
      generalize a'.eval (.tmp d4)=u at this
      cases this
      rfl
    show Code.wp P _ _ a' w'
    refine wp_block (wp_seq (wp_region ?_))
    rw[List.size_toArray,List.length_cons,List.range_eq_range',List.range'_succ]
    obtain⟨hd2,σ2,π2,ht2,D2,q1,q2,q3,q4,q5⟩:=id N2
    have hev2:a'.eval (.tmp d2) = .pointer (some ⟨r,0,none⟩):=by
     have:=dH ht2 (x:=.tmp d2) (by rw[evA_ne (fun h=>h24 h.symm),evA_ne (fun h=>h23 h.symm)];exact mV (v:=.raw ⟨r,0,none⟩) l2)
     generalize a'.eval (.tmp d2)=u at this
     cases this
     rfl
    obtain⟨C',k1,k2,k3,k4,k5⟩:=hcont D t h _ _ _ hj D2.rel q5
    obtain⟨e',he',hbn⟩:=k5 k v e.born hmem
    obtain⟨k',v',hm',hk',hv'⟩:=k4 e' he'
    have hkv':k'=k∧v'=v:=by
     rw[hbn] at hm'
     obtain⟨i,hi⟩:=List.mem_iff_getElem?.1 hm'
     obtain⟨j,hj⟩:=List.mem_iff_getElem?.1 hmem
     have hi':(es.map (·.2.2))[i]? = some e.born:=by rw[List.getElem?_map,hi];rfl
     have hj':(es.map (·.2.2))[j]? = some e.born:=by rw[List.getElem?_map,hj];rfl
     have hij:i=j:=(List.getElem?_inj (List.getElem?_eq_some_iff.1 hi').1 hn).1 (hi'.trans hj'.symm)
     subst hij
     rw[hi] at hj
     have:=Option.some.inj hj
     cases this
     exact⟨rfl,rfl⟩
    obtain⟨rfl,rfl⟩:=hkv'
    have q3':=q3
    rw[← hbn] at q3'
    refine nP (o:=⟨some d5,.entry (.tmp d2),ty5,p5,af5,none⟩) rfl rfl rfl (by rw[ex_entry,hev2];exact gL (aHK q3' k1 he' k3)) ?_
    have N3:mB σ π w ((((t.set d2 (.raw ⟨r,0,none⟩)).set d3 (.tup [.bool true,k',v'])).set d4 (.bool true)).set d5 (.tup [k',v'])) h K r (.mapIter (some M) cl (seen.push e.born) cl) (a'.put (some d5) (.tuple #[e'.key,e'.val])) w':=by
     refine⟨hd2,σ2,π2,ht2.put d5 (.tup _ _ rfl fun i x u hx hu=>?_),D2,q1,q2,q3,q4,q5⟩
     match i,hx,hu with
     | 0,hx,hu=>cases hx;cases hu;exact hk'
     | 1,hx,hu=>cases hx;cases hu;exact hv'
    have hDn:D.contains e.born=false:=by rw[← hs];exact hseen
    obtain⟨st7,hr7,hcase⟩:=hstep D t h ⟨r,0,none⟩ k' v' e.born hj hmem hDn
    refine mB.ops hK (i:=1) (l:=l3) (by simp) hr7 N3 fun a3 w3 N4=>?_
    show Code.wp P _ _ a3 w3
    rcases hcase with⟨y,s',t',hT,hy,hless,hj'⟩ | ⟨v,h',hT,hv,hb,hlen,hF⟩
    · refine N4.text hK hT fun a4 w4 N5=>?_
      have hgo:Code.rounds P (aGG d2 d3 d4 d5 bB cB i2 i3 ty3 ty4 ty5 p3 p4 p5 af3 af4 af5 l3 REST) Q n a4 w4 :=
       ih (e.born::D) t' s'.h (seen.push e.born) a4 w4 (Nat.lt_of_lt_of_le (show (aCP es (e.born::D)).length<(aCP es D).length from rem_lt hmem hDn) (Nat.le_of_lt_succ hlt)) hj' (fun k=>by
        rw[List.contains_cons,← hs k]
        simp only[Array.contains_push]
        rw[Bool.or_comm]) (N5.less hless)
      rcases hy with rfl | rfl
      · exact hgo
      · simp only[AX.out',Exit.inBlock,if_true]
        exact hgo
    · refine N4.fin R hT rfl rfl hv hb hlen fun a4 w4 hp=>?_
      exact hret v _ a4 w4 hF hp

theorem aFJ (ρ:Operand→Value) (d:Option Nat) (x:Operand) (ty:Nat) (pos) (af) (gd):execOp ρ ⟨d,.move x,ty,pos,af,gd⟩=(do pure (.value (ρ x)):Sem Next):=by
 unfold execOp
 rfl

section
variable {i1 d1 s0 mt kt et ty1 ty2:Nat} {p1 p2:String} {af1 af2:Array Edge}

def wN (i1 d1 s0 mt ty1 ty2:Nat) (p1 p2:String) (af1 af2:Array Edge) (d2 d3 d4 d5 bB cB i2 i3 ty3 ty4 ty5:Nat) (p3 p4 p5:String) (af3 af4 af5:Array Edge) (l3:List Oper) (REST:Code):Code :=
 .seq (.region i1 #[⟨some d1,.move (.tmp s0),ty1,p1,af1,none⟩,⟨some d2,.range mt (.tmp d1),ty2,p2,af2,none⟩] false)
  (.block bB (.loop (aGG d2 d3 d4 d5 bB cB i2 i3 ty3 ty4 ty5 p3 p4 p5 af3 af4 af5 l3 REST)))

theorem uV {J:List Nat→List AV→List Blk→Prop} {F:AV→List Blk→Prop} {Q:Exit→Act→World→Prop} (R:Rel σ π w (x.h0[·]?)) (hn:(es.map (·.2.2)).Nodup) (hc:∀e∈es,e.2.2<cl)
 (h23:d2≠d3) (h24:d2≠d4) (h34:d3≠d4) (hmt:P.underlying mt=some (.map kt et)) (hs0:t[s0]? = some (.mp b)) (hd1:d1<t.length) (hj:J [] (t.set d1 (.mp b)) h)
 (hJ:∀D t h,J D t h→(t[d2]? = some .any∧t[d3]? = some .any∧t[d4]? = some .any∧t[d5]? = some .any)∧h[b]? = some (.map es cl))
 (hstep:∀D t h p k v n,J D t h→(k,v,n)∈es→D.contains n=false →
  ∃st7,iT (cT P) nR qM (⟨some d5,.entry (.tmp d2),ty5,p5,af5,none⟩::l3) l3 ⟨((((t.set d2 (.raw p)).set d3 (.tup [.bool true,k,v])).set d4 (.bool true)).set d5 (.tup [k,v])),h⟩=some st7 ∧
   ((∃y s' t',Tc P ⟨x.fn,st7.h,x.frz⟩ REST st7 (.st y s')∧(y = .normal∨y = .exit cB)∧rX (t'.set d2 (.raw p)) s'.t∧J (n::D) t' s'.h) ∨
    (∃v h',Tc P ⟨x.fn,st7.h,x.frz⟩ REST st7 (.fin v h')∧v.refs=[]∧(∀b∈h'.take x.h0.length,b.refs=[])∧x.h0.length≤h'.length∧F v (h'.take x.h0.length))))
 (N:Now σ π w t (h[·]?) a w1)
 (hend:∀D t h a' w',J D t h→(∀e∈es,D.contains e.2.2=true)→Now σ π w t (h[·]?) a' w'→Q .normal a' w')
 (hret:∀v h' a' w',F v h'→xM P x (.fin v h') σ π w .ret a' w'→Q .ret a' w') :
 (wN i1 d1 s0 mt ty1 ty2 p1 p2 af1 af2 d2 d3 d4 d5 bB cB i2 i3 ty3 ty4 ty5 p3 p4 p5 af3 af4 af5 l3 REST).wp P Q a w1:=by
 obtain⟨⟨j2,j3,j4,j5⟩,jm⟩:=hJ _ _ _ hj
 have l2:=sP j2
 rw[List.length_set] at l2
 unfold wN
 refine wp_seq (wp_region ?_)
 show wpOps P _ _ [0,1] a w1
 refine nP (o:=⟨some d1,.move (.tmp s0),ty1,p1,af1,none⟩) rfl rfl rfl (by rw[aFJ];rfl) ?_
 obtain⟨hd,σ1,π1,ht,D1⟩:=N
 have hev:=dH ht (x:=.tmp s0) (v:=.mp b) (by simp [evA,hs0])
 obtain⟨l,hl,hv⟩:∃l,σ1 b 0=some l∧a.eval (.tmp s0) = .map (some l.blk):=by
  generalize a.eval (.tmp s0)=u at hev
  cases hev with
  | mp _ l hl=>exact⟨l,hl,rfl⟩
 rw[hv]
 rw[hv] at hev
 have ht1:=ht.put d1 hev
 have hev1:(a.put (some d1) (.map (some l.blk))).eval (.tmp d1) = .map (some l.blk):=by
  have:=dH (a:=a.put (some d1) (.map (some l.blk))) ht1 (x:=.tmp d1) (mV (v:=.mp b) hd1)
  generalize (a.put (some d1) (.map (some l.blk))).eval (.tmp d1)=u at this
  cases this with
  | mp _ l' hl'=>rw[hl] at hl';cases hl';rfl
 obtain⟨C,c1,_⟩:=map_at D1.rel jm hl hn hc
 refine nP (o:=⟨some d2,.range mt (.tmp d1),ty2,p2,af2,none⟩) rfl rfl rfl (by rw[aCJ,hev1];exact gL (run_range_map w1 mt kt et l.blk C cl hmt c1)) ?_
 have Da:=sW D1.rel (.mapIter (some l.blk) cl #[] cl)
 have N1:mB σ π w ((t.set d1 (.mp b)).set d2 (.raw ⟨w1.heap.size,0,none⟩)) h (fun σ1 _ _=>σ1 b 0=some l) w1.heap.size (.mapIter (some l.blk) cl #[] cl) ((a.put (some d1) (.map (some l.blk))).put (some d2) (.pointer (some ⟨w1.heap.size,0,none⟩))) (w1.alloc (.mapIter (some l.blk) cl #[] cl)) :=
  ⟨hd,σ1,π1,(ht1.mono Da.ext).put d2 (.raw _),D1.trans Da,D1.frm.size,fun b g l hl=>by have:=D1.rel.lt b g l hl;omega,fX w1 _,⟨fun _ _ _ h=>(nomatch h),fun _ _ h=>(nomatch h)⟩,hl⟩
 show Code.wp P _ _ _ _
 refine wp_block (wp_loop_rounds ((aCP es []).length+1) ?_)
 exact xL R hn (K:=fun σ1 _ _=>σ1 b 0=some l) (fun _ _ _ _ _ _ E h=>E.sig _ _ _ h) (fun D t h σ1 π1 w1 hj R1 hl1=>map_at R1 (hJ D t h hj).2 hl1 hn hc) h23 h24 h34 (fun D t h hj=>(hJ D t h hj).1) hstep (Q:=Exit.inBlock bB Q) (F:=F) (fun D t h a' w' hj he hN=>(show Exit.inBlock bB Q (.exit bB) a' w' by simp only[Exit.inBlock,if_true];exact hend D t h a' w' hj he hN)) (fun v h' a' w' hF hp=>hret v h' a' w' hF hp)
  _ [] _ h #[] _ _ (Nat.lt_succ_self _) hj (fun k=>by simp) N1

theorem range_fm {J:List Nat→List AV→List Blk→Prop} {F:AV→List Blk→Prop} {Q:Exit→Act→World→Prop} (R:Rel σ π w (x.h0[·]?)) (hn:(es.map (·.2.2)).Nodup) (hc:∀e∈es,e.2.2<cl)
 (h23:d2≠d3) (h24:d2≠d4) (h34:d3≠d4) (hmt:P.underlying mt=some (.map kt et)) (hs0:t[s0]? = some (uL es cl)) (hd1:d1<t.length) (hj:J [] (t.set d1 (uL es cl)) h)
 (hJ:∀D t h,J D t h→(t[d2]? = some .any∧t[d3]? = some .any∧t[d4]? = some .any∧t[d5]? = some .any))
 (hstep:∀D t h p k v n,J D t h→(k,v,n)∈es→D.contains n=false →
  ∃st7,iT (cT P) nR qM (⟨some d5,.entry (.tmp d2),ty5,p5,af5,none⟩::l3) l3 ⟨((((t.set d2 (.raw p)).set d3 (.tup [.bool true,k,v])).set d4 (.bool true)).set d5 (.tup [k,v])),h⟩=some st7 ∧
   ((∃y s' t',Tc P ⟨x.fn,st7.h,x.frz⟩ REST st7 (.st y s')∧(y = .normal∨y = .exit cB)∧rX (t'.set d2 (.raw p)) s'.t∧J (n::D) t' s'.h) ∨
    (∃v h',Tc P ⟨x.fn,st7.h,x.frz⟩ REST st7 (.fin v h')∧v.refs=[]∧(∀b∈h'.take x.h0.length,b.refs=[])∧x.h0.length≤h'.length∧F v (h'.take x.h0.length))))
 (N:Now σ π w t (h[·]?) a w1)
 (hend:∀D t h a' w',J D t h→(∀e∈es,D.contains e.2.2=true)→Now σ π w t (h[·]?) a' w'→Q .normal a' w')
 (hret:∀v h' a' w',F v h'→xM P x (.fin v h') σ π w .ret a' w'→Q .ret a' w') :
 (wN i1 d1 s0 mt ty1 ty2 p1 p2 af1 af2 d2 d3 d4 d5 bB cB i2 i3 ty3 ty4 ty5 p3 p4 p5 af3 af4 af5 l3 REST).wp P Q a w1:=by
 obtain⟨j2,j3,j4,j5⟩:=hJ _ _ _ hj
 have l2:=sP j2
 rw[List.length_set] at l2
 unfold wN
 refine wp_seq (wp_region ?_)
 show wpOps P _ _ [0,1] a w1
 refine nP (o:=⟨some d1,.move (.tmp s0),ty1,p1,af1,none⟩) rfl rfl rfl (by rw[aFJ];rfl) ?_
 obtain⟨hd,σ1,π1,ht,D1⟩:=N
 have hev:=dH ht (x:=.tmp s0) (v:=uL es cl) (by simp [evA,hs0])
 obtain⟨M,hv⟩:∃M,a.eval (.tmp s0) = .map (some M):=by
  generalize a.eval (.tmp s0)=u at hev
  unfold uL at hev
  cases hev with
  | fm _ _ _ B _ C hw=>exact⟨B,rfl⟩
 rw[hv]
 rw[hv] at hev
 have ht1:=ht.put d1 hev
 have hev1:(a.put (some d1) (.map (some M))).eval (.tmp d1) = .map (some M):=by
  have hlt:d1<(a.tmps).size:=by rw[ht.1];exact hd1
  simp [Act.eval,Act.put,hlt,Array.getD]
 obtain⟨C,c1,_⟩:=fm_at hev hn hc
 refine nP (o:=⟨some d2,.range mt (.tmp d1),ty2,p2,af2,none⟩) rfl rfl rfl (by rw[aCJ,hev1];exact gL (run_range_map w1 mt kt et M C cl hmt c1)) ?_
 have Da:=sW D1.rel (.mapIter (some M) cl #[] cl)
 have N1:mB σ π w ((t.set d1 (uL es cl)).set d2 (.raw ⟨w1.heap.size,0,none⟩)) h (fun σ1 π1 w1=>VR σ1 π1 w1 (uL es cl) (.map (some M))) w1.heap.size (.mapIter (some M) cl #[] cl) ((a.put (some d1) (.map (some M))).put (some d2) (.pointer (some ⟨w1.heap.size,0,none⟩))) (w1.alloc (.mapIter (some M) cl #[] cl)) :=
  ⟨hd,σ1,π1,(ht1.mono Da.ext).put d2 (.raw _),D1.trans Da,D1.frm.size,fun b g l hl=>by have:=D1.rel.lt b g l hl;omega,fX w1 _,⟨fun _ _ _ h=>(nomatch h),fun _ _ h=>(nomatch h)⟩,hev.mono Da.ext⟩
 show Code.wp P _ _ _ _
 refine wp_block (wp_loop_rounds ((aCP es []).length+1) ?_)
 exact xL R hn (K:=fun σ1 π1 w1=>VR σ1 π1 w1 (uL es cl) (.map (some M))) (fun _ _ _ _ _ _ E h=>h.mono E) (fun D t h σ1 π1 w1 hj R1 hl1=>fm_at hl1 hn hc) h23 h24 h34 hJ hstep (Q:=Exit.inBlock bB Q) (F:=F) (fun D t h a' w' hj he hN=>(show Exit.inBlock bB Q (.exit bB) a' w' by simp only[Exit.inBlock,if_true];exact hend D t h a' w' hj he hN)) (fun v h' a' w' hF hp=>hret v h' a' w' hF hp)
  _ [] _ h #[] _ _ (Nat.lt_succ_self _) hj (fun k=>by simp) N1

theorem aKG {Q:Exit→Act→World→Prop} (h34:d3≠d4) (hmt:P.underlying mt=some (.map kt et)) (hs0:t[s0]? = some .mapn) (hd1:d1<t.length)
 (hany:(t.set d1 .mapn)[d2]? = some .any∧(t.set d1 .mapn)[d3]? = some .any∧(t.set d1 .mapn)[d4]? = some .any) (h23:d2≠d3)
 (N:Now σ π w t (h[·]?) a w1)
 (hend:∀a' w',Now σ π w (t.set d1 .mapn) (h[·]?) a' w'→Q .normal a' w') :
 (wN i1 d1 s0 mt ty1 ty2 p1 p2 af1 af2 d2 d3 d4 d5 bB cB i2 i3 ty3 ty4 ty5 p3 p4 p5 af3 af4 af5 l3 REST).wp P Q a w1:=by
 obtain⟨j2,j3,j4⟩:=hany
 have l2:=sP j2
 have l3':=sP j3
 have l4:=sP j4
 unfold wN
 refine wp_seq (wp_region ?_)
 show wpOps P _ _ [0,1] a w1
 refine nP (o:=⟨some d1,.move (.tmp s0),ty1,p1,af1,none⟩) rfl rfl rfl (by rw[aFJ];rfl) ?_
 obtain⟨hd,σ1,π1,ht,D1⟩:=N
 have hev:=dH ht (x:=.tmp s0) (v:=.mapn) (by simp [evA,hs0])
 have hv:a.eval (.tmp s0) = .map none:=by
  generalize a.eval (.tmp s0)=u at hev
  cases hev
  rfl
 rw[hv]
 rw[hv] at hev
 have ht1:=ht.put d1 hev
 have hev1:(a.put (some d1) (.map none)).eval (.tmp d1) = .map none:=by
  have:=dH (a:=a.put (some d1) (.map none)) ht1 (x:=.tmp d1) (mV (v:=.mapn) hd1)
  generalize (a.put (some d1) (.map none)).eval (.tmp d1)=u at this
  cases this
  rfl
 refine nP (o:=⟨some d2,.range mt (.tmp d1),ty2,p2,af2,none⟩) rfl rfl rfl (by rw[aCJ,hev1];exact gL (run_range_nilMap w1 mt kt et hmt)) ?_
 have Da:=sW D1.rel (.mapIter none 0 #[] 0)
 have N1:mB σ π w ((t.set d1 .mapn).set d2 (.raw ⟨w1.heap.size,0,none⟩)) h (fun _ _ _=>True) w1.heap.size (.mapIter none 0 #[] 0) ((a.put (some d1) (.map none)).put (some d2) (.pointer (some ⟨w1.heap.size,0,none⟩))) (w1.alloc (.mapIter none 0 #[] 0)) :=
  ⟨hd,σ1,π1,(ht1.mono Da.ext).put d2 (.raw _),D1.trans Da,D1.frm.size,fun b g l hl=>by have:=D1.rel.lt b g l hl;omega,fX w1 _,⟨fun _ _ _ h=>(nomatch h),fun _ _ h=>(nomatch h)⟩,trivial⟩
 generalize ((a.put (some d1) (.map none)).put (some d2) (.pointer (some ⟨w1.heap.size,0,none⟩)))=a1 at N1 ⊢
 generalize (w1.alloc (.mapIter none 0 #[] 0))=w2 at N1 ⊢
 generalize w1.heap.size=r at N1 ⊢
 show Code.wp P _ _ a1 w2
 refine wp_block (wp_loop_rounds 1 ?_)
 rw[rounds_succ]
 unfold aGG
 have hev:a1.eval (.tmp d2) = .pointer (some ⟨r,0,none⟩):=by
  obtain⟨_,σ1,π1,ht,_⟩:=N1
  have:=dH ht (x:=.tmp d2) (mV (v:=.raw ⟨r,0,none⟩) l2)
  generalize a1.eval (.tmp d2)=u at this
  cases this
  rfl
 obtain⟨_,_,_,_,_,_,_,ho,_,_⟩:=id N1
 refine wp_seq (wp_region ?_)
 show wpOps P _ _ [0,1] a1 w2
 refine nP (o:=⟨some d3,.next (.tmp d2) false,ty3,p3,af3,none⟩) rfl rfl rfl (by rw[aE5,hev];exact gL (iter_nil ty3 ho)) ?_
 have N2:=N1.put d3 (v:=.tup [.bool false]) (u:=.tuple #[.bool false]) (fun σ1 π1 _ _=>.tup _ _ rfl fun i v u hv hu=>by
  match i,hv,hu with
  | 0,hv,hu=>cases hv;cases hu;exact .bool _)
 refine mB.ops (fun _ _ _ _ _ _ _ _=>trivial) (i:=1) (l:=[⟨some d4,.extract (.tmp d3) 0,ty4,p4,af4,none⟩]) rfl (sV (mV (by rw[List.length_set];exact l3'))) N2 fun a' w' N3=>?_
 show Code.wp P _ _ a' w'
 refine wp_seq (wp_cond_false ?_ (wp_exit ?_))
 · obtain⟨_,σ2,π2,ht2,_⟩:=N3
   have:=dH ht2 (x:=.tmp d4) (mV (v:=.bool false) (by simp at l4 ⊢;exact l4))
   generalize a'.eval (.tmp d4)=u at this
   cases this
   rfl
 · show Exit.inBlock bB _ (.exit bB) a' w'
   simp only[Exit.inBlock,if_true]
   exact hend a' w' (N3.now.less (rC j4 _ (rC j3 _ (rC j2 _ (rX.refl _)))))
end
end
end
end Go.Ws

namespace Go.Ws
set_option linter.unusedVariables false
set_option linter.unusedSimpArgs false
open Go.ChangeShapes Go.WideShapes Go.ChangeAt Go.RowKit

variable {P:Program}

def pT (P:Program):Nat→Nat→Bool
 | 0,_=>false
 | n+1,t=>match P.underlying t with
  | some .bool=>true
  | some (.int _)=>true
  | some .string=>true
  | some (.slice e)=>decide (0<P.cellsOf e) && pT P n e
  | some (.struct fs)=>fs.toList.all fun f=>pT P n f.type
  | some (.array _ e)=>pT P n e
  | _=>false

def kY (P:Program):Nat→Nat→List AV→Prop
 | 0,_,_=>False
 | n+1,t,c=>match P.underlying t with
  | some .bool=>∃b,c=[.bool b]
  | some (.int k)=>∃i,c=[.int k i]∧k.min≤i∧i≤k.max
  | some .string=>∃s,c=[.str s]∧s.size≤maxLen
  | some (.slice e)=>∃rows,c=[.sl (P.cellsOf e) rows]∧rows.length≤maxLen∧∀row∈rows,row.length=P.cellsOf e∧kY P n e row
  | some (.struct fs)=>c.length=P.cellsOf t∧∀f∈fs.toList,kY P n f.type ((c.drop f.offset).take (P.cellsOf f.type))
  | some (.array k e)=>c.length=k*P.cellsOf e∧∀i,i<k→kY P n e ((c.drop (i*P.cellsOf e)).take (P.cellsOf e))
  | _=>False

def aAK (P:Program) (n t:Nat) (v:AV):Prop :=
 match P.underlying t with
 | some (.struct _)=>∃c,v = .agg c∧kY P n t c
 | some (.array _ _)=>∃c,v = .agg c∧kY P n t c
 | _=>kY P n t [v]

def aGD (P:Program) (n:Nat):List Nat→List AV→Prop
 | [],vs=>vs=[]
 | t::ts,vs=>∃v r,vs=v::r∧aAK P n t v∧aGD P n ts r

def uJ:Sig:=fun _ _=>none
def oI (w:World):bE:=fun B _=>B<w.heap.size

theorem aHG {σ:Sig} {π:bE} {w:World} {a b:List AV} {c d:List Value} (h1:VRs σ π w a c.toArray) (h2:VRs σ π w b d.toArray):VRs σ π w (a++b) (c++d).toArray:=by
 have l1:=h1.1
 have l2:=h2.1
 simp only[List.size_toArray] at l1 l2
 refine⟨by simp [l1,l2],fun i v u hi hu=>?_⟩
 simp only[List.getElem?_toArray] at hu
 rcases Nat.lt_or_ge i a.length with hlt | hge
 · rw[List.getElem?_append_left hlt] at hi
   rw[List.getElem?_append_left (by omega)] at hu
   exact h1.2 i v u hi (by simpa using hu)
 · rw[List.getElem?_append_right hge] at hi
   rw[List.getElem?_append_right (by omega)] at hu
   exact h2.2 _ v u hi (by rw[← l1];simpa using hu)

theorem glue {σ:Sig} {π:bE} {w:World}:∀(sizes:List Nat) (Q:Nat→List AV→Prop) (cs:List Value),cs.length=sizes.sum →
 (∀(j:Nat) s,sizes[j]? = some s→∃l,l.length=s∧VRs σ π w l ((cs.drop (sizes.take j).sum).take s).toArray∧(∀v∈l,v.flat)∧Q j l) →
 ∃l,l.length=cs.length∧VRs σ π w l cs.toArray∧(∀v∈l,v.flat)∧∀(j:Nat) s,sizes[j]? = some s→Q j ((l.drop (sizes.take j).sum).take s)
 | [],Q,cs,hl,h=>by
  simp at hl
  subst hl
  exact⟨[],rfl,⟨rfl,fun i v u h=>by simp at h⟩,by simp,by simp⟩
 | s::sizes,Q,cs,hl,h=>by
  simp only[List.sum_cons] at hl
  obtain⟨l0,k1,k2,k3,k4⟩:=h 0 s rfl
  obtain⟨l1,m1,m2,m3,m4⟩:=glue sizes (fun j l=>Q (j+1) l) (cs.drop s) (by simp;omega) (fun j s' hj=>by
   obtain⟨l,a1,a2,a3,a4⟩:=h (j+1) s' (by simpa using hj)
   refine⟨l,a1,?_,a3,a4⟩
   simpa [List.drop_drop] using a2)
  simp only[List.take_zero,List.sum_nil,List.drop_zero] at k2
  refine⟨l0++l1,by simp at m1;simp;omega,?_,fun v hv=>(List.mem_append.1 hv).elim (k3 v) (m3 v),fun j s' hj=>?_⟩
  · have:=aHG k2 m2
    rwa [List.take_append_drop] at this
  · cases j with
    | zero =>
     simp at hj;subst hj
     simp only[List.take_zero,List.sum_nil,List.drop_zero,List.take_append_of_le_length (Nat.le_of_eq k1.symm)]
     rw[List.take_of_length_le (Nat.le_of_eq k1)]
     exact k4
    | succ j =>
     have:=m4 j s' (by simpa using hj)
     simp only[List.take_succ_cons,List.sum_cons]
     rw[List.drop_append,List.drop_eq_nil_of_le (by omega),List.nil_append,k1,Nat.add_sub_cancel_left]
     exact this

theorem aHJ {k:IntKind} {n:Int} (h:(Lit.int k n).wf=true):k.min≤n∧n≤k.max:=by
 simpa [Lit.wf] using h

theorem sM {H:Type} {enc:TypeId × Value→H} {T:TypeId→Prop} (K:Kids P T) {w:World}:∀(m t n:Nat) (cs:List Value) (x:DataW H × List MemPlace),T t→pT P m t=true →
 DataW.trod enc P w 0 (fun _=>true) true n t cs=some x→∃c,c.length=cs.length∧VRs uJ (oI w) w c cs.toArray∧(∀v∈c,v.flat)∧kY P m t c
 | 0,_,_,_,_,_,hp,_=>by cases hp
 | m+1,t,n,cs,x,hT,hp,h=>by
  have one:∀(v:AV) (u:Value),VR uJ (oI w) w v u→VRs uJ (oI w) w [v] [u].toArray:=fun v u hv=>.cons hv ⟨rfl,fun i v u h=>by simp at h⟩
  simp only[pT] at hp
  split at hp
  · rename_i hu
    obtain⟨b,rfl,_⟩:=DataW.trod_bool hu h
    refine⟨[.bool b],rfl,one _ _ (.bool b),by simp [AV.flat,AV.one,AV.refs],?_⟩
    simp only[kY,hu];exact⟨b,rfl⟩
  · rename_i k hu
    obtain⟨i,rfl,_,hw⟩:=DataW.trod_int hu h
    refine⟨[.int k i],rfl,one _ _ (.int k i),by simp [AV.flat,AV.one,AV.refs],?_⟩
    simp only[kY,hu];exact⟨i,rfl,aHJ hw⟩
  · rename_i hu
    obtain⟨s,rfl,_,hs⟩:=DataW.trod_string hu h
    refine⟨[.str s],rfl,one _ _ (.str s),by simp [AV.flat,AV.one,AV.refs],?_⟩
    simp only[kY,hu];exact⟨s,rfl,hs⟩
  · rename_i e hu
    rcases DataW.trod_slice hu h with⟨rfl,_⟩ | ⟨a,len,cap,elems,rest,n',rfl,rfl,_,hb,hlc,hcm,hel,hread,_⟩
    · refine⟨[.sl (P.cellsOf e) []],rfl,one _ _ (.sl0 _ _ _ fun _=>rfl),by simp [AV.flat,AV.one,AV.refs],?_⟩
      simp only[kY,hu];exact⟨[],rfl,Nat.zero_le _,fun row hr=>by cases hr⟩
    · have hTe:=K.slice hT hu
      have hpe:pT P m e=true:=(by simpa using hp:0<P.cellsOf e∧pT P m e=true).2
      have hrow:∀r,r<len→∃(row:List AV) (cs':List Value),w.cells? 0 (a.add (r*P.cellsOf e)) (P.cellsOf e)=some cs'∧row.length=P.cellsOf e∧VRs uJ (oI w) w row cs'.toArray∧(∀v∈row,v.flat)∧kY P m e row:=by
       intro r hr
       have h1:=hread r hr
       rw[List.getElem?_eq_getElem (by omega),Option.bind_eq_some_iff] at h1
       obtain⟨cs',h2,h3⟩:=h1
       obtain⟨row,q1,q2,q3,q4⟩:=sM K m e n' cs' _ hTe hpe h3
       exact⟨row,cs',h2,by rw[q1];exact(World.cells?_some h2).2.1,q2,q3,q4⟩
      have hex:∃rows:List (List AV),rows.length=len∧∀(r:Nat) row,rows[r]? = some row→∃cs':List Value,w.cells? 0 (a.add (r*P.cellsOf e)) (P.cellsOf e)=some cs'∧row.length=P.cellsOf e∧VRs uJ (oI w) w row cs'.toArray∧(∀v∈row,v.flat)∧kY P m e row:=by
       clear hread hel hlc h
       rename_i hcond
       clear hcond
       induction len with
       | zero=>exact⟨[],rfl,fun r row h=>by simp at h⟩
       | succ len ih =>
        obtain⟨rows,i1,i2⟩:=ih (fun r hr=>hrow r (by omega))
        obtain⟨row,hrow'⟩:=hrow len (by omega)
        refine⟨rows++[row],by simp [i1],fun r row' hr=>?_⟩
        rcases Nat.lt_or_ge r rows.length with hlt | hge
        · rw[List.getElem?_append_left hlt] at hr
          exact i2 r row' hr
        · rw[List.getElem?_append_right hge] at hr
          have hr0:r=len:=by
           have:=(List.getElem?_eq_some_iff.1 hr).1
           simp at this
           omega
          subst hr0
          rw[i1,Nat.sub_self] at hr
          simp at hr
          subst hr
          exact hrow'
      obtain⟨rows,hlen,hrows⟩:=hex
      have hArg:kY P (m+1) t [.sl (P.cellsOf e) rows]:=by
       simp only[kY,hu]
       refine⟨rows,rfl,by omega,fun row hm=>?_⟩
       obtain⟨r,hr⟩:=List.getElem?_of_mem hm
       obtain⟨cs',_,q1,_,_,q4⟩:=hrows r row hr
       exact⟨q1,q4⟩
      refine⟨[.sl (P.cellsOf e) rows],rfl,one _ _ (VR.toSl ?_),by intro v hv;simp only[List.mem_singleton] at hv;subst hv;simp [AV.flat,AV.one,AV.refs],hArg⟩
      cases rows with
      | nil =>
       simp at hlen
       subst hlen
       exact .inl0 _ _ _
      | cons row0 rows =>
       have hf:dW (P.cellsOf e) (row0::rows):=fun row hm=>by
        obtain⟨r,hr⟩:=List.getElem?_of_mem hm
        obtain⟨cs',_,q1,_,q3,_⟩:=hrows r row hr
        exact⟨q1,q3⟩
       have cellAt:∀(r q:Nat) row v,(row0::rows)[r]? = some row→row[q]? = some v→∃u,w.cell? ((a.add (r*P.cellsOf e)).add q)=some u∧VR uJ (oI w) w v u:=by
        intro r q row v hr hq
        obtain⟨cs',q0,q1,q2,_,_⟩:=hrows r row hr
        obtain⟨_,hl,hc⟩:=World.cells?_some q0
        have hql:=(List.getElem?_eq_some_iff.1 hq).1
        have hq2:q<cs'.length:=by omega
        refine⟨cs'[q],?_,q2.2 q v _ hq (by simp [hq2])⟩
        rw[hc q (by omega)]
        simp [hq2]
       obtain⟨h0,hp⟩:0<P.cellsOf e∧pT P m e=true:=by simpa using hp
       have hpos:0<row0.length:=by rw[(hf row0 (by simp)).1];omega
       obtain⟨u0,hu0,_⟩:=cellAt 0 0 row0 row0[0] rfl (by simp [hpos])
       have hsp:a.spot=none:=by
        have:=World.cell?_spot hu0
        simpa [Addr.add] using this
       obtain⟨B,o,sp⟩:=a
       simp only at hsp
       subst hsp
       have hcell2:∀(r q:Nat) row v,(row0::rows)[r]? = some row→row[q]? = some v→∃u,w.cell? ⟨B,o+r*P.cellsOf e+q,none⟩=some u∧VR uJ (oI w) w v u:=by
        intro r q row v hr hq
        have:=cellAt r q row v hr hq
        rwa [WideShapes.add_plain,WideShapes.add_plain] at this
       have hB:B<w.heap.size:=by
        rw[WideShapes.add_plain,WideShapes.add_plain] at hu0
        unfold World.cell? at hu0
        split at hu0
        · rename_i hh;exact(Array.getElem?_eq_some_iff.1 hh).1
        · cases hu0
       have:=VR.inl (σ:=uJ) (π:=oI w) (w:=w) (P.cellsOf e) (row0::rows) B o cap (fun r q=>(w.cell? ⟨B,o+r*P.cellsOf e+q,none⟩).getD undef) hf (by omega)
        (fun r q row v hr hq=>by
         obtain⟨u,hu,_⟩:=hcell2 r q row v hr hq
         exact⟨by rw[hu];rfl,hB⟩)
        (fun r q row v hr hq=>by
         obtain⟨u,hu,hvu⟩:=hcell2 r q row v hr hq
         rw[hu]
         exact hvu)
       rwa [hlen] at this
  · rename_i fs hu
    obtain⟨xs,n',rfl,_,hcl,hxl,hread⟩:=DataW.trod_struct hu h
    obtain⟨K1,K2,K3⟩:=K.struct hT hu
    have hp':=List.all_eq_true.1 hp
    obtain⟨l,a1,a2,a3,a4⟩:=glue (σ:=uJ) (π:=oI w) (w:=w) (fs.toList.map fun f=>P.cellsOf f.type) (fun j l=>∀f,fs.toList[j]? = some f→kY P m f.type l) cs (by rw[hcl,K2]) (fun j s hj=>by
     simp only[List.getElem?_map,Option.map_eq_some_iff] at hj
     obtain⟨f,hf,rfl⟩:=hj
     have hf':fs[j]? = some f:=by simpa using hf
     have h1:=hread j f hf'
     have hjx:j<xs.length:=by rw[hxl];exact(Array.getElem?_eq_some_iff.1 hf').1
     rw[List.getElem?_eq_getElem hjx] at h1
     have hmem:=List.mem_of_getElem? hf
     obtain⟨l,b1,b2,b3,b4⟩:=sM K m f.type n' _ _ (K1 f hmem) (hp' f hmem) h1
     rw[K3 j f hf,List.map_take] at b1 b2
     refine⟨l,?_,b2,b3,fun f' hf''=>by rw[hf] at hf'';cases hf'';exact b4⟩
     have hle:((fs.toList.map fun f=>P.cellsOf f.type).take j).sum+P.cellsOf f.type≤cs.length:=by
      rw[hcl,K2]
      have hsplit:(fs.toList.map fun f=>P.cellsOf f.type)=(fs.toList.map fun f=>P.cellsOf f.type).take j++(fs.toList.map fun f=>P.cellsOf f.type).drop j:=(List.take_append_drop ..).symm
      have hd:(fs.toList.map fun f=>P.cellsOf f.type).drop j=P.cellsOf f.type::(fs.toList.map fun f=>P.cellsOf f.type).drop (j+1):=by
       have hj2:j<(fs.toList.map fun f=>P.cellsOf f.type).length:=by simp;exact(Array.getElem?_eq_some_iff.1 hf').1
       rw[List.drop_eq_getElem_cons hj2]
       congr 1
       have:=(List.getElem?_eq_some_iff.1 hf).2
       simp [← this]
      conv=>rhs;rw[hsplit,hd,List.sum_append,List.sum_cons]
      omega
     rw[b1,List.length_take,List.length_drop]
     omega)
    refine⟨l,a1,a2,a3,?_⟩
    simp only[kY,hu]
    refine⟨by rw[a1,hcl],fun f hf=>?_⟩
    obtain⟨j,hj⟩:=List.getElem?_of_mem hf
    have:=a4 j (P.cellsOf f.type) (by simp [hj]) f hj
    rw[K3 j f hj,List.map_take]
    exact this
  · rename_i k e hu
    obtain⟨xs,n',rfl,_,hcl,hxl,hread⟩:=DataW.trod_array hu h
    obtain⟨K1,K2⟩:=K.array hT hu
    have hsum:∀k:Nat,(List.replicate k (P.cellsOf e)).sum=k*P.cellsOf e:=fun k=>by simp
    obtain⟨l,a1,a2,a3,a4⟩:=glue (σ:=uJ) (π:=oI w) (w:=w) (List.replicate k (P.cellsOf e)) (fun j l=>kY P m e l) cs (by rw[hcl,K2,hsum]) (fun j s hj=>by
     have hjk:j<k:=by
      have:=(List.getElem?_eq_some_iff.1 hj).1
      simpa using this
     have hs:s=P.cellsOf e:=by
      rw[List.getElem?_replicate] at hj
      rw[if_pos (by simpa using hjk)] at hj
      exact(Option.some.inj hj).symm
     subst hs
     have h1:=hread j hjk
     have hjx:j<xs.length:=by omega
     rw[List.getElem?_eq_getElem hjx] at h1
     obtain⟨l,b1,b2,b3,b4⟩:=sM K m e n' _ _ K1 hp h1
     have htk:((List.replicate k (P.cellsOf e)).take j).sum=j*P.cellsOf e:=by
      rw[List.take_replicate,hsum,Nat.min_eq_left (by omega)]
     rw[htk]
     refine⟨l,?_,b2,b3,b4⟩
     have hle:(j+1)*P.cellsOf e≤k*P.cellsOf e:=Nat.mul_le_mul_right _ hjk
     rw[Nat.succ_mul] at hle
     rw[b1,List.length_take,List.length_drop,hcl,K2]
     omega)
    refine⟨l,a1,a2,a3,?_⟩
    simp only[kY,hu]
    refine⟨by rw[a1,hcl,K2],fun i hi=>?_⟩
    have:=a4 i (P.cellsOf e) (by simp [hi])
    have htk:((List.replicate k (P.cellsOf e)).take i).sum=i*P.cellsOf e:=by
     rw[List.take_replicate,hsum,Nat.min_eq_left (by omega)]
    rw[htk] at this
    exact this
  · cases hp

theorem aHO {t e:TypeId} {k:Nat} {w:World} {base:Nat} {v:Value} (ht:P.underlying t=some (.array k e)) (h:Value.okWide P w .any base t v):∃cs,v = .agg cs∧cs.size=P.cellsOf t:=by
 simp only[Value.okWide,ht] at h
 obtain⟨cs,h1,h2,_⟩:=h
 exact⟨cs,h1,h2⟩

theorem aDS {H:Type} {enc:TypeId × Value→H} {T:TypeId→Prop} (K:Kids P T) {w:World} {base m:Nat}:∀(ts:List TypeId) (vs:List Value) (ds:List (DataW H)) (ps:List MemPlace),(∀t∈ts,T t)→(ts.all fun t=>pT P m t)=true →
 (∀(j:Nat) t v,ts[j]? = some t→vs[j]? = some v→Value.okWide P w .any base t v)→DataW.TrodAll enc P w 0 (fun _=>true) true ts vs ds ps →
 ∃avs,VRs uJ (oI w) w avs vs.toArray∧aGD P m ts avs
 | [],vs,ds,ps,_,_,_,h=>by
  obtain⟨rfl,rfl,rfl⟩:=trodAll_nil h
  exact⟨[],⟨rfl,fun i v u h=>by simp at h⟩,rfl⟩
 | t::ts,vs,ds,ps,hT,hp,hv,h=>by
  obtain⟨v,vs',d,ds',p,q,rfl,rfl,rfl,⟨n,h0⟩,hr⟩:=trodAll_cons h
  simp only[List.all_cons,Bool.and_eq_true] at hp
  obtain⟨avs,k1,k2⟩:=aDS K ts vs' ds' q (fun t ht=>hT t (by simp [ht])) hp.2 (fun j t v hj hv'=>hv (j+1) t v (by simpa using hj) (by simpa using hv')) hr
  obtain⟨c,c1,c2,c3,c4⟩:=sM K m t n _ _ (hT t (by simp)) hp.1 h0
  have hok:=hv 0 t v rfl rfl
  have single:∀u:Value,v=u→u.cells = #[u]→∃a,c=[a]∧VR uJ (oI w) w a v:=by
   intro u hvu hu
   subst hvu
   rw[hu] at c1 c2
   match c,c1 with
   | [a],_=>exact⟨a,rfl,c2.2 0 a v rfl rfl⟩
  have fin:∀a,VR uJ (oI w) w a v→aAK P m t a→∃avs,VRs uJ (oI w) w avs (v::vs').toArray∧aGD P m (t::ts) avs:=fun a h1 h2=>⟨a::avs,.cons h1 k1,a,avs,rfl,h2,k2⟩
  cases m with
  | zero=>cases hp.1
  | succ m =>
  have hp1:=hp.1
  simp only[pT] at hp1
  split at hp1
  · rename_i hu
    obtain⟨b,rfl⟩:=okWide_bool hu hok
    obtain⟨a,rfl,ha⟩:=single _ rfl rfl
    exact fin a ha (by simp only[aAK,hu];exact c4)
  · rename_i k hu
    obtain⟨i,rfl⟩:=okWide_int hu hok
    obtain⟨a,rfl,ha⟩:=single _ rfl rfl
    exact fin a ha (by simp only[aAK,hu];exact c4)
  · rename_i hu
    obtain⟨s,rfl⟩:=okWide_string hu hok
    obtain⟨a,rfl,ha⟩:=single _ rfl rfl
    exact fin a ha (by simp only[aAK,hu];exact c4)
  · rename_i e hu
    obtain⟨x,l,cp,rfl⟩:=okWide_slice hu hok
    obtain⟨a,rfl,ha⟩:=single _ rfl rfl
    exact fin a ha (by simp only[aAK,hu];exact c4)
  · rename_i fs hu
    obtain⟨cs,rfl,hsz⟩:=okWide_struct hu hok
    refine fin (.agg c) (.agg c cs ?_ fun i v u hi hu=>c2.2 i v u hi (by simpa [Value.cells] using hu)) (by simp only[aAK,hu];exact⟨c,rfl,c4⟩)
    have:=c2.1
    simpa [Value.cells] using this
  · rename_i k e hu
    obtain⟨cs,rfl,hsz⟩:=aHO hu hok
    refine fin (.agg c) (.agg c cs ?_ fun i v u hi hu=>c2.2 i v u hi (by simpa [Value.cells] using hu)) (by simp only[aAK,hu];exact⟨c,rfl,c4⟩)
    have:=c2.1
    simpa [Value.cells] using this
  · cases hp1

theorem aF6 {w w':World} {σ':Sig} {π':bE} (F:Frm uJ (oI w) w σ' π' w'):w.keptBut w' (fun _=>False)∧∀B,B<w.heap.size→w'.heap[B]? = w.heap[B]?:=by
 have hs:∀B,B<w.heap.size→w'.heap[B]? = w.heap[B]?:=fun B hB=>F.same B hB (fun b g l h=>by cases h)
 refine⟨⟨F.os,F.output,fun i hi=>?_⟩,hs⟩
 rw[hs i hi,Array.getElem?_eq_getElem hi]
 cases w.heap[i]<;>simp

theorem aKH (w:World):Rel uJ (oI w) w (([]:List Blk)[·]?) :=
 ⟨fun b x h=>(by simp at h),fun _ _ _=>rfl,fun b g b' g' l l' h=>(by cases h),fun b g l h=>(by cases h),fun B o h=>h⟩

theorem tV {H:Type} {enc:TypeId × Value→H} {w:World} {base:Nat} {sp:Nat→Bool} {held:Bool}:∀{ts:List TypeId} {vs:List Value} {ds:List (DataW H)} {ps:List MemPlace},DataW.TrodAll enc P w base sp held ts vs ds ps→ds.length=ts.length
 | [],_,_,_,h=>by obtain⟨_,rfl,_⟩:=trodAll_nil h;rfl
 | _::_,_,_,_,h=>by
  obtain⟨v,vs1,d,ds1,a,b,rfl,rfl,rfl,h1,h2⟩:=trodAll_cons h
  simp [tV h2]

theorem v6 {H:Type} {enc:TypeId × Value→H} {w w':World} {base:Nat} {sp:Nat→Bool} {held:Bool}:∀{ts:List TypeId} {vs:List Value} {ds:List (DataW H)} {ps:List MemPlace},DataW.TrodAll enc P w base sp held ts vs ds ps→(∀p∈ps,w.sameAt w' p) →
 DataW.TrodAll enc P w' base sp held ts vs ds ps
 | [],_,_,_,h,_=>by obtain⟨rfl,rfl,rfl⟩:=trodAll_nil h;exact trodAll_mk0
 | _::_,_,_,_,h,hs=>by
  obtain⟨v,vs1,d,ds1,a,b,rfl,rfl,rfl,⟨n,h1⟩,h2⟩:=trodAll_cons h
  exact⟨a,b,⟨n,DataW.trod_carry n _ _ _ h1 (fun p hp=>hs p (List.mem_append_left _ hp))⟩,v6 h2 (fun p hp=>hs p (List.mem_append_right _ hp)),rfl⟩

theorem aK3 (hl:laidOutB P=true) {f:Nat} {fn:Func} (hfn:P.funcs[f]? = some fn):∀t∈fn.params.toList,t<P.types.size:=by
 intro t ht
 simp only[laidOutB,Bool.and_eq_true] at hl
 have h1:=Array.all_eq_true_iff_forall_mem.1 hl.2 fn (Array.mem_of_getElem? hfn)
 have h2:=Array.all_eq_true_iff_forall_mem.1 h1 t (by simpa using ht)
 simpa using h2

def fullB (P:Program):Bool:=(List.range P.types.size).all fun t=>match P.underlying t with | some (.slice e)=>decide (0<P.cellsOf e) | _=>true
theorem aGP (hl:laidOutB P=true) (hm:mapsRowed P=true)
 (hz:fullB P=true)
 {f:Nat} {fn:Func} (hfn:P.funcs[f]? = some fn) {tb:TypeId} (hres:fn.resultTypes = #[tb]) (hub:P.underlying tb=some .bool) {m:Nat} (hp:(fn.params.toList.all fun t=>pT P m t)=true)
 {s:ChangeSpec} (hvars:s.vars=[]) (hspec:∀(H:Type) (ds:List (DataW H)),ds.length=fn.params.size→s.fn H ds={ results:=[.lit (.bool true)],args:=ds })
 (law:∀avs,aGD P m fn.params.toList avs→Tri P f avs [] (.bool true) [])
 {H:Type} {enc:TypeId × Value→H} {W:World} {base:Nat} {args:Array Value} {ds gs:List (DataW H)} {before:List MemPlace} {apart fresh handsOn again:Bool}
 (hval:∀(j:Nat) t v,fn.params[j]? = some t→args[j]? = some v→Value.okWide P W .any base t v)
 (hW:DataW.Whole enc P fn.params.toList s.vars apart W args.toList ds gs before) :
 Calls P f args W fun e W'=>∃v,e = .returned v∧s.post enc P fn apart fresh handsOn again W args v W':=by
 have K:=kids_rows (P:=P) hl hm
 have hT:=aK3 hl hfn
 have hW0:=hW
 obtain⟨p,q,hA,hV,rfl,hfz,hnd⟩:=hW
 rw[hvars] at hV
 obtain⟨rfl,rfl⟩:=trodVars_none hV
 obtain⟨avs,hvr,has⟩:=aDS K (w:=W) (base:=base) (m:=m) _ _ _ _ hT hp (fun j t v hj hv=>hval j t v (by simpa using hj) (by simpa using hv)) hA
 obtain⟨_,_,hcalls⟩:=law avs has
 refine(hcalls uJ (oI W) W args (aKH W) (by simpa using hvr)).mono fun e W' ⟨u,σ',π',he,hu,D⟩=>?_
 have hu':u = .bool true:=by cases hu;rfl
 subst hu' he
 obtain⟨hkept,hsame⟩:=aF6 D.frm
 simp only[List.append_nil] at hW0 hfz hnd
 have hlt:=hW0.lt
 have hcarry:DataW.TrodAll enc P W' 0 (fun _=>true) true fn.params.toList args.toList ds p:=v6 hA fun x hx=>by
  have hb:=hlt x hx
  cases x with
  | cell b off=>simp only[World.sameAt,World.cell?];rw[hsame b hb]
  | map b=>exact hsame b hb
 have hlen:ds.length=fn.params.size:=by
  have:=tV hA
  simpa using this
 have hfn':s.fn H (ds++[])={ results:=[.lit (.bool true)],args:=ds }:=by rw[List.append_nil];exact hspec H ds hlen
 have hresT:∀(b:Nat) (sp:Nat→Bool) (hd:Bool),DataW.TrodAll enc P W' b sp hd fn.resultTypes.toList ((Value.bool true).resultList fn.resultTypes.size) [.lit (.bool true)] []:=by
  intro b sp hd
  rw[hres]
  exact trodAll_cons_mk (shut_bool hub true) trodAll_mk0
 have hresp:∀sp:Nat→Bool,(∀x∈p,sp x.block=true)→DataW.TrodAll enc P W' 0 sp true fn.params.toList args.toList ds p:=fun sp hsp =>
  DataW.TrodAll.respare K (slices_full_of P hz) hT hcarry hsp
 refine⟨_,rfl,ds,[],p,[],p,[],by simpa using hW0,?_,?_,?_,World.keptBut_mono (fun x hx=>hx.elim) hkept,fun _=>⟨?_,?_⟩⟩
 · rw[hfn'];exact hresT _ _ _
 · rw[hfn'];exact hresp _ fun x hx=>by simpa using hlt x hx
 · rw[hfn',hvars];rfl
 · exact ok_one hres rfl (okWide_bool_mk hub true)
 · refine⟨_,[],([]++p)++[],⟨[]++p,[],trodAll_append hcarry (hresT _ _ _),by rw[hvars];rfl,rfl,?_,?_⟩,?_⟩
   · intro b off hx
     have hx':MemPlace.cell b off∈p:=by simpa using hx
     have:=hfz b off hx'
     have hb:=hlt _ hx'
     unfold World.frozen? at this ⊢
     rw[hsame b hb]
     exact this
   · intro ha
     simpa using hnd ha
   · intro x hx _
     simpa using hx

end Go.Ws

namespace Go.Ws
set_option linter.unusedVariables false

theorem aDV {α:Type} (e:α→List AV) (p:α→Prop):∀(rows:List (List AV)),(∀row∈rows,∃x,row=e x∧p x)→∃L:List α,rows=L.map e∧∀x∈L,p x
 | [],_=>⟨[],rfl,fun x h=>by cases h⟩
 | r::rows,h=>by
  obtain⟨x,hx,px⟩:=h r (by simp)
  obtain⟨L,hL,pL⟩:=aDV e p rows fun row hr=>h row (by simp [hr])
  exact⟨x::L,by rw[hL,hx];rfl,fun y hy=>by
   rcases List.mem_cons.1 hy with rfl | hy
   · exact px
   · exact pL y hy⟩
end Go.Ws

namespace Go.Ws
set_option linter.unusedVariables false

theorem aEC {a b:Int}:ltI a b=true↔a<b:=by simp [ltI]
theorem fE {a b:Int}:eqI a b=true↔a=b:=by simp [eqI]
theorem eqS_iff {a b:ByteArray}:eqS a b=true↔a=b:=by rw[eqS,ba_eq];simp
theorem aD4 {a b:Bool}:eqB a b=true↔a=b:=by simp [eqB]
theorem aI4 {q:Int} {n:Nat}:inI q n=true↔0≤q∧q<n:=by simp [inI]
theorem leI_iff {q:Int} {n:Nat}:leI q n=true↔0≤q∧q≤n:=by simp [leI]
theorem capI_iff {m n:Nat}:oP m n=true↔m≤n:=by simp [oP]
theorem isZ_iff {n:Nat}:isZ n=true↔n=0:=by simp [isZ]
theorem eqN_iff {m n:Nat}:eqN m n=true↔m=n:=by simp [eqN]
theorem aKW {n:Nat}:fD n=true↔n≤140737488355328:=by simp [fD]
theorem nI_def (n:Nat):nI n=(n:Int):=rfl
theorem ssz_def (s:ByteArray):ssz s=(s.size:Int):=rfl
theorem tN_def (q:Int):tN q=q.toNat:=rfl
theorem tN_nat (n:Nat):tN (n:Int)=n:=by simp [tN]
theorem wrap64 {a:Int} (h : -9223372036854775808≤a∧a≤9223372036854775807):IntKind.i64.wrap a=a:=by
 simp [IntKind.wrap,IntKind.bits,IntKind.signed];omega
theorem aHY {a b:Int} (h : -9223372036854775808≤a+b∧a+b≤9223372036854775807):aN .i64 a b=a+b:=wrap64 h
theorem isub64 {a b:Int} (h : -9223372036854775808≤a - b∧a - b≤9223372036854775807):isub .i64 a b=a - b:=wrap64 h
theorem conv64 {a:Int} (h : -9223372036854775808≤a∧a≤9223372036854775807):conv .i64 a=a:=wrap64 h

def Evp {α:Type} (g:Nat→Option α) (r:α):Prop:=∃n,∀k,n≤k→g k=some r
theorem Evp.of {α:Type} {g:Nat→Option α} {r:α} (h:∀k,g k=some r):Evp g r:=⟨0,fun k _=>h k⟩
theorem Evp.bind {α β:Type} {g:Nat→Option α} {a:α} {f:Nat→α→Option β} {r:β} (h:Evp g a) (h2:Evp (fun k=>f k a) r):Evp (fun k=>(g k).bind fun x=>f k x) r:=by
 obtain⟨n,h⟩:=h
 obtain⟨m,h2⟩:=h2
 exact⟨max n m,fun k hk=>by show (g k).bind (fun x=>f k x)=_;rw[h k (by omega)];exact h2 k (by omega)⟩
theorem Evp.step {α:Type} {g f:Nat→Option α} {r:α} (h:∀k,g (k+1)=f k) (hf:Evp f r):Evp g r:=by
 obtain⟨n,hf⟩:=hf
 refine⟨n+1,fun k hk=>?_⟩
 obtain⟨j,rfl⟩:∃j,k=j+1:=⟨k - 1,by omega⟩
 rw[h]
 exact hf j (by omega)
theorem Evp.congr {α:Type} {g f:Nat→Option α} {r:α} (h:∀k,g k=f k) (hf:Evp f r):Evp g r:=by
 obtain⟨n,hf⟩:=hf
 exact⟨n,fun k hk=>(h k).trans (hf k hk)⟩
theorem Evp.get {α:Type} {g:Nat→Option α} {r:α} (h:Evp g r):∃k,g k=some r:=let ⟨n,h⟩:=h;⟨n,h n (Nat.le_refl _)⟩
theorem Evp.ite_t {α:Type} {c:Prop} [Decidable c] {g f:Nat→Option α} {r:α} (hc:c) (h:Evp g r):Evp (fun k=>if c then g k else f k) r:=h.congr fun k=>if_pos hc
theorem Evp.ite_f {α:Type} {c:Prop} [Decidable c] {g f:Nat→Option α} {r:α} (hc:¬c) (h:Evp f r):Evp (fun k=>if c then g k else f k) r:=h.congr fun k=>if_neg hc
theorem Evp.ret {α:Type} (r:α):Evp (fun _=>some r) r:=⟨0,fun _ _=>rfl⟩
theorem imul64 {a b:Int} (h : -9223372036854775808≤a*b∧a*b≤9223372036854775807):imul .i64 a b=a*b:=wrap64 h
theorem bnd {α β:Type} {o:Option α} {a:α} {f:α→Option β} (h:o=some a):o.bind f=f a:=by rw[h];rfl
theorem getn {α:Type} {l:List α} {q:Int} {i:Nat} {a:α} (h:q=(i:Int)) (h2:l[i]? = some a):l[tN q]? = some a:=by rw[h,tN_nat];exact h2
theorem geti {α:Type} {l:List α} {q:Int} {i:Nat} (h:q=(i:Int)) (h2:i<l.length):l[tN q]? = some l[i]:=getn h (List.getElem?_eq_getElem h2)
theorem wrap8 {a:Int} (h:0≤a∧a<256):IntKind.u8.wrap a=a:=by simp [IntKind.wrap,IntKind.bits,IntKind.signed];omega
theorem aFO {a:Int} (h:0≤a∧a<4294967296):IntKind.u32.wrap a=a:=by simp [IntKind.wrap,IntKind.bits,IntKind.signed];omega
theorem wrapu64 {a:Int} (h:0≤a∧a<18446744073709551616):IntKind.u64.wrap a=a:=by simp [IntKind.wrap,IntKind.bits,IntKind.signed];omega
theorem conv8 {a:Int} (h:0≤a∧a<256):conv .u8 a=a:=wrap8 h
theorem conv32 {a:Int} (h:0≤a∧a<4294967296):conv .u32 a=a:=aFO h
theorem convu64 {a:Int} (h:0≤a∧a<18446744073709551616):conv .u64 a=a:=wrapu64 h
theorem iadd32 {a b:Int} (h:0≤a+b∧a+b<4294967296):aN .u32 a b=a+b:=aFO h
theorem imul32 {a b:Int} (h:0≤a*b∧a*b<4294967296):imul .u32 a b=a*b:=aFO h
theorem irem_pos {k:IntKind} {a b:Int} (h:0≤a):irem k a b=a % b:=Int.tmod_eq_emod_of_nonneg h
theorem iquo64 {a b:Int} (h:0≤a∧a≤9223372036854775807∧0<b):iquo .i64 a b=a / b:=by
 unfold iquo
 rw[Int.tdiv_eq_ediv_of_nonneg h.1]
 have h1:a / b≤a:=Int.ediv_le_self b h.1
 have h2:0≤a / b:=Int.ediv_nonneg h.1 (by omega)
 exact wrap64 ⟨by omega,by omega⟩
theorem iquo32 {a b:Int} (h:0≤a∧a<4294967296∧0<b):iquo .u32 a b=a / b:=by
 unfold iquo
 rw[Int.tdiv_eq_ediv_of_nonneg h.1]
 have h1:a / b≤a:=Int.ediv_le_self b h.1
 have h2:0≤a / b:=Int.ediv_nonneg h.1 (by omega)
 exact aFO ⟨by omega,by omega⟩
theorem imin_l {a b:Int} (h:a≤b):imin a b=a:=by unfold imin;split<;>omega
theorem imin_r {a b:Int} (h:b≤a):imin a b=b:=by unfold imin;split<;>omega
theorem imax_l {a b:Int} (h:b≤a):imax a b=a:=by unfold imax;split<;>omega
theorem imax_r {a b:Int} (h:a≤b):imax a b=b:=by unfold imax;split<;>omega
def pI (l:List Int):Prop:=∀x∈l,0≤x∧x<256
theorem pI.nil:pI []:=fun x h=>by cases h
theorem pI.take {l:List Int} (h:pI l) (n:Nat):pI (l.take n):=fun x hx=>h x (List.mem_of_mem_take hx)
theorem pI.drop {l:List Int} (h:pI l) (n:Nat):pI (l.drop n):=fun x hx=>h x (List.mem_of_mem_drop hx)
theorem pI.append {a b:List Int} (ha:pI a) (hb:pI b):pI (a++b):=fun x hx=>(List.mem_append.1 hx).elim (ha x) (hb x)
theorem pI.cons {x:Int} {l:List Int} (hx:0≤x∧x<256) (h:pI l):pI (x::l):=fun y hy=>by
 rcases List.mem_cons.1 hy with rfl | hy
 · exact hx
 · exact h y hy
end Go.Ws

namespace Go.Ws
set_option linter.unusedVariables false
set_option linter.unusedSimpArgs false

theorem nT {b:Bool} (h:b=false):(!b)=true:=by rw[h];rfl
theorem nF {b:Bool} (h:b=true):(!b)=false:=by rw[h];rfl
theorem aT {a b:Bool} (h:a=true) (k:b=true):(a && b)=true:=by rw[h,k];rfl
theorem aF1 {a b:Bool} (h:a=false):(a && b)=false:=by rw[h];rfl
theorem aF2 {a b:Bool} (h:a=true) (k:b=false):(a && b)=false:=by rw[h,k];rfl

theorem zle (n:Nat):0+n≤n:=Nat.le_of_eq (Nat.zero_add n)
theorem aCN {m n:Nat} (h:oP m n=true):m≤n:=by simpa [oP] using h
theorem rG (n:Nat):eqN n n=true:=by simp [eqN]
theorem eqI_self (n:Int):eqI n n=true:=by simp [eqI]
section
variable {α:Type}
theorem aL (e:α→List AV) (l:List α):(List.map e l).length=l.length:=List.length_map ..
theorem bA {e:α→List AV} {l:List α} {i:Nat} {y:α} (h:l[i]? = some y) (sz j k:Nat) (hk:j+k≤sz):qB sz (List.map e l) i j k=some (((e y).drop j).take k):=by
 unfold qB
 rw[if_pos hk]
 simp [h]
theorem rP {e:α→List AV} {l:List α} {i:Nat} {y:α} (h:l[i]? = some y) (j:Nat) (c:List AV) (y':α) (hc:t5 (e y) j c=e y'):vJ (List.map e l) i j c=some (List.map e (l.set i y')):=by
 unfold vJ
 simp [h,hc,List.map_set]
theorem sE (e:α→List AV) (a b:List α):List.map e a++List.map e b=List.map e (a++b):=(List.map_append ..).symm
theorem cM (e:α→List AV) {l:List α} {n:Nat} (h:n=l.length):(List.map e l).take n=List.map e l:=by rw[h,← aL e l,List.take_length]
theorem take_map (e:α→List AV) (l:List α) (n:Nat):(List.map e l).take n=List.map e (l.take n):=(List.map_take ..).symm
theorem bJ (e:α→List AV) {l:List α} {n:Nat} (h:n=l.length):((List.map e l).drop 0).take n=List.map e l:=cM e h
theorem aJ6 (e:α→List AV) (l:List α) (n:Nat):((List.map e l).drop 0).take n=List.map e (l.take n):=take_map e l n
theorem aHA (e:α→List AV) {l:List α} {n:Nat} (h:n=l.length) (i:Nat):((List.map e l).drop i).take (n - i)=List.map e (l.drop i):=by
 rw[← List.map_drop,cM]
 simp [h]
theorem dJ (e:α→List AV) {l:List α} {n:Nat} (h:n≤l.length):0+n≤(List.map e l).length:=by rw[Nat.zero_add,aL];exact h
theorem le_mapI (e:α→List AV) {l:List α} {i n:Nat} (h:i+n≤l.length):i+n≤(List.map e l).length:=by rw[aL];exact h
end

theorem aD2 {n m:Nat} (h:n≤m):0+n≤m:=by omega
theorem aKJ {α:Type} (e:α→List AV) (l:List α) (i n:Nat) (z:α):(List.map e l).take i++List.replicate n (e z)++(List.map e l).drop (i+n)=List.map e (l.take i++List.replicate n z++l.drop (i+n)):=by simp
def cZ {V:Type}:List (Int × V)→Int→Option V
 | [],_=>none
 | (k,v)::l,q=>if q=k then some v else cZ l q
def jA {V:Type} (l:List (Int × V)) (q:Int):Bool:=(cZ l q).isSome
def bG {V:Type}:List (Int × V)→Int→V→List (Int × V)
 | [],q,x=>[(q,x)]
 | (k,v)::l,q,x=>if q=k then (q,x)::l else (k,v)::bG l q x
def kG {V:Type} (kd:IntKind) (ev:V→AV):Nat→List (Int × V)→List (AV × AV × Nat)
 | _,[]=>[]
 | i,(k,v)::l=>(.int kd k,ev v,i)::kG kd ev (i+1) l
def bK {V:Type} (kd:IntKind) (ev:V→AV) (l:List (Int × V)):List (AV × AV × Nat):=kG kd ev 0 l
section
variable {V:Type} (kd:IntKind) (ev:V→AV)
theorem xJ:∀(i:Nat) (l:List (Int × V)),(kG kd ev i l).length=l.length
 | _,[]=>rfl
 | i,(k,v)::l=>by simp [kG,xJ (i+1) l]
theorem aAF (l:List (Int × V)):(bK kd ev l).length=l.length:=xJ kd ev 0 l
theorem pM (q:Int):∀(i j:Nat) (l:List (Int × V)),pH (.int kd q) (kG kd ev i l) j=some (match cZ l q with | none=>none | some v=>some (j+(l.findIdx fun p=>p.1 == q),ev v,i+(l.findIdx fun p=>p.1 == q)))
 | i,j,[]=>rfl
 | i,j,(k,v)::l=>by
  simp only[kG,pH,keyEq,if_true,cZ]
  by_cases h:q=k
  · subst h
    simp [List.findIdx_cons]
  · have h1:(q == k)=false:=by simpa using h
    have h2:(k == q)=false:=by simpa using fun e=>h e.symm
    simp only[h1,if_neg h,pM q (i+1) (j+1) l]
    cases cZ l q with
    | none=>rfl
    | some x=>simp [List.findIdx_cons,h2];omega
theorem eW {l:List (Int × V)} {q:Int} {y:V} (h:cZ l q=some y):aAH (.int kd q) (bK kd ev l)=some (some (ev y)):=by
 simp [aAH,bK,pM,h]
theorem gP {l:List (Int × V)} {q:Int} (h:jA l q=false):aAH (.int kd q) (bK kd ev l)=some none:=by
 have:cZ l q=none:=by unfold jA at h;cases hg:cZ l q with | none=>rfl | some y=>rw[hg] at h;cases h
 simp [aAH,bK,pM,this]
theorem aBD {q:Int} (x:V):∀(i:Nat) (l:List (Int × V)),cZ l q=none→kG kd ev i (bG l q x)=kG kd ev i l++[(.int kd q,ev x,i+l.length)]∧(bG l q x).length=l.length+1
 | i,[],_=>⟨rfl,rfl⟩
 | i,(k,v)::l,h=>by
  simp only[cZ] at h
  by_cases hk:q=k
  · rw[if_pos hk] at h;cases h
  · rw[if_neg hk] at h
    obtain⟨h1,h2⟩:=aBD x (i+1) l h
    simp only[bG,if_neg hk,kG,h1,List.length_cons,h2,List.cons_append]
    refine⟨?_,trivial⟩
    rw[show i+1+l.length=i+(l.length+1) by omega]
theorem yH {q:Int} (x:V):∀(i:Nat) (l:List (Int × V)) (y:V),cZ l q=some y→kG kd ev i (bG l q x)=(kG kd ev i l).set (l.findIdx fun p=>p.1 == q) (.int kd q,ev x,i+(l.findIdx fun p=>p.1 == q))∧(bG l q x).length=l.length
 | i,[],y,h=>by cases h
 | i,(k,v)::l,y,h=>by
  simp only[cZ] at h
  by_cases hk:q=k
  · subst hk
    simp [bG,kG,List.findIdx_cons]
  · rw[if_neg hk] at h
    obtain⟨h1,h2⟩:=yH x (i+1) l y h
    have h3:(k == q)=false:=by simpa using fun e=>hk e.symm
    simp only[bG,if_neg hk,kG,h1,List.length_cons,h2,List.findIdx_cons,h3,cond_false,List.set_cons_succ]
    refine⟨?_,trivial⟩
    rw[show i+1+(List.findIdx (fun p=>p.1 == q) l)=i+((List.findIdx (fun p=>p.1 == q) l)+1) by omega]
theorem gK (l:List (Int × V)) (q:Int) (x:V):mPutA (.int kd q) (ev x) (bK kd ev l) l.length=some (bK kd ev (bG l q x),(bG l q x).length):=by
 unfold mPutA bK
 rw[pM]
 cases h:cZ l q with
 | none =>
  obtain⟨h1,h2⟩:=aBD kd ev x 0 l h
  simp only[h1,h2,Nat.zero_add]
 | some y =>
  obtain⟨h1,h2⟩:=yH kd ev x 0 l y h
  simp only[h1,h2,Nat.zero_add]
def mIx (l:List (Int × V)) (q:Int):Nat:=l.findIdx fun p=>p.1 == q
theorem aIW:∀{l:List (Int × V)} {q:Int},cZ l q=none→mIx l q=l.length
 | [],q,_=>rfl
 | (k,v)::l,q,h=>by
  simp only[cZ] at h
  by_cases hk:q=k
  · rw[if_pos hk] at h;cases h
  · rw[if_neg hk] at h
    have h3:(k == q)=false:=by simpa using fun e=>hk e.symm
    have:=aIW h
    unfold mIx at *
    rw[List.findIdx_cons,h3,this];rfl
theorem qZ {l:List (Int × V)} {q:Int} (h:jA l q=false):cZ l q=none:=by
 unfold jA at h
 cases hg:cZ l q with
 | none=>rfl
 | some y=>rw[hg] at h;cases h
theorem aI8 (l:List (Int × V)) (q:Int):mIdxA (.int kd q) (bK kd ev l) l.length=mIx l q:=by
 unfold mIdxA bK
 rw[pM]
 cases h:cZ l q with
 | none=>simp only;exact(aIW h).symm
 | some y=>simp only[Nat.zero_add];rfl
theorem aGI:∀{l:List (Int × V)} {q:Int} {y:V},cZ l q=some y→bG l q y=l
 | [],q,y,h=>by cases h
 | (k,v)::l,q,y,h=>by
  simp only[cZ] at h
  unfold bG
  by_cases hk:q=k
  · subst hk
    rw[if_pos rfl] at h ⊢
    cases h;rfl
  · rw[if_neg hk] at h ⊢
    rw[aGI h]
theorem ent_some {l:List (Int × V)} {q:Int} {y:V} (h:cZ l q=some y) (z:AV):aDI (.int kd q) z (bK kd ev l) l.length=some (bK kd ev l,l.length):=by
 unfold aDI bK
 rw[pM,h]
 simp only
 have:=(yH kd ev y 0 l y h).1
 rw[aGI h] at this
 simp only[Nat.zero_add] at this ⊢
 rw[← this]
theorem ent_none {l:List (Int × V)} {q:Int} (h:jA l q=false) (z:V):aDI (.int kd q) (ev z) (bK kd ev l) l.length=some (bK kd ev (bG l q z),(bG l q z).length):=by
 have h:=qZ h
 obtain⟨h1,h2⟩:=aBD kd ev z 0 l h
 unfold aDI bK
 rw[pM,h,h1,h2]
 simp
theorem sb_enc (v:AV):∀(i:Nat) (l:List (Int × V)) (q:Int) (y:V),cZ l q=some y→mI (((i+mIx l q:Nat)):Int) v (kG kd ev i l)=some ((kG kd ev i l).set (mIx l q) (.int kd q,v,i+mIx l q))
 | i,[],q,y,h=>by cases h
 | i,(k,x)::l,q,y,h=>by
  simp only[cZ] at h
  by_cases hk:q=k
  · subst hk
    have e:mIx ((q,x)::l) q=0:=by unfold mIx;rw[List.findIdx_cons];simp
    rw[e]
    simp [kG,mI]
  · rw[if_neg hk] at h
    have h3:(k == q)=false:=by simpa using fun e=>hk e.symm
    have e:mIx ((k,x)::l) q=mIx l q+1:=by unfold mIx;rw[List.findIdx_cons,h3];rfl
    have ih:=sb_enc v (i+1) l q y h
    rw[e,show i+(mIx l q+1)=i+1+mIx l q by omega]
    have hne:¬((i:Int) == ((i+1+mIx l q:Nat):Int))=true:=by simp;omega
    simp only[kG,mI]
    rw[if_neg hne,ih]
    simp
theorem aJ1 {l:List (Int × V)} {q:Int} {y:V} (h:cZ l q=some y) (x:V):(mI ((mIx l q:Nat):Int) (ev x) (bK kd ev l)).map (fun es'=>(es',l.length))=some (bK kd ev (bG l q x),(bG l q x).length):=by
 have:=sb_enc kd ev (ev x) 0 l q y h
 rw[Nat.zero_add] at this
 obtain⟨h1,h2⟩:=yH kd ev x 0 l y h
 unfold bK
 rw[this,h1,h2,Nat.zero_add]
 rfl
theorem yG:∀(l:List (Int × V)) (q:Int) (z:V),cZ (bG l q z) q=some z
 | [],q,z=>by simp [bG,cZ]
 | (k,v)::l,q,z=>by
  unfold bG
  by_cases hk:q=k
  · rw[if_pos hk];simp [cZ]
  · rw[if_neg hk]
    unfold cZ
    rw[if_neg hk]
    exact yG l q z
theorem ix_put:∀(l:List (Int × V)) (q:Int) (z:V),mIx (bG l q z) q=mIx l q
 | [],q,z=>by simp [bG,mIx,List.findIdx_cons]
 | (k,v)::l,q,z=>by
  have ih:=ix_put l q z
  unfold mIx at *
  unfold bG
  by_cases hk:q=k
  · subst hk;rw[if_pos rfl,List.findIdx_cons,List.findIdx_cons]
  · have h3:(k == q)=false:=by simpa using fun e=>hk e.symm
    rw[if_neg hk,List.findIdx_cons,List.findIdx_cons,h3,ih]
theorem aI0:∀(l:List (Int × V)) (q:Int) (z x:V),bG (bG l q z) q x=bG l q x
 | [],q,z,x=>by simp [bG]
 | (k,v)::l,q,z,x=>by
  by_cases hk:q=k
  · simp [bG,hk]
  · simp [bG,hk,aI0 l q z x]
theorem sb_none {l:List (Int × V)} {q:Int} (z x:V):(mI ((mIx l q:Nat):Int) (ev x) (bK kd ev (bG l q z))).map (fun es'=>(es',(bG l q z).length))=some (bK kd ev (bG l q x),(bG l q x).length):=by
 have:=aJ1 kd ev (yG l q z) x
 rw[ix_put,aI0] at this
 exact this

end

theorem eqf {b:Bool} (h:¬b=true):b=false:=by simpa using h
def insP {α:Type} (bt:Nat) (i:Int) (l v:List α):Option (List α):=if v.length=1∧0≤i∧i≤(l.length:Int)∧(l.length+1)*bt≤140737488355328 then some (l.take i.toNat++v++l.drop i.toNat) else none
def delP {α:Type} (i j:Int) (l:List α):Option (List α):=if 0≤i∧i<(l.length:Int)∧j=i+1∧l.length≤140737488355328 then some (l.take i.toNat++l.drop (i.toNat+1)) else none
theorem ws:(∀{a b:Int},ltI a b=true↔a<b)∧(∀{a b:Int},eqI a b=true↔a=b)∧(∀{a b:ByteArray},eqS a b=true↔a=b)∧(∀{a b:Bool},eqB a b=true↔a=b) ∧
 (∀{q:Int} {n:Nat},inI q n=true↔0≤q∧q<(n:Int))∧(∀{q:Int} {n:Nat},leI q n=true↔0≤q∧q≤(n:Int))∧(∀{m n:Nat},oP m n=true↔m≤n)∧(∀{n:Nat},isZ n=true↔n=0)∧(∀{m n:Nat},eqN m n=true↔m=n) ∧
 (∀{n:Nat},fD n=true↔n≤140737488355328)∧(∀n:Nat,nI n=(n:Int))∧(∀s:ByteArray,ssz s=(s.size:Int))∧(∀q:Int,tN q=q.toNat) ∧
 (∀{a b:Int},-9223372036854775808≤a+b∧a+b≤9223372036854775807→aN IntKind.i64 a b=a+b)∧(∀{a b:Int},-9223372036854775808≤a - b∧a - b≤9223372036854775807→isub IntKind.i64 a b=a - b) ∧
 (∀{a b:Int},-9223372036854775808≤a*b∧a*b≤9223372036854775807→imul IntKind.i64 a b=a*b)∧(∀{a:Int},-9223372036854775808≤a∧a≤9223372036854775807→conv IntKind.i64 a=a)∧(∀{a:Int},0≤a∧a<256→conv IntKind.u8 a=a) ∧
 (∀{a:Int},0≤a∧a<4294967296→conv IntKind.u32 a=a)∧(∀{a b:Int},0≤a+b∧a+b<4294967296→aN IntKind.u32 a b=a+b)∧(∀{a b:Int},0≤a*b∧a*b<4294967296→imul IntKind.u32 a b=a*b) ∧
 (∀{k:IntKind} {a b:Int},0≤a→irem k a b=a % b)∧(∀{a b:Int},0≤a∧a≤9223372036854775807∧0<b→iquo IntKind.i64 a b=a / b)∧(∀{a b:Int},0≤a∧a<4294967296∧0<b→iquo IntKind.u32 a b=a / b) ∧
 (∀{a b:Int},a≤b→imin a b=a)∧(∀{a b:Int},b≤a→imin a b=b)∧(∀{a b:Int},b≤a→imax a b=a)∧(∀{a b:Int},a≤b→imax a b=b) :=
 ⟨aEC,fE,eqS_iff,aD4,aI4,leI_iff,capI_iff,isZ_iff,eqN_iff,aKW,nI_def,ssz_def,tN_def,aHY,isub64,imul64,conv64,conv8,conv32,iadd32,imul32,irem_pos,iquo64,iquo32,imin_l,imin_r,imax_l,imax_r⟩
theorem wl:(∀{α:Type} {a b:List α},(a++b).length=a.length+b.length)∧(∀{α:Type} {x:α} {a:List α},(x::a).length=a.length+1)∧(∀{α:Type},([]:List α).length=0)∧(∀{α:Type} {n:Nat} {a:List α},(a.take n).length=min n a.length) ∧
 (∀{α:Type} {n:Nat} {a:List α},(a.drop n).length=a.length - n)∧(∀{α:Type} {n:Nat} {x:α} {a:List α},(a.set n x).length=a.length)∧(∀{α:Type} {n:Nat} {x:α},(List.replicate n x).length=n)∧((¬True)=False)∧((¬False)=True)∧((false=true)=False)∧((!true)=false)∧((!false)=true) :=
 ⟨List.length_append,List.length_cons,List.length_nil,List.length_take,List.length_drop,List.length_set,List.length_replicate,not_true_eq_false,not_false_eq_true,Bool.false_eq_true,rfl,rfl⟩
theorem bsm {α β:Type} {o:Option α} {f:α→Option β} {r:β} (h:o.bind f=some r):∃a,o=some a∧f a=some r:=Option.bind_eq_some_iff.1 h
theorem osi {α:Type} {a b:α} (h:some a=some b):a=b:=Option.some.inj h
theorem rT:true=true:=rfl
theorem rF:false=false:=rfl
def dt:Ans:=.d true
def df:Ans:=.d false
theorem ip {α:Type} {c:Prop} [Decidable c] {a b x:α} (hc:c) (h:a=x):(if c then a else b)=x:=(if_pos hc).trans h
theorem jn {α:Type} {c:Prop} [Decidable c] {a b x:α} (hc:¬c) (h:b=x):(if c then a else b)=x:=(if_neg hc).trans h
theorem el {α β γ:Type} {f:α→γ} {g:β→γ} {a:α} {x:γ} (h:f a=x):Sum.elim f g (.inl a)=x:=h
theorem er {α β γ:Type} {f:α→γ} {g:β→γ} {a:β} {x:γ} (h:g a=x):Sum.elim f g (.inr a)=x:=h
theorem wb:(∀{b:Bool},((!b)=true)=(b=false))∧(∀{b:Bool},(b=false)=¬b=true)∧(∀{a b:Bool},((!a)=b)=(a = !b)):=by
 refine⟨fun {b}=>?_,fun {b}=>?_,fun {a b}=>?_⟩
 · cases b<;>simp
 · cases b<;>simp
 · cases a<;>cases b<;>simp
theorem sd {p:Prop} (h:p:=by first|with_reducible rfl | assumption | (simp (disch:=omega) only[ws,wl,wb]<;>omega)|omega):p:=h
theorem ip0 {α:Type} {c:Prop} [Decidable c] {a b x:α} (h:a=x) (hc:c:=by first|with_reducible rfl | assumption | (simp (disch:=omega) only[ws,wl,wb]<;>omega)|omega):(if c then a else b)=x:=(if_pos hc).trans h
theorem jn0 {α:Type} {c:Prop} [Decidable c] {a b x:α} (h:b=x) (hc:¬c:=by first|with_reducible rfl | assumption | (simp (disch:=omega) only[ws,wl,wb]<;>omega)|omega):(if c then a else b)=x:=(if_neg hc).trans h
end Go.Ws

namespace Go.Ws
set_option linter.unusedVariables false
set_option linter.unusedSimpArgs false
section
variable {V:Type}
def hL (h:List (Option (Int × V))):List (Int × V):=h.filterMap id
variable (kd:IntKind) (ev:V→AV)
end
end Go.Ws

namespace Go.Ws
set_option linter.unusedVariables false
set_option linter.unusedSimpArgs false
def opsT:Code→List Oper
 | .region _ ops _=>ops.toList.tail
 | _=>[]
def opAt (c:Code) (n:Nat):Oper:=match c with
 | .region _ ops _=>ops.getD n default
 | _=>default
theorem Tc.code {P:Program} (hm:P.follows .mixedOrders=true) {x:Ctx} {c:Code} {st:St} {o:GX} (an:List Ans) (ps:List Prf) (e:oA (Tri P) (Tc P x) (cT P) x c st an []=some (o,[],ps.map (fun q=>q.p))):Tc P x c st o :=
 (xH hm c st _ _ _ _ _ e).2 (aA4 ps)
def lessB:List AV→List AV→List Bool→List AV
 | _::t',v::t,b::bs=>(if b then v else .any)::lessB t' t bs
 | _,_,_=>[]
def aHT:AV→Bool
 | .any=>true
 | _=>false
theorem aJO:∀(t' t:List AV),t'.length=t.length→lessB t' t (t'.map fun v=>!aHT v)=t'→rX t' t
 | [],[],_,_=>⟨rfl,fun i v h=>by simp at h⟩
 | [],_::_,h,_=>by cases h
 | _::_,[],h,_=>by cases h
 | x::t',y::t,hl,h=>by
  simp only[List.map_cons,lessB,List.cons.injEq] at h
  have ih:=aJO t' t (by simpa using hl) h.2
  refine⟨hl,fun i v hv=>?_⟩
  cases i with
  | zero =>
   simp at hv
   subst hv
   cases hx:aHT x with
   | true =>
    left
    cases x<;>first|rfl | cases hx
   | false =>
    right
    rw[hx] at h
    simp at h
    simp [h.1]
  | succ i=>exact ih.2 i v (by simpa using hv)
theorem bQ {t' t:List AV} (hl:t'.length=t.length) (h:lessB t' t (t'.map fun v=>!aHT v)=t'):rX t' t:=aJO t' t hl h
section
variable {P:Program} {x:Ctx} {b i1 d1 s0 mt kt et ty1 ty2 d2 d3 d4 d5 bB cB i2 i3 ty3 ty4 ty5:Nat} {p1 p2 p3 p4 p5:String} {af1 af2 af3 af4 af5:Array Edge} {l3:List Oper} {REST:Code}
end
end Go.Ws

namespace Go.Ws
set_option linter.unusedVariables false

noncomputable def lim {α:Type} (g:Nat→Option α):Option α:=open Classical in if h:∃r,Evp g r then some h.choose else none
theorem Evp.one {α:Type} {g:Nat→Option α} {r s:α} (h1:Evp g r) (h2:Evp g s):r=s:=by
 obtain⟨n,h1⟩:=h1
 obtain⟨m,h2⟩:=h2
 have a:=h1 (max n m) (by omega)
 have b:=h2 (max n m) (by omega)
 rw[a] at b
 exact Option.some.inj b
theorem aAZ {α:Type} {g:Nat→Option α} {r:α}:lim g=some r↔Evp g r:=by
 unfold lim
 constructor
 · intro h
   split at h
   · rename_i hh
     cases h
     exact hh.choose_spec
   · cases h
 · intro h
   have hh:∃r,Evp g r:=⟨r,h⟩
   rw[dif_pos hh]
   exact congrArg some (Evp.one hh.choose_spec h)
def OLe {α:Type} (a b:Option α):Prop:=∀r,a=some r→b=some r
theorem OLe.refl {α:Type} (a:Option α):OLe a a:=fun _ h=>h
theorem OLe.none {α:Type} (a:Option α):OLe none a:=fun _ h=>by cases h
theorem OLe.ite {α:Type} {c:Prop} [Decidable c] {a b a' b':Option α} (h1:OLe a a') (h2:OLe b b'):OLe (if c then a else b) (if c then a' else b'):=by
 by_cases h:c
 · rw[if_pos h,if_pos h];exact h1
 · rw[if_neg h,if_neg h];exact h2
theorem OLe.bind {α β:Type} {a a':Option α} {f f':α→Option β} (h1:OLe a a') (h2:∀x,OLe (f x) (f' x)):OLe (a.bind f) (a'.bind f'):=by
 intro r h
 obtain⟨x,hx,h⟩:=Option.bind_eq_some_iff.1 h
 rw[h1 x hx]
 exact h2 x r h
theorem OLe.elim {α β γ:Type} {f f':α→Option γ} {g g':β→Option γ} {q:Sum α β} (h1:∀x,OLe (f x) (f' x)) (h2:∀x,OLe (g x) (g' x)):OLe (Sum.elim f g q) (Sum.elim f' g' q):=by
 cases q with
 | inl x=>exact h1 x
 | inr x=>exact h2 x
def Mono {α:Type} (g:Nat→Option α):Prop:=∀k,OLe (g k) (g (k+1))
theorem Mono.up {α:Type} {g:Nat→Option α} (h:Mono g) {k:Nat} {r:α} (hk:g k=some r):∀j,k≤j→g j=some r:=by
 intro j hj
 induction j with
 | zero=>rw[show k=0 by omega] at hk;exact hk
 | succ j ih =>
  by_cases hh:k≤j
  · exact h j r (ih hh)
  · rw[show k=j+1 by omega] at hk;exact hk
theorem Mono.le {α:Type} {g:Nat→Option α} (h:Mono g) (k:Nat):OLe (g k) (lim g):=fun r hk=>aAZ.2 ⟨k,fun j hj=>h.up hk j hj⟩
theorem lim_get {α:Type} {g:Nat→Option α} {r:α} (h:lim g=some r):∃k,g k=some r:=(aAZ.1 h).get
def OEv {α:Type} (g:Nat→Option α) (o:Option α):Prop:=∀r,o=some r→Evp g r
theorem OEv.const {α:Type} (o:Option α):OEv (fun _=>o) o:=fun r h=>⟨0,fun _ _=>h⟩
theorem OEv.lim {α:Type} (g:Nat→Option α):OEv g (lim g):=fun r h=>aAZ.1 h
theorem OEv.ite {α:Type} {c:Prop} [Decidable c] {g1 g2:Nat→Option α} {o1 o2:Option α} (h1:OEv g1 o1) (h2:OEv g2 o2):OEv (fun k=>if c then g1 k else g2 k) (if c then o1 else o2):=by
 intro r h
 by_cases hc:c
 · rw[if_pos hc] at h;exact .ite_t hc (h1 r h)
 · rw[if_neg hc] at h;exact .ite_f hc (h2 r h)
theorem OEv.bind {α β:Type} {g:Nat→Option α} {o:Option α} {f:Nat→α→Option β} {f':α→Option β} (h1:OEv g o) (h2:∀x,OEv (fun k=>f k x) (f' x)):OEv (fun k=>(g k).bind (fun x=>f k x)) (o.bind f'):=by
 intro r h
 obtain⟨x,hx,h⟩:=Option.bind_eq_some_iff.1 h
 exact(h1 x hx).bind (h2 x r h)
theorem OEv.elim {α β γ:Type} {f:Nat→α→Option γ} {f':α→Option γ} {g:Nat→β→Option γ} {g':β→Option γ} {q:Sum α β} (h1:∀x,OEv (fun k=>f k x) (f' x)) (h2:∀x,OEv (fun k=>g k x) (g' x)) :
 OEv (fun k=>Sum.elim (fun x=>f k x) (fun x=>g k x) q) (Sum.elim f' g' q):=by
 cases q with
 | inl x=>exact h1 x
 | inr x=>exact h2 x
theorem lim_eq {α:Type} {g:Nat→Option α} {o:Option α} (h1:∀k,OLe (g k) o) (h2:OEv g o):lim g=o:=by
 cases ho:o with
 | some r=>exact aAZ.2 (h2 r ho)
 | none =>
  cases hl:lim g with
  | none=>rfl
  | some r =>
   obtain⟨k,hk⟩:=lim_get hl
   have:=h1 k r hk
   rw[ho] at this
   cases this
theorem aGA {α:Type} {g f:Nat→Option α} {o:Option α} (h0:g 0=none) (hs:∀k,g (k+1)=f k) (h1:∀k,OLe (f k) o) (h2:OEv f o):lim g=o :=
 lim_eq (fun k=>match k with
  | 0=>fun r h=>by rw[h0] at h;cases h
  | k+1=>by rw[hs];exact h1 k) fun r h=>.step hs (h2 r h)
structure Lm {α:Type} (g:Nat→Option α) (o:Option α):Prop where
 mono:∀k,OLe (g k) (g (k+1))
 le:∀k,OLe (g k) o
 ev:OEv g o
theorem Lm.const {α:Type} (o:Option α):Lm (fun _=>o) o:=⟨fun _=>OLe.refl o,fun _=>OLe.refl o,OEv.const o⟩
theorem Lm.ite {α:Type} {c:Prop} [Decidable c] {g1 g2:Nat→Option α} {o1 o2:Option α} (h1:Lm g1 o1) (h2:Lm g2 o2):Lm (fun k=>if c then g1 k else g2 k) (if c then o1 else o2) :=
 ⟨fun k=>OLe.ite (h1.mono k) (h2.mono k),fun k=>OLe.ite (h1.le k) (h2.le k),OEv.ite h1.ev h2.ev⟩
theorem Lm.bind {α β:Type} {g:Nat→Option α} {o:Option α} {f:Nat→α→Option β} {f':α→Option β} (h1:Lm g o) (h2:∀x,Lm (fun k=>f k x) (f' x)):Lm (fun k=>(g k).bind (fun x=>f k x)) (o.bind f') :=
 ⟨fun k=>OLe.bind (h1.mono k) fun x=>(h2 x).mono k,fun k=>OLe.bind (h1.le k) fun x=>(h2 x).le k,OEv.bind h1.ev fun x=>(h2 x).ev⟩
theorem Lm.elim {α β γ:Type} {f:Nat→α→Option γ} {f':α→Option γ} {g:Nat→β→Option γ} {g':β→Option γ} {q:Sum α β} (h1:∀x,Lm (fun k=>f k x) (f' x)) (h2:∀x,Lm (fun k=>g k x) (g' x)) :
 Lm (fun k=>Sum.elim (fun x=>f k x) (fun x=>g k x) q) (Sum.elim f' g' q) :=
 ⟨fun k=>OLe.elim (fun x=>(h1 x).mono k) fun x=>(h2 x).mono k,fun k=>OLe.elim (fun x=>(h1 x).le k) fun x=>(h2 x).le k,OEv.elim (fun x=>(h1 x).ev) fun x=>(h2 x).ev⟩
theorem Lm.lim {α:Type} {g:Nat→Option α} (h:Mono g):Lm g (lim g):=⟨h,h.le,OEv.lim g⟩
theorem Lm.step {α:Type} {g f:Nat→Option α} {o:Option α} (h0:g 0=none) (hs:∀k,g (k+1)=f k) (h:Lm f o):Go.Ws.lim g=o:=aGA h0 hs h.le h.ev
theorem Lm.get {α:Type} {g:Nat→Option α} {o:Option α} (h:Lm g o) {r:α} (hr:o=some r):∃k,g k=some r:=(h.ev r hr).get
end Go.Ws

namespace Go.Ws
open Go
theorem aFM (a:Int):IntKind.i64.wrap a=(a+9223372036854775808) % 18446744073709551616 - 9223372036854775808:=by
 simp [IntKind.wrap,IntKind.bits,IntKind.signed];omega
theorem aEM (a:Int):IntKind.i64.wrap a % 18446744073709551616=a % 18446744073709551616:=by rw[aFM];omega
theorem aKV {a b:Int} (h:a % 18446744073709551616=b % 18446744073709551616):IntKind.i64.wrap a=IntKind.i64.wrap b:=by rw[aFM,aFM];omega
theorem w64_inj {a b:Int} (h:IntKind.i64.wrap a=IntKind.i64.wrap b):a % 18446744073709551616=b % 18446744073709551616:=by rw[← aEM a,← aEM b,h]
theorem w64_addl (a b:Int):IntKind.i64.wrap (IntKind.i64.wrap a+b)=IntKind.i64.wrap (a+b):=aKV (by have:=aEM a;omega)
theorem w64_0:IntKind.i64.wrap 0=0:=by decide
theorem w64_rng (a:Int) : -9223372036854775808≤IntKind.i64.wrap a∧IntKind.i64.wrap a≤9223372036854775807:=by rw[aFM];omega
theorem ishrU64 (a:Int) (n:Nat) (h:n≤64):tK .u64 a (n:Int)=a / 2 ^ n:=by
 unfold tK
 rw[Int.toNat_natCast,show min n IntKind.u64.bits=n from Nat.min_eq_left h,Int.fdiv_eq_ediv_of_nonneg _ (by exact_mod_cast Nat.zero_le (2 ^ n))]
theorem mid64 {a b:Nat} (h:a+b≤9223372036854775807):conv .i64 (tK .u64 (conv .u64 (aN .i64 (a:Int) (b:Int))) 1)=(((a+b) / 2:Nat):Int):=by
 rw[aHY (by omega),convu64 (by omega),show (1:Int)=((1:Nat):Int) from rfl,ishrU64 _ 1 (by omega)]
 rw[show (2:Int) ^ 1=2 from rfl,conv64 (by omega)]
 omega
theorem iadd8 {a b:Int} (h:0≤a+b∧a+b<256):aN .u8 a b=a+b:=wrap8 h
theorem mid_get {α:Type} (A R:List α) (x:α):(A++x::R)[A.length]? = some x:=by simp
theorem mid_set {α:Type} (A R:List α) (x y:α):List.set (A++x::R) A.length y=A++y::R:=by simp
end Go.Ws

namespace Go.Ws
open Go.RowKit
set_option linter.unusedVariables false

theorem aH4 {σ:Sig} {π:bE} {w w':World} (R:Rel σ π w (([]:List Blk)[·]?)) (hb:Below w.heap.size w w'):Done σ π w σ π w' (([]:List Blk)[·]?) where
 ext:=⟨fun _ _ _ h=>h,fun _ _ h=>h,fun B o h=>hb.cell (p:=⟨B,o,none⟩) (R.prot B o h),fun b g l C e fr h=>(by rw[R.non b rfl g] at h;cases h),fun B o C k hp h=>(hb.block B (R.prot B o hp)).trans h⟩
 frm:=⟨hb.size,hb.os,hb.tape,hb.output,fun B hB _=>hb.block B hB,fun b g l h=>(by rw[R.non b rfl g] at h;cases h),fun B o h=>.inl h⟩
 rel:=⟨fun b x h=>(by cases h),R.non,R.inj,fun b g l h=>(by rw[R.non b rfl g] at h;cases h),fun B o h=>Nat.lt_of_lt_of_le (R.prot B o h) hb.size⟩

theorem done_row {σ:Sig} {π:bE} {w w':World} (R:Rel σ π w (([]:List Blk)[·]?)) (hb:Below w.heap.size w w') {sz L:Nat} {rows:List (List AV)} (hsz:0<sz) (hf:dW sz rows) (hlen:rows.length=L) {v:Value} {e:TypeId} {xs:List Value}
 (hown:w'.ownsRow w.heap.size e sz v L xs) (hrow:∀(r q:Nat) row a,rows[r]? = some row→row[q]? = some a→∃u,xs[r*sz+q]? = some u∧∀σ π w,VR σ π w a u) :
 ∃σ',VR σ' π w' (.ref sz 0 0 0 L .virt) v∧Done σ π w σ' π w' ([Blk.arr sz rows 0 0 false][·]?):=by
 have hσ:∀b g,σ b g=none:=fun b g=>R.non b rfl g
 have hl0:∀b x,([Blk.arr sz rows 0 0 false][b]? = some x)→b=0∧x = .arr sz rows 0 0 false:=by
  intro b x h
  match b,h with
  | 0,h=>exact⟨rfl,by simpa using h.symm⟩
  | b+1,h=>simp at h
 obtain⟨hx,hown⟩:=hown
 rcases hown with⟨rfl,h0⟩ | ⟨g,cap,cur,rfl,hg,hh,hn,hm,hs,ht⟩
 · subst h0
   have hr0:rows=[]:=List.length_eq_zero_iff.1 hlen
   subst hr0
   have D:=aH4 R hb
   refine⟨σ,.ref0 _ _ _ _,D.ext,D.frm,⟨?_,fun b _ g=>hσ b g,R.inj,fun b g l h=>(by rw[hσ] at h;cases h),D.rel.prot⟩⟩
   intro b x h
   obtain⟨rfl,rfl⟩:=hl0 b x h
   exact⟨hsz,Nat.le_refl _,hf,fun g _=>hσ _ _,.inl ⟨rfl,fun g=>hσ _ _⟩⟩
 · obtain⟨σ',hσ'⟩:∃σ':Sig,σ'=fun b k=>if b=0∧k=0 then some ⟨g,L⟩ else none:=⟨_,rfl⟩
   have s0:σ' 0 0=some ⟨g,L⟩:=by rw[hσ'];rfl
   have sn:∀b k l,σ' b k=some l→b=0∧k=0∧l=⟨g,L⟩:=by
    intro b k l h
    rw[hσ'] at h
    simp only at h
    split at h
    · rename_i hc
      cases h
      exact⟨hc.1,hc.2,rfl⟩
    · cases h
   have hlt:g<w'.heap.size:=(Array.getElem?_eq_some_iff.1 hh).1
   refine⟨σ',?_,⟨?_,fun _ _ h=>h,fun B o h=>hb.cell (p:=⟨B,o,none⟩) (R.prot B o h),fun b k l C e fr h=>(by rw[hσ] at h;cases h),fun B o C k hp h=>(hb.block B (R.prot B o hp)).trans h⟩,
    ⟨hb.size,hb.os,hb.tape,hb.output,fun B hB _=>hb.block B hB,fun b k l h=>?_,fun B o h=>.inl h⟩,⟨?_,?_,?_,?_,fun B o h=>Nat.lt_of_lt_of_le (R.prot B o h) hb.size⟩⟩
   · refine .ref sz 0 0 0 L .virt ⟨g,0,none⟩ cap ⟨g,L⟩ s0 (by simp) hn (fun _=>by simp) (fun _=>by simpa using hn) cur (e,(0,0)) hh ?_
     rw[hs];simp
   · intro b k l h;rw[hσ] at h;cases h
   · obtain⟨_,_,rfl⟩:=sn b k l h
     exact .inl hg
   · intro b x h
     obtain⟨rfl,rfl⟩:=hl0 b x h
     refine⟨hsz,Nat.le_refl _,hf,fun k hk=>?_,.inr ⟨⟨⟨g,L⟩,s0,hlen.symm,fun _ o ho=>?_,fun o _ ho=>?_⟩,fun k l0 hl _ _=>?_⟩⟩
     · rw[hσ'];simp;omega
     · have:=R.prot _ _ ho;simp only at this;omega
     · have:=R.prot _ _ ho;simp only at this;omega
     · obtain⟨_,rfl,rfl⟩:=sn _ _ _ hl
       refine⟨⟨g,L⟩,cur,(e,(0,0)),s0,by simp [hlen],hh,⟨?_,.zero _ _⟩,fun r row hr hrw q a ha=>?_⟩
       · show L*sz≤cur.size
         rw[hs];exact Nat.mul_le_mul_right _ hn
       · obtain⟨u,hu,hv⟩:=hrow r q row a hrw ha
         refine⟨u,?_,hv _ _ _⟩
         have hlt2:r*sz+q<xs.length:=(List.getElem?_eq_some_iff.1 hu).1
         rw[← ht,List.getElem?_take_of_lt (by omega)] at hu
         simpa using hu
   · intro b h k
     cases hk:σ' b k with
     | none=>rfl
     | some l =>
      obtain⟨rfl,_,_⟩:=sn _ _ _ hk
      simp at h
   · intro b k b' k' l l' h h' _
     obtain⟨rfl,_,_⟩:=sn _ _ _ h
     obtain⟨rfl,_,_⟩:=sn _ _ _ h'
     rfl
   · intro b k l h
     obtain⟨_,_,rfl⟩:=sn _ _ _ h
     exact hlt

theorem Tri.freeze {P:Program} {f:Nat} {args:List AV} {sz n:Nat} {rows:List (List AV)} (h:Tri P f args [] (.ref sz 0 0 0 n .virt) [.arr sz rows 0 0 false]) (hn:n=rows.length):Tri P f args [] (.sl sz rows) []:=by
 obtain⟨h1,_,h3⟩:=h
 refine⟨h1,Nat.le_refl _,fun σ π w cargs R hv=>(h3 σ π w cargs R hv).mono ?_⟩
 rintro e w' ⟨u,σ',π',rfl,hu,D⟩
 have hσ:∀b g,σ b g=none:=fun b g=>R.non b rfl g
 have rel0:∀π2:bE,(∀B o,π2 B o→B<w'.heap.size)→Rel σ π2 w' (([]:List Blk)[·]?):=fun π2 hp =>
  ⟨fun b x h=>(by cases h),fun b _ g=>hσ b g,R.inj,fun b g l h=>(by rw[hσ] at h;cases h),hp⟩
 have hb:([Blk.arr sz rows 0 0 false][0]? : Option Blk)=some (.arr sz rows 0 0 false):=rfl
 cases hu with
 | ref0 _ _ _ a =>
  have hr:rows=[]:=List.length_eq_zero_iff.1 hn.symm
  subst hr
  exact⟨_,σ,π',rfl,.sl0 sz a 0 (fun _=>rfl),⟨fun b g l h=>(by rw[hσ] at h;cases h),D.ext.prot,D.ext.cell,fun b g l C e fr h=>(by rw[hσ] at h;cases h),D.ext.mapc⟩,
   ⟨D.frm.size,D.frm.os,D.frm.tape,D.frm.output,D.frm.same,fun b g l h=>(by rw[hσ] at h;cases h),fun B o hp=>D.frm.pro B o hp⟩,rel0 π' D.rel.prot⟩
 | ref _ _ _ _ _ _ a c l hl hi hn2 ha hf C te hC hs =>
  obtain⟨q1,q2,q3,q4,⟨l2,c1,c2,c3,c4⟩,q6⟩:=BR.real (D.rel.blk 0 _ hb) hl
  rw[hl] at c1
  cases c1
  obtain⟨l3,C3,te3,p1,p2,p3,p4,p5⟩:=q6 0 l hl (Nat.le_refl _) (Nat.le_refl _)
  rw[hl] at p1
  cases p1
  rw[hC] at p3
  simp only[Option.some.injEq,Obj.cells.injEq] at p3
  obtain⟨rfl,-,-⟩:=p3
  have hlt:=D.rel.lt _ _ _ hl
  obtain⟨π2,hπ2⟩:∃π2:bE,π2=fun B o=>π' B o∨(B=l.blk∧o<rows.length*sz):=⟨_,rfl⟩
  have E:Ext σ' π' w' σ' π2 w':=⟨fun _ _ _ h=>h,fun B o h=>by rw[hπ2];exact .inl h,fun _ _ _=>rfl,fun _ _ _ C _ fr _ h=>⟨C,fr,h,rfl⟩,fun _ _ _ _ _ h=>h⟩
  have hin:∀(r q:Nat) row v,rows[r]? = some row→row[q]? = some v→r*sz+q<rows.length*sz:=by
   intro r q row v hrow hq
   obtain⟨hrl,hre⟩:=List.getElem?_eq_some_iff.1 hrow
   have hlen:=(q3 row (hre▸List.getElem_mem hrl)).1
   obtain⟨hql,_⟩:=List.getElem?_eq_some_iff.1 hq
   have:(r+1)*sz≤rows.length*sz:=Nat.mul_le_mul_right _ hrl
   rw[Nat.add_mul,Nat.one_mul] at this
   omega
  have hcell:∀(r q:Nat) row v,rows[r]? = some row→row[q]? = some v→∃x,C[r*sz+q]? = some x∧VR σ π2 w' v x:=by
   intro r q row v hrow hq
   obtain⟨hrl,hre⟩:=List.getElem?_eq_some_iff.1 hrow
   obtain⟨x,hx,hvx⟩:=p5 r row (by omega) hrow q v hq
   have hfl:=((q3 row (hre▸List.getElem_mem hrl)).2 v (List.mem_of_getElem? hq)).2
   exact⟨x,hx,(hvx.mono E).flat_any hfl σ⟩
  have hprot:∀B o,π2 B o→B<w'.heap.size:=by
   intro B o hp
   rw[hπ2] at hp
   rcases hp with hp | ⟨rfl,_⟩
   · exact D.rel.prot B o hp
   · exact hlt
  refine⟨_,σ,π2,rfl,?_,⟨fun b g l h=>(by rw[hσ] at h;cases h),fun B o h=>(by rw[hπ2];exact .inl (D.ext.prot B o h)),D.ext.cell,fun b g l C e fr h=>(by rw[hσ] at h;cases h),D.ext.mapc⟩,
   ⟨D.frm.size,D.frm.os,D.frm.tape,D.frm.output,D.frm.same,fun b g l h=>(by rw[hσ] at h;cases h),fun B o hp=>?_⟩,rel0 π2 hprot⟩
  · by_cases hc0:c=0
    · subst hc0
      have hn0:n=0:=by omega
      subst hn0
      have hr:rows=[]:=List.length_eq_zero_iff.1 hn.symm
      subst hr
      exact .sl0 sz (some a) 0 (fun _=>rfl)
    · obtain rfl:=ha (by omega)
      have:=VR.sl (σ:=σ) (π:=π2) (w:=w') sz rows l.blk (0*sz) c (fun r q=>(C[r*sz+q]?).getD undef) q3 (by omega) (fun r q row v hrow hq=>by
       obtain⟨x,hx,_⟩:=hcell r q row v hrow hq
       refine⟨?_,by rw[hπ2];exact .inr ⟨rfl,by have:=hin r q row v hrow hq;omega⟩⟩
       simp only[World.cell?,hC,Nat.zero_mul,Nat.zero_add,hx]
       rfl) (fun r q row v hrow hq=>by
       obtain⟨x,hx,hvx⟩:=hcell r q row v hrow hq
       rw[hx]
       exact hvx)
      rw[hn]
      exact this
  · rw[hπ2] at hp
    rcases hp with hp | ⟨rfl,_⟩
    · exact D.frm.pro B o hp
    · rcases D.frm.own 0 0 l hl with h4 | ⟨b0,g0,l0,h4,h5⟩
      · exact .inr (.inl h4)
      · rw[hσ] at h4;cases h4

theorem aKP {V:Type} (kd:IntKind) (ev:V→AV) (h:∀y,(ev y).refs=[]) {l:List (Int × V)}:∀e∈bK kd ev l,e.1.refs=[]∧e.2.1.refs=[]:=by
 have:∀(l:List (Int × V)) (i:Nat),∀e∈kG kd ev i l,e.1.refs=[]∧e.2.1.refs=[]:=by
  intro l
  induction l with
  | nil=>intro i e he;cases he
  | cons p l ih =>
   intro i e he
   obtain⟨k,v⟩:=p
   rcases List.mem_cons.1 he with rfl | he
   · exact⟨rfl,h v⟩
   · exact ih _ e he
 exact this l 0
theorem Tri.fmap {P:Program} {f:Nat} {args:List AV} {es:List (AV × AV × Nat)} {cl:Nat} (h:Tri P f args [] (.mp 0) [.map es cl]) (hr:∀e∈es,e.1.refs=[]∧e.2.1.refs=[]):Tri P f args [] (uL es cl) []:=by
 obtain⟨h1,_,h3⟩:=h
 refine⟨h1,Nat.le_refl _,fun σ π w cargs R hv=>(h3 σ π w cargs R hv).mono ?_⟩
 rintro e w' ⟨u,σ',π',rfl,hu,D⟩
 have hσ:∀b g,σ b g=none:=fun b g=>R.non b rfl g
 have hb:([Blk.map es cl][0]? : Option Blk)=some (.map es cl):=rfl
 cases hu with
 | mp _ l hl =>
  obtain⟨l',C,q1,q2,q3,q4,q5⟩:=D.rel.blk 0 _ hb
  rw[hl] at q1
  cases q1
  have hlt:=D.rel.lt _ _ _ hl
  obtain⟨π2,hπ2⟩:∃π2:bE,π2=fun B o=>π' B o∨(B=l.blk∧o=0):=⟨_,rfl⟩
  have E:Ext σ' π' w' σ' π2 w':=⟨fun _ _ _ h=>h,fun B o h=>by rw[hπ2];exact .inl h,fun _ _ _=>rfl,fun _ _ _ C _ fr _ h=>⟨C,fr,h,rfl⟩,fun _ _ _ _ _ h=>h⟩
  have hprot:∀B o,π2 B o→B<w'.heap.size:=by
   intro B o hp
   rw[hπ2] at hp
   rcases hp with hp | ⟨rfl,_⟩
   · exact D.rel.prot B o hp
   · exact hlt
  have hat:∀(i:Nat) x,es[i]? = some x→∀e,C[i]? = some e→VR σ π2 w' x.1 e.key∧VR σ π2 w' x.2.1 e.val∧e.born=x.2.2:=fun i x hx e he=>by
   obtain⟨a1,a2,a3,a4,a5⟩:=q5 i x.1 x.2.1 x.2.2 e hx he
   exact⟨(a1.mono E).flat_any a5 σ,(a2.mono E).flat_any a4 σ,a3⟩
  refine⟨_,σ,π2,rfl,?_,⟨fun b g l h=>(by rw[hσ] at h;cases h),fun B o h=>(by rw[hπ2];exact .inl (D.ext.prot B o h)),D.ext.cell,fun b g l C e fr h=>(by rw[hσ] at h;cases h),D.ext.mapc⟩,
   ⟨D.frm.size,D.frm.os,D.frm.tape,D.frm.output,D.frm.same,fun b g l h=>(by rw[hσ] at h;cases h),fun B o hp=>?_⟩,⟨fun b x h=>(by cases h),fun b _ g=>hσ b g,R.inj,fun b g l h=>(by rw[hσ] at h;cases h),hprot⟩⟩
  · unfold uL
    refine .fm _ _ _ l.blk cl C q2 (by rw[hπ2];exact .inr ⟨rfl,rfl⟩) (by rw[List.length_map];exact q3) (by simp) (by simp) (fun i k e hi he=>?_) (fun i v e hi he=>?_) (fun i b e hi he=>?_) (fun v hv=>?_)
    · rw[List.getElem?_map] at hi
      obtain⟨x,hx,rfl⟩:=Option.map_eq_some_iff.1 hi
      exact(hat i x hx e he).1
    · rw[List.getElem?_map] at hi
      obtain⟨x,hx,rfl⟩:=Option.map_eq_some_iff.1 hi
      exact(hat i x hx e he).2.1
    · rw[List.getElem?_map] at hi
      obtain⟨x,hx,rfl⟩:=Option.map_eq_some_iff.1 hi
      exact(hat i x hx e he).2.2
    · rcases List.mem_append.1 hv with hv | hv
      · obtain⟨x,hx,rfl⟩:=List.mem_map.1 hv
        exact(hr x hx).1
      · obtain⟨x,hx,rfl⟩:=List.mem_map.1 hv
        exact(hr x hx).2
  · rw[hπ2] at hp
    rcases hp with hp | ⟨rfl,_⟩
    · exact D.frm.pro B o hp
    · rcases D.frm.own 0 0 l hl with h | ⟨b0,g0,l0,h1,h2⟩
      · exact .inr (.inl h)
      · rw[hσ] at h1;cases h1
end Go.Ws

namespace Go.Ws
open Go.Proofs
set_option linter.unusedVariables false
set_option linter.unusedSimpArgs false

section
variable {P:Program} {σ:Sig} {π:bE} {w:World} {h:Nat→Option Blk} {n:Nat}

theorem xO {ts:Array TypeId} {dt ty e:TypeId} {inf:TypeInfo} (hts:ts[0]? = some dt) (h1:P.underlying dt=some (.slice e)) (e2:P.info? e=some inf)
 (W:World) (B o k cd:Nat) (sa:Option Addr) (sl sc m:Nat) (news:List Value) (hm:Nat.min sl k=m)
 (hn:(Builtin.firstCells inf.size m (.slice sa sl sc)).run P W = .ok news.toArray W)
 (C:Array Value) (te:TypeId) (fr:Nat × Nat) (hC:W.heap[B]? = some (.cells C te fr)) (hfr:xS C fr) (hfit:o+news.length≤C.size) (h1c:∀v∈news,v.oneCell'=true) :
 (Builtin.copy_ ts ty #[.slice (some ⟨B,o,none⟩) k cd,.slice sa sl sc]).run P W = .ok (goInt m) (W.setRow B (C.toList.take o++news++C.toList.drop (o+news.length)).toArray):=by
 have hst:=fC P B o te fr news 0 C W hC hfr (by simpa using hfit) h1c
 simp only[Nat.add_zero] at hst
 have m1:(Builtin.lenOf (.slice sa sl sc)).run P W = .ok sl W:=rfl
 simp only[Builtin.copy_,hts,Sem.run_bind,run_underlying h1,Result.andThen_ok,m1,hm,fZ e2,hn,hst,goInt,Sem.run_pure,show (#[Value.slice (some ⟨B,o,none⟩) k cd,Value.slice sa sl sc]:Array Value)[0]? = some (Value.slice (some ⟨B,o,none⟩) k cd) from rfl,show (#[Value.slice (some ⟨B,o,none⟩) k cd,Value.slice sa sl sc]:Array Value)[1]? = some (.slice sa sl sc) from rfl]

theorem aAB (w:World) {o:Oper} {a:Act} {K:Act→World→Prop} {Q:Exit→Act→World→Prop} (d s:Operand) (t t':TypeId)
 (ho:o.op = .call { callee:=.builtin .copy,args:=#[d,s],argTypes:=#[t,t'] }) (v u:Value) (hd:a.eval d=v) (hs:a.eval s=u) {v':Value} {w':World}
 (hr:(Builtin.copy_ #[t,t'] o.type #[v,u]).run P w = .ok v' w') (h:K (a.put o.dst v') w'):o.wp P a w K Q:=by
 unfold Oper.wp execOp
 simp only[ho,resolve,invoke,builtin,Sem.run_bind,Sem.run_pure,Result.andThen_ok,List.map_toArray,List.map_cons,List.map_nil,hd,hs,hr]
 exact h
theorem lH (w:World) {ops:Array Oper} {rest:List Oper} {o:Oper} {a:Act} {Q:Exit→Act→World→Prop} (hgd:o.guard=none) (d s:Operand) (t t':TypeId)
 (ho:o.op = .call { callee:=.builtin .copy,args:=#[d,s],argTypes:=#[t,t'] }) (v u:Value) (hd:a.eval d=v) (hs:a.eval s=u) {v':Value} {w':World}
 (hr:(Builtin.copy_ #[t,t'] o.type #[v,u]).run P w = .ok v' w') (h:wpList P ops Q rest (a.put o.dst v') w'):wpList P ops Q (o::rest) a w :=
 wpList_plain hgd fun _ hK=>aAB w d s t t' ho v u hd hs hr (hK _ _ h)
theorem nX {ops:Array Oper} {o:Oper} {a:Act} {w:World} {K:Act→World→Prop} {Q:Exit→Act→World→Prop} {E:Prop}
 (hg:o.guard=none) (d x:Operand) (dT sT:TypeId) (hop:o.op=Op.call { callee:=Callee.builtin Builtin.copy,args:=#[d,x],argTypes:=#[dT,sT] })
 (v u:Value) (hd:a.eval d=v) (hx:a.eval x=u) {v':Value} {w':World} (hr:(Builtin.copy_ #[dT,sT] o.type #[v,u]).run P w = .ok v' w') (hK:K (a.put o.dst v') w') :
 if Region.wanted o (yielded ops a.tmps)=true then Oper.wp P o a w K Q else E:=by
 have hw:Region.wanted o (yielded ops a.tmps)=true:=by simp [Region.wanted,hg]
 rw[if_pos hw]
 exact aAB w d x dT sT hop v u hd hx hr hK

theorem aBV (R:Rel σ π w h) {b gen wgen sz:Nat} {rows:List (List AV)} (hb:h b=some (.arr sz rows gen wgen false)) {l:Loc} (hl:σ b gen=some l)
 {rows2:List (List AV)} (hf2:dW sz rows2) (w':World) (B c:Nat) (C':Array Value) (te:TypeId × (Nat × Nat)) (f:Fl)
 (hsz:w.heap.size≤w'.heap.size) (hos:w'.os=w.os) (htp:w'.tape=w.tape) (hout:w'.output=w.output)
 (hB:(B=l.blk∧∃C,w.heap[B]? = some (.cells C te.1 te.2)∧C'.size=C.size)∨(w.heap.size≤B∧B<w'.heap.size∧w'.heap[l.blk]? = w.heap[l.blk]?))
 (hC:w'.heap[B]? = some (.cells C' te.1 te.2)) (hfr:FrZ sz C' te.2) (hc:rows2.length≤c) (hcs:c*sz≤C'.size)
 (hold:∀x,x<w.heap.size→x≠l.blk→w'.heap[x]? = w.heap[x]?)
 (hrow:∀r row,rows2[r]? = some row→kV σ π w row C' (r*sz)) :
 ∃σ',VR σ' π w' (.ref sz b (gen+1) 0 rows2.length f) (.slice (some ⟨B,0,none⟩) rows2.length c) ∧
  Done σ π w σ' π w' (gD h n ⟨.ref sz b (gen+1) 0 rows2.length f,[(b,.arr sz rows2 (gen+1) (gen+1) false)],[]⟩):=by
 obtain⟨q1,q2,q3,q4,⟨l',c1,c2,c3,c4⟩,q6⟩:=BR.real (R.blk b _ hb) hl
 rw[hl] at c1
 cases c1
 have hnone:σ b (gen+1)=none:=q4 _ (by omega)
 have hblt:=R.lt _ _ _ hl
 have hpB:∀o,¬π B o:=by
  intro o ho
  rcases hB with⟨rfl,_⟩ | ⟨h1,_⟩
  · exact c3 rfl o ho
  · have:=R.prot _ _ ho;omega
 have E:Ext σ π w (σ.set b (gen+1) ⟨B,rows2.length⟩) π w':=by
  refine⟨fun b' g' l' hl'=>Sig.set_old hnone hl',fun _ _ h=>h,fun x o hx=>?_,fun b' g' l' C0 e fr h1 h2=>?_,fun x o C2 k hx h2=>(hold x (R.prot _ _ hx) (fun e=>c3 rfl o (e▸hx))).trans h2⟩
  · have hne:x≠l.blk:=fun e=>c3 rfl o (e▸hx)
    exact iO (hold x (R.prot _ _ hx) hne)
  · by_cases hx:l'.blk=l.blk
    · rcases hB with⟨rfl,C0',h3,h4⟩ | ⟨_,_,h3⟩
      · rw[hx,h3] at h2
        cases h2
        exact⟨C',te.2,by rw[hx];exact hC,h4⟩
      · exact⟨C0,fr,by rw[hx,h3,← hx];exact h2,rfl⟩
    · exact⟨C0,fr,(hold _ (R.lt _ _ _ h1) hx).trans h2,rfl⟩
 refine⟨σ.set b (gen+1) ⟨B,rows2.length⟩,?_,?_⟩
 · exact .ref sz b (gen+1) 0 rows2.length f ⟨B,0,none⟩ c ⟨B,rows2.length⟩ (Sig.set_same ..) (by simp) hc (fun _=>by simp) (fun _=>by simpa using hc) C' te hC (by simpa using hcs)
 · refine i6 R hb _ E (fun b' g' hne=>Sig.set_neb σ _ hne) (fun g' l' hl'=>?_) (fun x hx hnx=>hold x hx (fun e=>hnx gen l hl e.symm)) hsz hos htp hout ?_
   · by_cases hg:g'=gen+1
     · subst hg
       rw[Sig.set_same] at hl'
       cases hl'
       rcases hB with⟨rfl,_⟩ | ⟨h1,h2,_⟩
       · exact .inl ⟨gen,l,hl,rfl⟩
       · exact .inr ⟨h1,h2⟩
     · rw[Sig.set_ne σ _ (by omega)] at hl'
       exact .inl ⟨g',l',hl',rfl⟩
   · refine⟨q1,Nat.le_refl _,hf2,fun g' hg'=>?_,.inr ⟨⟨_,Sig.set_same ..,rfl,fun _=>hpB,fun o _=>hpB o⟩,fun g' lg hlg hg1 hg2=>?_⟩⟩
     · rw[Sig.set_ne σ _ (by omega)]
       exact q4 g' (by omega)
     · obtain rfl:g'=gen+1:=by omega
       exact⟨_,C',te,Sig.set_same ..,Nat.le_refl _,hC,⟨Nat.le_trans (Nat.mul_le_mul_right _ hc) hcs,hfr⟩,fun r row _ hr=>(hrow r row hr).mono E⟩
end
end Go.Ws

namespace Go.Ws
open Go.Proofs
set_option linter.unusedVariables false
set_option linter.unusedSimpArgs false

structure InsWalk (P:Program) (f ov ts tv tn sz:Nat):Prop where
 A:∀(a:Option Addr) (n c:Nat) (va:Option Addr) (vc:Nat) (w w':World) (v':Value),n≤c→n+1≤140737488355328 →
  (Builtin.append_ #[ts,tv] ts #[.slice a n c,.slice va 1 vc]).run P w = .ok v' w' →
  Calls P f #[.slice a n c,.int .i64 (n:Int),.slice va 1 vc] w fun e W=>e = .returned v'∧W=w'
 C:∀(B n c i vb vc:Nat) (w W1 W2:World),i<n→n+1≤c→n+1≤140737488355328 →
  (∀lb cb,(callFunc ov #[.slice (some ⟨vb,0,none⟩) 1 vc,.slice (some ⟨B,(i+1)*sz,none⟩) lb cb]).run P w = .ok (.value (.bool false)) w) →
  (∀ty dc sc,(Builtin.copy_ #[ts,ts] ty #[.slice (some ⟨B,(i+1)*sz,none⟩) (n - i) dc,.slice (some ⟨B,i*sz,none⟩) (n+1 - i) sc]).run P w.drew = .ok (goInt (n - i:Nat)) W1) →
  (∀ty dc,(Builtin.copy_ #[ts,tv] ty #[.slice (some ⟨B,i*sz,none⟩) (n+1 - i) dc,.slice (some ⟨vb,0,none⟩) 1 vc]).run P W1 = .ok (goInt (1:Nat)) W2) →
  Calls P f #[.slice (some ⟨B,0,none⟩) n c,.int .i64 i,.slice (some ⟨vb,0,none⟩) 1 vc] w fun e w'=>e = .returned (.slice (some ⟨B,0,none⟩) (n+1) c)∧w'=W2
 B:∀(B n c i vb vc nb G:Nat) (w W1 W2 W3:World),i<n→n≤c→c<n+1→n+1≤G→n+1≤140737488355328 →
  (Builtin.append_ #[ts,tn] ts #[.slice (some ⟨B,0,none⟩) i c,.int .i64 ((n:Int)+1 - (i:Int))]).run P w = .ok (.slice (some ⟨nb,0,none⟩) (n+1) G) W1 →
  (∀ty dc,(Builtin.copy_ #[ts,tv] ty #[.slice (some ⟨nb,i*sz,none⟩) (n+1 - i) dc,.slice (some ⟨vb,0,none⟩) 1 vc]).run P W1 = .ok (goInt (1:Nat)) W2) →
  (∀ty dc sc,(Builtin.copy_ #[ts,ts] ty #[.slice (some ⟨nb,(i+1)*sz,none⟩) (n - i) dc,.slice (some ⟨B,i*sz,none⟩) (n - i) sc]).run P W2.drew = .ok (goInt (n - i:Nat)) W3) →
  Calls P f #[.slice (some ⟨B,0,none⟩) n c,.int .i64 i,.slice (some ⟨vb,0,none⟩) 1 vc] w fun e w'=>e = .returned (.slice (some ⟨nb,0,none⟩) (n+1) G)∧w'=W3
 O:∀(w:World) (vb vc B o lb cb kA kB tA tB:Nat),vb≠B→w.shape? vb=some (tA,kA)→w.shape? B=some (tB,kB)→kB≠0→w.frozen? ⟨vb,0,none⟩=false→w.frozen? ⟨vb,kA,none⟩=false →
  (callFunc ov #[.slice (some ⟨vb,0,none⟩) 1 vc,.slice (some ⟨B,o,none⟩) lb cb]).run P w = .ok (.value (.bool false)) w
 en:∀cargs w,(callFunc f cargs).run P w = .ok (.enter f cargs) w

theorem aAE {w:World} {b:Nat} {C:Array Value} {te:TypeId} {fr:Nat × Nat} (h:w.heap[b]? = some (.cells C te fr)) (hf:fr.1=fr.2) (o:Nat):w.frozen? ⟨b,o,none⟩=false:=by
 obtain⟨lo,hi⟩:=fr
 simp only[World.frozen?,h,Bool.and_eq_false_iff,decide_eq_false_iff_not]
 simp only at hf
 omega
theorem aGC {w:World} {b:Nat} {C:Array Value} {te:TypeId} {fr:Nat × Nat} (h:w.heap[b]? = some (.cells C te fr)):w.shape? b=some (te,C.size):=by
 simp [World.shape?,h]

section
variable {P:Program} {σ:Sig} {π:bE} {w:World} {h:Nat→Option Blk} {n:Nat}

theorem BR.let {σ:Sig} {π:bE} {w:World} {b sz gen wgen wg':Nat} {rows:List (List AV)} {ro:Bool} (k:BR σ π w b (.arr sz rows gen wgen ro)) (h1:wgen≤wg') (h2:wg'≤gen):BR σ π w b (.arr sz rows gen wg' ro):=by
 obtain⟨q1,q2,q3,q4,q5⟩:=k
 refine⟨q1,h2,q3,q4,q5.imp id fun q=>⟨q.1,fun g l0 hl hg hg'=>q.2 g l0 hl (by omega) hg'⟩⟩

theorem zW (R:Rel σ π w h) {b gen wgen sz:Nat} {rows:List (List AV)} {ro:Bool} (hb:h b=some (.arr sz rows gen wgen ro)) {k:Nat} {flg:Fl} {u:Value} (hu:VR σ π w (.ref sz b gen 0 k flg) u) (hk:0<k) (hkr:k≤rows.length) :
 ∃(l:Loc) (c:Nat) (C:Array Value) (te:TypeId × (Nat × Nat)),u = .slice (some ⟨l.blk,0,none⟩) k c∧σ b gen=some l∧l.m=rows.length∧k≤c∧(flg.whole=true→rows.length≤c)∧w.heap[l.blk]? = some (.cells C te.1 te.2)∧FrZ sz C te.2∧c*sz≤C.size∧dW sz rows ∧
  ∀r row,rows[r]? = some row→kV σ π w row C (r*sz):=by
 cases hu with
 | ref0=>exact absurd hk (Nat.lt_irrefl _)
 | ref _ _ _ _ _ _ a c l hl hi hn ha hf C e hC hs =>
  obtain rfl:=ha (by omega)
  obtain⟨q1,q2,q3,q4,⟨l2,c1,c2,c3,c4⟩,q6⟩:=BR.real (R.blk b _ hb) hl
  rw[hl] at c1
  cases c1
  obtain⟨l3,C3,te3,p1,p2,p3,p4,p5⟩:=q6 gen l hl q2 (Nat.le_refl _)
  rw[hl] at p1
  cases p1
  rw[hC] at p3
  simp only[Option.some.injEq,Obj.cells.injEq] at p3
  obtain⟨rfl,e1,e2⟩:=p3
  refine⟨l,c,C,e,by simp,hl,c2,hn,fun hw=>by have:=hf hw;omega,hC,e2▸p4.2,by simpa using hs,q3,fun r row hr=>p5 r row ?_ hr⟩
  have:=(List.getElem?_eq_some_iff.1 hr).1
  omega

theorem sR {sz:Nat} {rows:List (List AV)} (hf:dW sz rows) {C:Array Value} (hrow:∀r row,rows[r]? = some row→kV σ π w row C (r*sz)) (hsz:0<sz) (hC:rows.length*sz≤C.size) (i m:Nat) (him:i+m≤rows.length) :
 ((C.toList.drop (i*sz)).take (m*sz)).length=m*sz∧(∀v∈(C.toList.drop (i*sz)).take (m*sz),v.oneCell'=true) ∧
 ∀r q row a,rows[i+r]? = some row→r<m→row[q]? = some a→∃u,((C.toList.drop (i*sz)).take (m*sz))[r*sz+q]? = some u∧VR σ π w a u:=by
 have e1:(i+m)*sz=i*sz+m*sz:=Nat.add_mul ..
 have h1:(i+m)*sz≤C.size:=Nat.le_trans (Nat.mul_le_mul_right _ him) hC
 refine⟨by simp;omega,fun v hv=>?_,fun r q row a hr hrm hq=>?_⟩
 · obtain⟨j,hj⟩:=List.mem_iff_getElem?.1 hv
   have hjl:=(List.getElem?_eq_some_iff.1 hj).1
   simp only[List.length_take,List.length_drop,Array.length_toList] at hjl
   have hjm:j<m*sz:=by omega
   have hdiv:j / sz<m:=(Nat.div_lt_iff_lt_mul hsz).2 hjm
   have hmod:j % sz<sz:=Nat.mod_lt _ hsz
   have hr:rows[i+j / sz]? = some rows[i+j / sz]:=List.getElem?_eq_getElem (by omega)
   have hrl:=(hf _ (List.getElem_mem (show i+j / sz<rows.length by omega)))
   have hq : rows[i + j / sz][j % sz]? = some (rows[i + j / sz][j % sz]'(by rw [hrl.1]; exact hmod)) := List.getElem?_eq_getElem _
   obtain⟨u,hu,hvu⟩:=hrow _ _ hr _ _ hq
   have hjj:j / sz*sz+j % sz=j:=by rw[Nat.mul_comm];exact Nat.div_add_mod _ _
   have e2:(i+j / sz)*sz=i*sz+j / sz*sz:=Nat.add_mul ..
   rw[List.getElem?_take,if_pos hjm,List.getElem?_drop,Array.getElem?_toList,show i*sz+j=(i+j / sz)*sz+j % sz by omega,hu] at hj
   cases hj
   exact hvu.one (hrl.2 _ (List.mem_of_getElem? hq)).1
 · obtain⟨u,hu,hvu⟩:=hrow _ _ hr _ _ hq
   have hql:q<sz:=by
    have:=(List.getElem?_eq_some_iff.1 hq).1
    rw[(hf row (List.mem_of_getElem? hr)).1] at this
    exact this
   have e2:(i+r)*sz=i*sz+r*sz:=Nat.add_mul ..
   have e3:(r+1)*sz≤m*sz:=Nat.mul_le_mul_right _ hrm
   rw[Nat.add_mul,Nat.one_mul] at e3
   refine⟨u,?_,hvu⟩
   rw[List.getElem?_take,if_pos (by omega),List.getElem?_drop,Array.getElem?_toList,← Nat.add_assoc,← e2]
   exact hu

theorem uE {sz:Nat} (W:World) (b o l c m:Nat) (C:Array Value) (te:TypeId) (fr:Nat × Nat) (hC:W.heap[b]? = some (.cells C te fr)) (hl:((C.toList.drop o).take (m*sz)).length=m*sz) :
 (Builtin.firstCells sz m (.slice (some ⟨b,o,none⟩) l c)).run P W = .ok ((C.toList.drop o).take (m*sz)).toArray W:=by
 refine run_firstCells_some W sz m ⟨b,o,none⟩ l c _ hl fun j v hj=>?_
 rw[fR]
 rw[List.getElem?_take] at hj
 split at hj
 · rw[List.getElem?_drop,Array.getElem?_toList] at hj
   simp only[World.cell?,hC]
   exact hj
 · cases hj
end
end Go.Ws

namespace Go.Ws
open Go.Proofs
set_option linter.unusedVariables false
set_option linter.unusedSimpArgs false

theorem run_val {P:Program} {s:Sem Value} {w w':World} {r:Next} {u:Value} (h:(do pure (Next.value (← s)):Sem Next).run P w = .ok r w') (hr:r = .value u∨(r = .skip∧u=undef)):s.run P w = .ok u w':=by
 simp only[Sem.run_bind] at h
 generalize s.run P w=x at h
 cases x with
 | ok v w1 =>
  simp only[Result.andThen_ok,Sem.run_pure,Result.ok.injEq] at h
  obtain⟨rfl,rfl⟩:=h
  rcases hr with hr | ⟨hr,_⟩
  · cases hr;rfl
  · cases hr
 | _=>simp [Result.andThen] at h

abbrev aBU (rows:List (List AV)) (i:Nat) (row:List AV):List (List AV):=rows.take i++row::rows.drop i
theorem insR_get {rows:List (List AV)} {i:Nat} {row:List AV} (hi:i≤rows.length) (r:Nat):(aBU rows i row)[r]? = if r<i then rows[r]? else if r=i then some row else rows[r - 1]?:=by
 unfold aBU
 by_cases h1:r<i
 · rw[if_pos h1,List.getElem?_append_left (by simp;omega),List.getElem?_take,if_pos h1]
 · rw[if_neg h1,List.getElem?_append_right (by simp;omega)]
   have e:(rows.take i).length=i:=by simp;omega
   rw[e]
   by_cases h2:r=i
   · rw[if_pos h2,h2,Nat.sub_self];rfl
   · rw[if_neg h2]
     obtain⟨k,rfl⟩:∃k,r=i+1+k:=⟨r - i - 1,by omega⟩
     rw[show i+1+k - i=k+1 by omega,List.getElem?_cons_succ,List.getElem?_drop]
     congr 1
     omega
theorem insR_len {rows:List (List AV)} {i:Nat} {row:List AV} (hi:i≤rows.length):(aBU rows i row).length=rows.length+1:=by simp [aBU];omega

section
variable {P:Program} {f ov ts tv tn te sz:Nat}

theorem ins_tri (W:InsWalk P f ov ts tv tn sz) {its itv itn ite:TI} (hts:cT P ts=some its) (ks:its.k = .slice te) (htv:cT P tv=some itv) (kv:itv.k = .slice te) (htn:cT P tn=some itn) (kn:itn.k = .int .i64) (hte:cT P te=some ite)
 (hsz:ite.sz=sz) (h0:0<sz) (h1:sz≠1) (hbt:0<ite.bts) (hz:ite.z.map (·.cells.length)=some sz) {z:AV} (hzz:ite.z=some z) (hzf:lS z.cells=true)
 {rows:List (List AV)} {row:List AV} {flg fl2:Fl} {g wg g2 wg2:Nat} {ro2:Bool} (hfw:flg.whole=true) {i:Nat} (hi:i≤rows.length) (hroom:(rows.length+1)*ite.bts≤140737488355328) :
 Tri P f [.ref sz 0 g 0 rows.length flg,.int .i64 i,.ref sz 1 g2 0 1 fl2] [.arr sz rows g wg false,.arr sz [row] g2 wg2 ro2]
  (.ref sz 0 (g+1) 0 (rows.length+1) .full) [.arr sz (aBU rows i row) (g+1) (g+1) false,.arr sz [row] g2 wg2 ro2]:=by
 refine⟨W.en,by simp,fun σ π w cargs R hv=>?_⟩
 have hn47:rows.length+1≤140737488355328:=Nat.le_trans (Nat.le_mul_of_pos_right _ hbt) hroom
 obtain⟨u0,hu0,v0⟩:=hv.at_ (i:=0) rfl
 obtain⟨u1,hu1,v1⟩:=hv.at_ (i:=1) rfl
 obtain⟨u2,hu2,v2⟩:=hv.at_ (i:=2) rfl
 obtain rfl:cargs = #[u0,u1,u2]:=by
  apply Array.ext
  · simpa using hv.1
  · intro j h1 h2
    have hj:j<3:=by simpa using h2
    match j,hj with
    | 0,_=>rw[Array.getElem?_eq_some_iff] at hu0;exact hu0.2
    | 1,_=>rw[Array.getElem?_eq_some_iff] at hu1;exact hu1.2
    | 2,_=>rw[Array.getElem?_eq_some_iff] at hu2;exact hu2.2
 obtain rfl:u1 = .int .i64 i:=by cases v1;rfl
 have hb0:([Blk.arr sz rows g wg false,.arr sz [row] g2 wg2 ro2][·]?) 0=some (.arr sz rows g wg false):=rfl
 have hb1:([Blk.arr sz rows g wg false,.arr sz [row] g2 wg2 ro2][·]?) 1=some (.arr sz [row] g2 wg2 ro2):=rfl
 have hb2:([Blk.arr sz rows g wg false,.arr sz [row] g2 wg2 ro2][·]?) 2=none:=rfl
 obtain⟨l2,c2,C2,te2,rfl,hl2,hm2,hc2,-,hC2,hF2,hs2,hf2,hrow2⟩:=zW R hb1 v2 (by omega) (by simp)
 have hupd:∀(v:AV) (x:Blk),gD ([Blk.arr sz rows g wg false,.arr sz [row] g2 wg2 ro2][·]?) 2 ⟨v,[(0,x)],[]⟩=([x,.arr sz [row] g2 wg2 ro2][·]?):=by
  intro v x
  funext b
  match b with
  | 0=>rfl
  | 1=>rfl
  | b+2=>simp [gD,oE]
 rcases Nat.lt_or_ge i rows.length with hlt | hge
 rotate_left
 · -- at the end
   obtain rfl:i=rows.length:=by omega
   obtain⟨s1,ss,sc,rfl,hle,hln⟩:=jY v0 ⟨⟨_,rfl⟩,fun s hh=>by cases hh⟩
   simp only[lenOf,Option.some.injEq] at hln
   subst hln
   have hn1:itv.k ≠ .int .i64:=by rw[kv];simp
   have hys:(aYs ite itv (.ref sz 1 g2 0 1 fl2)).run ([Blk.arr sz rows g wg false,.arr sz [row] g2 wg2 ro2][·]?)=some ([row],[1]):=by
    obtain⟨l3,d1,d2,d3,d4⟩:=R.blk 1 _ hb1
    unfold aYs
    rw[kv]
    simp [oM,hsz,AM.run,d1]
   have happ:(lD (cT P) 2 ts tv (.ref sz 0 g 0 rows.length flg) (.ref sz 1 g2 0 1 fl2)).run ([Blk.arr sz rows g wg false,.arr sz [row] g2 wg2 ro2][·]?)=some (⟨.ref sz 0 (g+1) 0 (rows.length+1) flg,[(0,.arr sz (rows++[row]) (g+1) wg false)],[]⟩,[1,0]):=by
    obtain⟨kk,ssz,bb,zz,cc⟩:=its
    simp only at ks
    subst ks
    unfold lD
    simp only[hts,hte,htv,hsz,hbt,hz,h0,and_self,if_true]
    refine run_bind (L':=[0]) hys ?_
    simp [hfw,AM.run,hroom,hsz]
   obtain⟨r,u,w',σ',π',hrun,hru,hvu,hd⟩:=aC3 (P:=P) R (n:=2) (by simp) ts tv ts _ _ _ _ v0 v2 happ
   refine(W.A s1 rows.length sc _ c2 w w' u hle hn47 (run_val hrun hru)).mono ?_
   rintro e w'' ⟨rfl,rfl⟩
   rw[hupd] at hd
   refine⟨u,σ',π',rfl,?_,hd.ext,hd.frm,⟨fun b x hx=>?_,fun b hb g=>hd.rel.non b ?_ g,hd.rel.inj,hd.rel.lt,hd.rel.prot⟩⟩
   · cases hvu with
     | ref _ _ _ _ _ _ a c l hl hi hn ha hf C e hC hs=>exact .ref _ _ _ _ _ _ a c l hl hi hn ha (fun _=>hf hfw) C e hC hs
   · match b with
     | 0 =>
      cases hx
      have:=(hd.rel.blk 0 _ rfl).let (wg':=g+1) (by have:=(R.blk 0 _ hb0).2.1;omega) (Nat.le_refl _)
      simpa [aBU] using this
     | b+1=>exact hd.rel.blk (b+1) x hx
   · match b with
     | 0=>cases hb
     | b+1=>exact hb
 -- in the middle
 obtain⟨l,c,C,tl,rfl,hl,hm,hc,hcw,hC,hF,hs,hf,hrow⟩:=zW R hb0 v0 (by omega) (Nat.le_refl _)
 obtain⟨dts,infs,p1,p2,he⟩:=aP hts
 have p1':P.underlying ts=some (.slice te):=by
  rw[he] at ks;rw[p1,f7 ks]
 obtain⟨dn,infn,n1,n2,hen⟩:=aP htn
 have n1':P.underlying tn=some (.int .i64):=by
  rw[hen] at kn;rw[n1,r8 kn]
 obtain⟨de,inf,e1,e2,hee⟩:=aP hte
 obtain rfl:sz=inf.size:=by rw[← hsz,hee]
 have hbi:ite.bts=inf.bytes:=by rw[hee]
 have hz':=hzz
 rw[hee] at hz'
 simp only[Option.bind_eq_some_iff] at hz'
 obtain⟨zv,hzv,hzo⟩:=hz'
 have hzl:z.cells.length=inf.size:=by rw[hzz] at hz;simpa using hz
 have hvr:VR σ π w (.agg z.cells) (.agg zv.cells):=let c:=((k7 hzo σ π w).cellsN (pE hzo));.agg _ _ c.1 c.2
 have hzs:zv.cells.size=inf.size:=by
  have:=((k7 hzo σ π w).cellsN (pE hzo)).1
  rw[this]
  exact hzl
 have hne:l2.blk≠l.blk:=fun e=>absurd (R.inj _ _ _ _ _ _ hl2 hl e) (by decide)
 have hlw:l.blk<w.heap.size:=R.lt _ _ _ hl
 have hl2w:l2.blk<w.heap.size:=R.lt _ _ _ hl2
 have hrs:rows.length*inf.size≤C.size:=Nat.le_trans (Nat.mul_le_mul_right _ hc) hs
 obtain⟨t1,t2,t3⟩:=sR hf hrow h0 hrs i (rows.length - i) (by omega)
 have hs2':[row].length*inf.size≤C2.size:=Nat.le_trans (Nat.mul_le_mul_right _ (by simpa using hc2)) hs2
 obtain⟨x1,x2,x3⟩:=sR hf2 hrow2 h0 hs2' 0 1 (by simp)
 obtain⟨tail,htail⟩:∃tail,tail=(C.toList.drop (i*inf.size)).take ((rows.length - i)*inf.size):=⟨_,rfl⟩
 obtain⟨vn,hvn⟩:∃vn,vn=(C2.toList.drop (0*inf.size)).take (1*inf.size):=⟨_,rfl⟩
 have ftail:∀(W':World) (l0 c0:Nat),W'.heap[l.blk]? = w.heap[l.blk]? → (Builtin.firstCells inf.size (rows.length - i) (.slice (some ⟨l.blk,i*inf.size,none⟩) l0 c0)).run P W' = .ok tail.toArray W':=fun W' l0 c0 hW=>by
  rw[htail]
  exact uE W' _ _ _ _ _ C tl.1 tl.2 (hW.trans hC) t1
 have fvn:∀(W':World) (l0 c0:Nat),W'.heap[l2.blk]? = w.heap[l2.blk]? → (Builtin.firstCells inf.size 1 (.slice (some ⟨l2.blk,0,none⟩) l0 c0)).run P W' = .ok vn.toArray W':=fun W' l0 c0 hW=>by
  rw[hvn]
  have:=uE (P:=P) (sz:=inf.size) W' l2.blk (0*inf.size) l0 c0 1 C2 te2.1 te2.2 (hW.trans hC2) x1
  simpa using this
 rw[← htail] at t1 t2 t3
 rw[← hvn] at x1 x2 x3
 have hsi:(i+1)*inf.size=i*inf.size+inf.size:=by rw[Nat.add_mul,Nat.one_mul]
 have hst:(i+1)*inf.size+(rows.length - i)*inf.size=(rows.length+1)*inf.size:=by rw[← Nat.add_mul];congr 1;omega
 have hfr:dW inf.size (aBU rows i row):=by
  intro r hr
  rcases List.mem_append.1 hr with hr | hr
  · exact hf r (List.mem_of_mem_take hr)
  · rcases List.mem_cons.1 hr with rfl | hr
    · exact hf2 _ (by simp)
    · exact hf r (List.mem_of_mem_drop hr)
 have hcells:∀D:Array Value,(∀j,j<i*inf.size→D[j]? = C[j]?)→(∀j,j<inf.size→D[i*inf.size+j]? = vn[j]?)→(∀j,j<(rows.length - i)*inf.size→D[(i+1)*inf.size+j]? = tail[j]?) →
  ∀r row',(aBU rows i row)[r]? = some row'→kV σ π w row' D (r*inf.size):=by
  intro D g1 g2 g3 r row' hr q a hq
  have hql:q<inf.size:=by
   have:=(List.getElem?_eq_some_iff.1 hq).1
   rw[(hfr row' (List.mem_of_getElem? hr)).1] at this
   exact this
  rw[insR_get hi] at hr
  by_cases h1:r<i
  · rw[if_pos h1] at hr
    have:(r+1)*inf.size≤i*inf.size:=Nat.mul_le_mul_right _ h1
    rw[Nat.add_mul,Nat.one_mul] at this
    rw[g1 _ (by omega)]
    exact hrow r row' hr q a hq
  · rw[if_neg h1] at hr
    by_cases h2:r=i
    · rw[if_pos h2] at hr
      cases hr
      subst h2
      rw[g2 _ hql]
      obtain⟨u,hu,hvu⟩:=x3 0 q row a rfl (by omega) hq
      exact⟨u,by simpa using hu,hvu⟩
    · rw[if_neg h2] at hr
      obtain⟨k,rfl⟩:∃k,r=i+1+k:=⟨r - i - 1,by omega⟩
      rw[show i+1+k - 1=i+k by omega] at hr
      have hk:i+k<rows.length:=(List.getElem?_eq_some_iff.1 hr).1
      have hkm:(k+1)*inf.size≤(rows.length - i)*inf.size:=Nat.mul_le_mul_right _ (by omega)
      rw[Nat.add_mul,Nat.one_mul] at hkm
      rw[show (i+1+k)*inf.size+q=(i+1)*inf.size+(k*inf.size+q) by rw[Nat.add_mul (i+1) k];omega,g3 _ (by omega)]
      exact t3 k q row' a hr (by omega) hq
 have hil:(aBU rows i row).length=rows.length+1:=insR_len hi
 have hFz:tl.2.1=tl.2.2:=hF.resolve_right fun h=>h1 h.1
 have hFz2:te2.2.1=te2.2.2:=hF2.resolve_right fun h=>h1 h.1
 by_cases hcap:rows.length+1≤c
 · -- in place
   have hsr:(rows.length+1)*inf.size≤C.size:=Nat.le_trans (Nat.mul_le_mul_right _ hcap) hs
   have hfit1:(i+1)*inf.size+tail.length≤C.size:=by rw[t1];omega
   obtain⟨D1,hD1⟩:∃D1,D1=(C.toList.take ((i+1)*inf.size)++tail++C.toList.drop ((i+1)*inf.size+tail.length)).toArray:=⟨_,rfl⟩
   have hg1:∀j,D1[j]? = if (i+1)*inf.size≤j∧j<(i+1)*inf.size+tail.length then tail[j - (i+1)*inf.size]? else C[j]?:=fun j=>by rw[hD1];exact gZ hfit1 j
   have hs1:D1.size=C.size:=by
    rw[hD1]
    simp only[List.size_toArray,List.length_append,List.length_take,List.length_drop,Array.length_toList]
    omega
   have hfit2:i*inf.size+vn.length≤D1.size:=by rw[x1,hs1];omega
   obtain⟨D2,hD2⟩:∃D2,D2=(D1.toList.take (i*inf.size)++vn++D1.toList.drop (i*inf.size+vn.length)).toArray:=⟨_,rfl⟩
   have hg2:∀j,D2[j]? = if i*inf.size≤j∧j<i*inf.size+vn.length then vn[j - i*inf.size]? else D1[j]?:=fun j=>by rw[hD2];exact gZ hfit2 j
   have hs2':D2.size=C.size:=by
    rw[hD2]
    simp only[List.size_toArray,List.length_append,List.length_take,List.length_drop,Array.length_toList]
    omega
   have hW1:(w.drew.setRow l.blk D1).heap[l.blk]? = some (.cells D1 tl.1 tl.2):=setRow_heap w.drew l.blk C D1 tl.1 tl.2 hC
   have hW2:((w.drew.setRow l.blk D1).setRow l.blk D2).heap[l.blk]? = some (.cells D2 tl.1 tl.2):=setRow_heap _ l.blk D1 D2 tl.1 tl.2 hW1
   have hCpos:C.size≠0:=by
    have:1*inf.size≤(rows.length+1)*inf.size:=Nat.mul_le_mul_right _ (by omega)
    omega
   refine(W.C l.blk rows.length c i l2.blk c2 w _ _ hlt hcap hn47
    (fun lb cb=>W.O w l2.blk c2 l.blk _ lb cb C2.size C.size te2.1 tl.1 hne (aGC hC2) (aGC hC) hCpos (aAE hC2 hFz2 _) (aAE hC2 hFz2 _))
    (fun ty dc sc=>by
     have:=xO (P:=P) (ty:=ty) (ts:=#[ts,ts]) (dt:=ts) rfl p1' e2 w.drew l.blk ((i+1)*inf.size) (rows.length - i) dc (some ⟨l.blk,i*inf.size,none⟩) (rows.length+1 - i) sc (rows.length - i) tail (by simp only[Nat.min_def];split<;>omega) (ftail w.drew _ _ rfl) C tl.1 tl.2 hC hF.ok hfit1 t2
     rw[← hD1] at this
     exact this)
    (fun ty dc=>by
     have:=xO (P:=P) (ty:=ty) (ts:=#[ts,tv]) (dt:=ts) rfl p1' e2 (w.drew.setRow l.blk D1) l.blk (i*inf.size) (rows.length+1 - i) dc (some ⟨l2.blk,0,none⟩) 1 c2 1 vn (by simp only[Nat.min_def];split<;>omega) (fvn _ _ _ (setRow_other _ _ _ _ hne)) D1 tl.1 tl.2 hW1 (.inl hFz) hfit2 x2
     rw[← hD2] at this
     exact this)).mono ?_
   rintro e w' ⟨rfl,rfl⟩
   obtain⟨σ',q1,q2⟩:=aBV (n:=2) R hb0 hl hfr ((w.drew.setRow l.blk D1).setRow l.blk D2) l.blk c D2 tl .full (by simp) rfl rfl rfl (.inl ⟨rfl,C,hC,hs2'⟩) hW2 (.inl hFz) (by rw[hil];exact hcap) (by rw[hs2'];exact hs)
    (fun x _ hx=>by rw[setRow_other _ _ _ _ hx,setRow_other _ _ _ _ hx];rfl)
    (hcells D2 (fun j hj=>by rw[hg2,if_neg (by omega),hg1,if_neg (by omega)]) (fun j hj=>by rw[hg2,if_pos (by omega),Nat.add_sub_cancel_left]) (fun j hj=>by
     rw[hg2,if_neg (by omega),hg1,if_pos (by omega),Nat.add_sub_cancel_left]))
   rw[hil,hupd] at q2
   rw[hil] at q1
   exact⟨_,σ',π,rfl,q1,q2⟩
 · -- anew
   obtain rfl:c=rows.length:=by omega
   obtain⟨o1,o2,o3⟩:=sR hf hrow h0 hrs 0 i (by omega)
   obtain⟨olds,holds⟩:∃olds,olds=(C.toList.drop (0*inf.size)).take (i*inf.size):=⟨_,rfl⟩
   have folds:(Builtin.firstCells inf.size i (.slice (some ⟨l.blk,0,none⟩) i rows.length)).run P w.drew = .ok olds.toArray w.drew:=by
    rw[holds]
    have:=uE (P:=P) (sz:=inf.size) w.drew l.blk (0*inf.size) i rows.length i C tl.1 tl.2 hC o1
    simpa using this
   rw[← holds] at o1
   have hog:∀j,j<i*inf.size→olds[j]? = C[j]?:=fun j hj=>by
    rw[holds]
    simp [hj]
   have hkk:(rows.length:Int)+1 - (i:Int)=((rows.length+1 - i:Nat):Int):=by omega
   have hik:i+(rows.length+1 - i)=rows.length+1:=by omega
   have hbk:((rows.length+1 - i:Nat):Int)*(inf.bytes:Int)≤140737488355328:=by
    have:(rows.length+1 - i)*inf.bytes≤(rows.length+1)*inf.bytes:=Nat.mul_le_mul_right _ (by omega)
    rw[hbi] at hroom
    have:=Nat.le_trans this hroom
    rw[← Int.natCast_mul]
    omega
   have hgr:=xW (P:=P) (w:=w) (t:=ts) (xt:=tn) (ty:=ts) (e:=te) (dx:=.int .i64) (k:=rows.length+1 - i) (x:=.int .i64 ((rows.length:Int)+1 - (i:Int))) (news:=(Builtin.zeroCells zv.cells (rows.length+1 - i)).toList) p1' n1' e2 hzv (by omega) hzs h0
    (.inr ⟨.i64,.i64,_,rfl,rfl,by omega,by rw[hkk];exact hbk,by omega,by simp⟩) (by simp [Builtin.zeroCells,hzs]) (some ⟨l.blk,0,none⟩) i rows.length olds folds (by omega) (by rw[hik,← hbi];exact hroom)
   rw[hik] at hgr
   obtain⟨G,hG⟩:∃G,G=grownCap w (rows.length+1) rows.length te:=⟨_,rfl⟩
   have hGe:rows.length+1≤G:=by rw[hG];exact grownCap_ge w (rows.length+1) rows.length te
   rw[← hG] at hgr
   obtain⟨ROW,hROW⟩:∃ROW,ROW=olds.toArray++(Builtin.zeroCells zv.cells (rows.length+1 - i)).toList.toArray++Builtin.zeroCells zv.cells (G - (rows.length+1)):=⟨_,rfl⟩
   rw[← hROW] at hgr
   have hRs:ROW.size=G*inf.size:=by
    rw[hROW]
    simp only[Array.size_append,List.size_toArray,o1,Array.length_toList,size_zeroCells,hzs,← Nat.add_mul]
    congr 1
    omega
   have hGs:(rows.length+1)*inf.size≤ROW.size:=by rw[hRs];exact Nat.mul_le_mul_right _ hGe
   have hR0:∀j,j<i*inf.size→ROW[j]? = C[j]?:=fun j hj=>by
    rw[hROW,Array.append_assoc,Array.getElem?_append_left (by simpa [o1] using hj),List.getElem?_toArray,hog j hj]
   obtain⟨W1,hW1⟩:∃W1,W1=w.drew.alloc (.cells ROW te):=⟨_,rfl⟩
   rw[← hW1] at hgr
   have hn1:W1.heap[w.heap.size]? = some (.cells ROW te (0,0)):=by rw[hW1];exact fX w.drew (.cells ROW te)
   have ho1:∀x,x<w.heap.size→W1.heap[x]? = w.heap[x]?:=fun x hx=>by rw[hW1];exact eN w.drew _ hx
   have hz1:W1.heap.size=w.heap.size+1:=by rw[hW1];exact eJ w.drew _
   have hfitA:i*inf.size+vn.length≤ROW.size:=by rw[x1];omega
   obtain⟨D1,hD1⟩:∃D1,D1=(ROW.toList.take (i*inf.size)++vn++ROW.toList.drop (i*inf.size+vn.length)).toArray:=⟨_,rfl⟩
   have hg1:∀j,D1[j]? = if i*inf.size≤j∧j<i*inf.size+vn.length then vn[j - i*inf.size]? else ROW[j]?:=fun j=>by rw[hD1];exact gZ hfitA j
   have hs1:D1.size=ROW.size:=by
    rw[hD1]
    simp only[List.size_toArray,List.length_append,List.length_take,List.length_drop,Array.length_toList]
    omega
   have hfitB:(i+1)*inf.size+tail.length≤D1.size:=by rw[t1,hs1];omega
   obtain⟨D2,hD2⟩:∃D2,D2=(D1.toList.take ((i+1)*inf.size)++tail++D1.toList.drop ((i+1)*inf.size+tail.length)).toArray:=⟨_,rfl⟩
   have hg2:∀j,D2[j]? = if (i+1)*inf.size≤j∧j<(i+1)*inf.size+tail.length then tail[j - (i+1)*inf.size]? else D1[j]?:=fun j=>by rw[hD2];exact gZ hfitB j
   have hs2':D2.size=ROW.size:=by
    rw[hD2]
    simp only[List.size_toArray,List.length_append,List.length_take,List.length_drop,Array.length_toList]
    omega
   have hnb:∀x,x<w.heap.size→x≠w.heap.size:=fun x hx=>by omega
   have hW2:(W1.setRow w.heap.size D1).heap[w.heap.size]? = some (.cells D1 te (0,0)):=setRow_heap W1 _ ROW D1 te (0,0) hn1
   have hW3:((W1.setRow w.heap.size D1).drew.setRow w.heap.size D2).heap[w.heap.size]? = some (.cells D2 te (0,0)):=setRow_heap _ _ D1 D2 te (0,0) hW2
   have hold2:∀x,x<w.heap.size→(W1.setRow w.heap.size D1).drew.heap[x]? = w.heap[x]?:=fun x hx=>(setRow_other _ _ _ _ (hnb x hx)).trans (ho1 x hx)
   refine(W.B l.blk rows.length rows.length i l2.blk c2 w.heap.size G w W1 _ _ hlt (Nat.le_refl _) (by omega) hGe hn47 hgr
    (fun ty dc=>by
     have:=xO (P:=P) (ty:=ty) (ts:=#[ts,tv]) (dt:=ts) rfl p1' e2 W1 w.heap.size (i*inf.size) (rows.length+1 - i) dc (some ⟨l2.blk,0,none⟩) 1 c2 1 vn (by simp only[Nat.min_def];split<;>omega) (fvn _ _ _ (ho1 _ hl2w)) ROW te (0,0) hn1 (.inl rfl) hfitA x2
     rw[← hD1] at this
     exact this)
    (fun ty dc sc=>by
     have:=xO (P:=P) (ty:=ty) (ts:=#[ts,ts]) (dt:=ts) rfl p1' e2 (W1.setRow w.heap.size D1).drew w.heap.size ((i+1)*inf.size) (rows.length - i) dc (some ⟨l.blk,i*inf.size,none⟩) (rows.length - i) sc (rows.length - i) tail (by simp only[Nat.min_def];split<;>omega) (ftail _ _ _ (hold2 _ hlw)) D1 te (0,0) hW2 (.inl rfl) hfitB t2
     rw[← hD2] at this
     exact this)).mono ?_
   rintro e w' ⟨rfl,rfl⟩
   have hsize:((W1.setRow w.heap.size D1).drew.setRow w.heap.size D2).heap.size=w.heap.size+1:=by
    have:((W1.setRow w.heap.size D1).drew.setRow w.heap.size D2).heap.size=W1.heap.size:=by simp [World.setRow,World.drew]
    rw[this,hz1]
   have hold3:∀x,x<w.heap.size→((W1.setRow w.heap.size D1).drew.setRow w.heap.size D2).heap[x]? = w.heap[x]?:=fun x hx=>(setRow_other _ _ _ _ (hnb x hx)).trans (hold2 x hx)
   obtain⟨σ',q1,q2⟩:=aBV (n:=2) R hb0 hl hfr ((W1.setRow w.heap.size D1).drew.setRow w.heap.size D2) w.heap.size G D2 (te,(0,0)) .full (by omega) (by rw[hW1];rfl) (by rw[hW1];rfl) (by rw[hW1];rfl) (.inr ⟨Nat.le_refl _,by omega,hold3 _ hlw⟩) hW3 (.inl rfl) (by rw[hil];exact hGe) (by rw[hs2',hRs];exact Nat.le_refl _)
    (fun x hx _=>hold3 x hx)
    (hcells D2 (fun j hj=>by rw[hg2,if_neg (by omega),hg1,if_neg (by omega),hR0 j hj]) (fun j hj=>by rw[hg2,if_neg (by omega),hg1,if_pos (by omega),Nat.add_sub_cancel_left]) (fun j hj=>by
     rw[hg2,if_pos (by omega),Nat.add_sub_cancel_left]))
   rw[hil,hupd] at q2
   rw[hil] at q1
   exact⟨_,σ',π,rfl,q1,q2⟩

theorem aJL (W:InsWalk P f ov ts tv tn sz) (hts:(cT P ts).map (·.k)=some (.slice te)) (htv:(cT P tv).map (·.k)=some (.slice te)) (htn:(cT P tn).map (·.k)=some (.int .i64))
 {bt:Nat} (hte:(cT P te).map (fun i=>(i.sz,i.bts,i.z.map (·.cells.length),i.z.map (fun z=>lS z.cells)))=some (sz,bt,some sz,some true)) (h0:0<sz) (h1:sz≠1) (hbt:0<bt)
 {α:Type} (E:α→List AV) {x1:Int} {x2 x3 r:List α} (h:insP bt x1 x2 x3=some r) {flg fl2:Fl} {g wg g2 wg2:Nat} {ro2:Bool} (hfw:flg.whole=true) :
 Tri P f [.ref sz 0 g 0 x2.length flg,.int .i64 x1,.ref sz 1 g2 0 x3.length fl2] [.arr sz (List.map E x2) g wg false,.arr sz (List.map E x3) g2 wg2 ro2]
  (.ref sz 0 (g+1) 0 r.length .full) [.arr sz (List.map E r) (g+1) (g+1) false,.arr sz (List.map E x3) g2 wg2 ro2]:=by
 unfold insP at h
 split at h
 · rename_i hc
   obtain⟨c1,c2,c3,c4⟩:=hc
   cases h
   obtain⟨d,rfl⟩:∃d,x3=[d]:=by
    match x3,c1 with
    | [d],_=>exact⟨d,rfl⟩
   obtain⟨its,hts,ks⟩:=Option.map_eq_some_iff.1 hts
   obtain⟨itv,htv,kv⟩:=Option.map_eq_some_iff.1 htv
   obtain⟨itn,htn,kn⟩:=Option.map_eq_some_iff.1 htn
   obtain⟨ite,hte2,ke⟩:=Option.map_eq_some_iff.1 hte
   simp only[Prod.mk.injEq] at ke
   obtain⟨k1,rfl,k3,k4⟩:=ke
   obtain⟨z,hz,hzf⟩:=Option.map_eq_some_iff.1 k4
   obtain⟨i,rfl⟩:∃i:Nat,x1=(i:Int):=⟨x1.toNat,by omega⟩
   have:=ins_tri W (rows:=List.map E x2) (row:=E d) (flg:=flg) (fl2:=fl2) (g:=g) (wg:=wg) (g2:=g2) (wg2:=wg2) (ro2:=ro2) hts ks htv kv htn kn hte2 k1 h0 h1 hbt k3 hz hzf hfw (i:=i) (by simp;omega) (by simpa using c4)
   have e:List.map E (x2.take i++[d]++x2.drop i)=aBU (List.map E x2) i (E d):=by simp [aBU,List.map_take,List.map_drop]
   have el:(x2.take i++[d]++x2.drop i).length=x2.length+1:=by simp;omega
   simp only[Int.toNat_natCast,el,e]
   simpa using this
 · cases h
end
end Go.Ws

namespace Go.Ws
open Go.Proofs
set_option linter.unusedVariables false
set_option linter.unusedSimpArgs false

section
variable {P:Program}
theorem sZ {ops:Array Oper} {o:Oper} {a:Act} {w:World} {K:Act→World→Prop} {Q:Exit→Act→World→Prop} {E:Prop}
 (hg:o.guard=none) (d x:Operand) (dT sT:TypeId) (hop:o.op=Op.call { callee:=Callee.builtin Builtin.append,args:=#[d,x],argTypes:=#[dT,sT] })
 (v u:Value) (hd:a.eval d=v) (hx:a.eval x=u) {v':Value} {w':World} (hr:(Builtin.append_ #[dT,sT] o.type #[v,u]).run P w = .ok v' w') (hK:K (a.put o.dst v') w') :
 if Region.wanted o (yielded ops a.tmps)=true then Oper.wp P o a w K Q else E:=by
 have hw:Region.wanted o (yielded ops a.tmps)=true:=by simp [Region.wanted,hg]
 rw[if_pos hw]
 exact Lib.wp_append_run w d x dT sT hop v u hd hx v' w' hr hK
theorem aEO (w:World) {o:Oper} {a:Act} {K:Act→World→Prop} {Q:Exit→Act→World→Prop} (s:Operand) (t:TypeId)
 (ho:o.op = .call { callee:=.builtin .clear,args:=#[s],argTypes:=#[t] }) (v:Value) (hs:a.eval s=v) {v':Value} {w':World}
 (hr:(Builtin.clear_ #[t] o.type #[v]).run P w = .ok v' w') (h:K (a.put o.dst v') w'):o.wp P a w K Q:=by
 unfold Oper.wp execOp
 simp only[ho,resolve,invoke,builtin,Sem.run_bind,Sem.run_pure,Result.andThen_ok,List.map_toArray,List.map_cons,List.map_nil,hs,hr]
 exact h
theorem rR (w:World) {ops:Array Oper} {rest:List Oper} {o:Oper} {a:Act} {Q:Exit→Act→World→Prop} (hgd:o.guard=none) (s:Operand) (t:TypeId)
 (ho:o.op = .call { callee:=.builtin .clear,args:=#[s],argTypes:=#[t] }) (v:Value) (hs:a.eval s=v) {v':Value} {w':World}
 (hr:(Builtin.clear_ #[t] o.type #[v]).run P w = .ok v' w') (h:wpList P ops Q rest (a.put o.dst v') w'):wpList P ops Q (o::rest) a w :=
 wpList_plain hgd fun _ hK=>aEO w s t ho v hs hr (hK _ _ h)

theorem aKY {ts:Array TypeId} {dt ty e:TypeId} {inf:TypeInfo} {zv:Value} (hts:ts[0]? = some dt) (h1:P.underlying dt=some (.slice e)) (e2:P.info? e=some inf) (hz:inf.zero=some zv)
 (W:World) (B o k cd:Nat) (C:Array Value) (te:TypeId) (fr:Nat × Nat) (hC:W.heap[B]? = some (.cells C te fr)) (hfr:xS C fr) (hfit:o+(Builtin.zeroCells zv.cells (k+1)).toList.length≤C.size) (h1c:∀v∈(Builtin.zeroCells zv.cells (k+1)).toList,v.oneCell'=true) :
 (Builtin.clear_ ts ty #[.slice (some ⟨B,o,none⟩) (k+1) cd]).run P W = .ok undef (W.setRow B (C.toList.take o++(Builtin.zeroCells zv.cells (k+1)).toList++C.toList.drop (o+(Builtin.zeroCells zv.cells (k+1)).toList.length)).toArray):=by
 have hst:=fC P B o te fr _ 0 C W hC hfr (by simpa using hfit) h1c
 simp only[Nat.add_zero] at hst
 simp only[Builtin.clear_,hts,Sem.run_bind,run_underlying h1,Result.andThen_ok,zeroValue,typeInfo,run_program,e2,hz,hst,Sem.run_pure,undef,show (#[Value.slice (some ⟨B,o,none⟩) (k+1) cd]:Array Value)[0]? = some (Value.slice (some ⟨B,o,none⟩) (k+1) cd) from rfl]
end

structure DelWalk (P:Program) (f ts sz:Nat):Prop where
 M:∀(B n c i:Nat) (w W1 W2:World),i<n→n≤c→n≤140737488355328→c≠i+1 →
  (Builtin.append_ #[ts,ts] ts #[.slice (some ⟨B,0,none⟩) i c,.slice (some ⟨B,(i+1)*sz,none⟩) (n - (i+1)) (c - (i+1))]).run P w.drew = .ok (.slice (some ⟨B,0,none⟩) (n - 1) c) W1 →
  (∀ty cd,(Builtin.clear_ #[ts] ty #[.slice (some ⟨B,(n - 1)*sz,none⟩) 1 cd]).run P W1 = .ok undef W2) →
  Calls P f #[.slice (some ⟨B,0,none⟩) n c,.int .i64 i,.int .i64 ((i:Int)+1)] w fun e w'=>e = .returned (.slice (some ⟨B,0,none⟩) (n - 1) c)∧w'=W2
 E:∀(B i:Nat) (w W1 W2:World),i+1≤140737488355328 →
  (Builtin.append_ #[ts,ts] ts #[.slice (some ⟨B,0,none⟩) i (i+1),.slice (some ⟨B,0,none⟩) 0 0]).run P w.drew = .ok (.slice (some ⟨B,0,none⟩) i (i+1)) W1 →
  (∀ty cd,(Builtin.clear_ #[ts] ty #[.slice (some ⟨B,i*sz,none⟩) 1 cd]).run P W1 = .ok undef W2) →
  Calls P f #[.slice (some ⟨B,0,none⟩) (i+1) (i+1),.int .i64 i,.int .i64 ((i:Int)+1)] w fun e w'=>e = .returned (.slice (some ⟨B,0,none⟩) i (i+1))∧w'=W2
 en:∀cargs w,(callFunc f cargs).run P w = .ok (.enter f cargs) w

abbrev aCC (rows:List (List AV)) (i:Nat):List (List AV):=rows.take i++rows.drop (i+1)
theorem delR_get {rows:List (List AV)} {i:Nat} (hi:i<rows.length) (r:Nat):(aCC rows i)[r]? = if r<i then rows[r]? else rows[r+1]?:=by
 unfold aCC
 by_cases h1:r<i
 · rw[if_pos h1,List.getElem?_append_left (by simp;omega),List.getElem?_take,if_pos h1]
 · rw[if_neg h1,List.getElem?_append_right (by simp;omega),List.getElem?_drop]
   congr 1
   simp
   omega
theorem delR_len {rows:List (List AV)} {i:Nat} (hi:i<rows.length):(aCC rows i).length=rows.length - 1:=by simp [aCC];omega

section
variable {P:Program} {f ts te sz:Nat}

theorem del_tri (W:DelWalk P f ts sz) {its ite:TI} (hts:cT P ts=some its) (ks:its.k = .slice te) (hte:cT P te=some ite)
 (hsz:ite.sz=sz) (h0:0<sz) (hbt:0<ite.bts) {z:AV} (hzz:ite.z=some z) (hzl:z.cells.length=sz) (hzf:lS z.cells=true)
 {rows:List (List AV)} {flg:Fl} {g wg:Nat} {i:Nat} (hi:i<rows.length) (hn47:rows.length≤140737488355328) :
 Tri P f [.ref sz 0 g 0 rows.length flg,.int .i64 i,.int .i64 ((i:Int)+1)] [.arr sz rows g wg false]
  (.ref sz 0 (g+1) 0 (rows.length - 1) .full) [.arr sz (aCC rows i) (g+1) (g+1) false]:=by
 refine⟨W.en,by simp,fun σ π w cargs R hv=>?_⟩
 obtain⟨u0,hu0,v0⟩:=hv.at_ (i:=0) rfl
 obtain⟨u1,hu1,v1⟩:=hv.at_ (i:=1) rfl
 obtain⟨u2,hu2,v2⟩:=hv.at_ (i:=2) rfl
 obtain rfl:cargs = #[u0,u1,u2]:=by
  apply Array.ext
  · simpa using hv.1
  · intro j h1 h2
    have hj:j<3:=by simpa using h2
    match j,hj with
    | 0,_=>rw[Array.getElem?_eq_some_iff] at hu0;exact hu0.2
    | 1,_=>rw[Array.getElem?_eq_some_iff] at hu1;exact hu1.2
    | 2,_=>rw[Array.getElem?_eq_some_iff] at hu2;exact hu2.2
 obtain rfl:u1 = .int .i64 i:=by cases v1;rfl
 obtain rfl:u2 = .int .i64 ((i:Int)+1):=by cases v2;rfl
 have hb0:([Blk.arr sz rows g wg false][·]?) 0=some (.arr sz rows g wg false):=rfl
 have hupd:∀(v:AV) (x:Blk),gD ([Blk.arr sz rows g wg false][·]?) 1 ⟨v,[(0,x)],[]⟩=([x][·]?):=by
  intro v x
  funext b
  match b with
  | 0=>rfl
  | b+1=>simp [gD,oE]
 obtain⟨l,c,C,tl,rfl,hl,hm,hc,-,hC,hF,hs,hf,hrow⟩:=zW R hb0 v0 (by omega) (Nat.le_refl _)
 obtain⟨dts,infs,p1,p2,he⟩:=aP hts
 have p1':P.underlying ts=some (.slice te):=by
  rw[he] at ks;rw[p1,f7 ks]
 obtain⟨de,inf,e1,e2,hee⟩:=aP hte
 obtain rfl:sz=inf.size:=by rw[← hsz,hee]
 have hbi:ite.bts=inf.bytes:=by rw[hee]
 have hz':=hzz
 rw[hee] at hz'
 simp only[Option.bind_eq_some_iff] at hz'
 obtain⟨zv,hzv,hzo⟩:=hz'
 have hvr:VR σ π w (.agg z.cells) (.agg zv.cells):=let c:=((k7 hzo σ π w).cellsN (pE hzo));.agg _ _ c.1 c.2
 have hzs:zv.cells.size=inf.size:=by
  have:=((k7 hzo σ π w).cellsN (pE hzo)).1
  rw[this]
  exact hzl
 have hlw:l.blk<w.heap.size:=R.lt _ _ _ hl
 have hrs:rows.length*inf.size≤C.size:=Nat.le_trans (Nat.mul_le_mul_right _ hc) hs
 obtain⟨t1,t2,t3⟩:=sR hf hrow h0 hrs (i+1) (rows.length - (i+1)) (by omega)
 obtain⟨tail,htail⟩:∃tail,tail=(C.toList.drop ((i+1)*inf.size)).take ((rows.length - (i+1))*inf.size):=⟨_,rfl⟩
 have ftail:∀(w1:World) (l0 c0:Nat),Same w w1→(Builtin.firstCells inf.size (rows.length - (i+1)) (.slice (some ⟨l.blk,(i+1)*inf.size,none⟩) l0 c0)).run P w1 = .ok tail.toArray w1:=fun w1 l0 c0 hw=>by
  refine run_firstCells_some w1 inf.size _ ⟨l.blk,(i+1)*inf.size,none⟩ l0 c0 tail (by rw[htail];exact t1) fun j v hj=>?_
  rw[fR]
  refine hw _ _ _ ?_
  rw[htail,List.getElem?_take] at hj
  split at hj
  · rw[List.getElem?_drop,Array.getElem?_toList] at hj
    simp only[World.cell?,hC]
    exact hj
  · cases hj
 rw[← htail] at t1 t2 t3
 have hsi:(i+1)*inf.size=i*inf.size+inf.size:=by rw[Nat.add_mul,Nat.one_mul]
 have hst:i*inf.size+(rows.length - (i+1))*inf.size=(rows.length - 1)*inf.size:=by rw[← Nat.add_mul];congr 1;omega
 have hsn:(rows.length - 1)*inf.size+inf.size=rows.length*inf.size:=by rw[show rows.length=rows.length - 1+1 by omega,Nat.add_mul,Nat.one_mul];simp
 have hfr:dW inf.size (aCC rows i):=by
  intro r hr
  rcases List.mem_append.1 hr with hr | hr
  · exact hf r (List.mem_of_mem_take hr)
  · exact hf r (List.mem_of_mem_drop hr)
 have hcells:∀D:Array Value,(∀j,j<i*inf.size→D[j]? = C[j]?)→(∀j,j<(rows.length - (i+1))*inf.size→D[i*inf.size+j]? = tail[j]?) →
  ∀r row',(aCC rows i)[r]? = some row'→kV σ π w row' D (r*inf.size):=by
  intro D g1 g3 r row' hr q a hq
  have hql:q<inf.size:=by
   have:=(List.getElem?_eq_some_iff.1 hq).1
   rw[(hfr row' (List.mem_of_getElem? hr)).1] at this
   exact this
  rw[delR_get hi] at hr
  by_cases h1:r<i
  · rw[if_pos h1] at hr
    have:(r+1)*inf.size≤i*inf.size:=Nat.mul_le_mul_right _ h1
    rw[Nat.add_mul,Nat.one_mul] at this
    rw[g1 _ (by omega)]
    exact hrow r row' hr q a hq
  · rw[if_neg h1] at hr
    obtain⟨k,rfl⟩:∃k,r=i+k:=⟨r - i,by omega⟩
    rw[show i+k+1=i+1+k by omega] at hr
    have hk:i+1+k<rows.length:=(List.getElem?_eq_some_iff.1 hr).1
    have hkm:(k+1)*inf.size≤(rows.length - (i+1))*inf.size:=Nat.mul_le_mul_right _ (by omega)
    rw[Nat.add_mul,Nat.one_mul] at hkm
    rw[show (i+k)*inf.size+q=i*inf.size+(k*inf.size+q) by rw[Nat.add_mul i k];omega,g3 _ (by omega)]
    exact t3 k q row' a hr (by omega) hq
 have hil:(aCC rows i).length=rows.length - 1:=delR_len hi
 have hfit1:i*inf.size+tail.length≤C.size:=by rw[t1];omega
 obtain⟨D1,hD1⟩:∃D1,D1=(C.toList.take (i*inf.size)++tail++C.toList.drop (i*inf.size+tail.length)).toArray:=⟨_,rfl⟩
 have hg1:∀j,D1[j]? = if i*inf.size≤j∧j<i*inf.size+tail.length then tail[j - i*inf.size]? else C[j]?:=fun j=>by rw[hD1];exact gZ hfit1 j
 have hs1:D1.size=C.size:=by
  rw[hD1]
  simp only[List.size_toArray,List.length_append,List.length_take,List.length_drop,Array.length_toList]
  omega
 have hW1:(w.drew.setRow l.blk D1).heap[l.blk]? = some (.cells D1 tl.1 tl.2):=setRow_heap w.drew l.blk C D1 tl.1 tl.2 hC
 have hzr:=oH (k:=1) hvr hzl h0 hzf
 obtain⟨zl,hzl2⟩:∃zl,zl=(Builtin.zeroCells zv.cells (0+1)).toList:=⟨_,rfl⟩
 have hzn:zl.length=inf.size:=by rw[hzl2];have:=hzr.1;simpa using this
 have hfit2:(rows.length - 1)*inf.size+zl.length≤D1.size:=by
  rw[hzn,hs1];omega
 obtain⟨D2,hD2⟩:∃D2,D2=(D1.toList.take ((rows.length - 1)*inf.size)++zl++D1.toList.drop ((rows.length - 1)*inf.size+zl.length)).toArray:=⟨_,rfl⟩
 have hg2:∀j,j<(rows.length - 1)*inf.size→D2[j]? = D1[j]?:=fun j hj=>by rw[hD2,gZ hfit2 j,if_neg (by omega)]
 have hs2:D2.size=C.size:=by
  rw[hD2]
  simp only[List.size_toArray,List.length_append,List.length_take,List.length_drop,Array.length_toList]
  omega
 have hW2:((w.drew.setRow l.blk D1).setRow l.blk D2).heap[l.blk]? = some (.cells D2 tl.1 tl.2):=setRow_heap _ l.blk D1 D2 tl.1 tl.2 hW1
 have hcl:∀ty cd,(Builtin.clear_ #[ts] ty #[.slice (some ⟨l.blk,(rows.length - 1)*inf.size,none⟩) 1 cd]).run P (w.drew.setRow l.blk D1) = .ok undef ((w.drew.setRow l.blk D1).setRow l.blk D2):=fun ty cd=>by
  have:=aKY (P:=P) (ts:=#[ts]) (dt:=ts) (ty:=ty) rfl p1' e2 hzv (w.drew.setRow l.blk D1) l.blk ((rows.length - 1)*inf.size) 0 cd D1 tl.1 tl.2 hW1 ((hF.size hs1).ok) (by rw[← hzl2];exact hfit2) hzr.2.2.2
  rw[← hzl2,← hD2] at this
  exact this
 have happ:∀(xa:Addr) (k xc:Nat),k=rows.length - (i+1)→(∀w1,Same w w1→(Builtin.firstCells inf.size k (.slice (some xa) k xc)).run P w1 = .ok tail.toArray w1) →
  (Builtin.append_ #[ts,ts] ts #[.slice (some ⟨l.blk,0,none⟩) i c,.slice (some xa) k xc]).run P w.drew = .ok (.slice (some ⟨l.blk,0,none⟩) (rows.length - 1) c) (w.drew.setRow l.blk D1):=by
  intro xa k xc hk hx
  have:=aF0 (P:=P) (w:=w.drew) (t:=ts) (xt:=ts) (ty:=ts) (e:=te) (dx:=.slice te) (k:=k) (x:=.slice (some xa) k xc) (news:=tail) p1' p1' e2 hzv (by omega) hzs h0
   (.inl ⟨fun kk h=>(by cases h),fun w1 hw=>⟨rfl,hx w1 hw⟩⟩) (by rw[hk];exact t1) t2 l.blk i c C tl.1 tl.2 hC hF.ok (by omega) hfit1
  rw[← hD1,show i+k=rows.length - 1 by omega] at this
  exact this
 have hfin:∃σ',VR σ' π ((w.drew.setRow l.blk D1).setRow l.blk D2) (.ref inf.size 0 (g+1) 0 (rows.length - 1) .full) (.slice (some ⟨l.blk,0,none⟩) (rows.length - 1) c)∧Done σ π w σ' π ((w.drew.setRow l.blk D1).setRow l.blk D2) ([Blk.arr inf.size (aCC rows i) (g+1) (g+1) false][·]?):=by
  obtain⟨σ',q1,q2⟩:=aBV (n:=1) R hb0 hl hfr ((w.drew.setRow l.blk D1).setRow l.blk D2) l.blk c D2 tl .full (by simp) rfl rfl rfl (.inl ⟨rfl,C,hC,hs2⟩) hW2 (hF.size hs2) (by rw[hil];omega) (by rw[hs2];exact hs)
   (fun x _ hx=>by rw[setRow_other _ _ _ _ hx,setRow_other _ _ _ _ hx];rfl)
   (hcells D2 (fun j hj=>by rw[hg2 j (by omega),hg1,if_neg (by omega)]) (fun j hj=>by
    rw[hg2 _ (by omega),hg1,if_pos (by omega),Nat.add_sub_cancel_left]))
  rw[hil,hupd] at q2
  rw[hil] at q1
  exact⟨σ',q1,q2⟩
 obtain⟨σ',q1,q2⟩:=hfin
 by_cases hci:c=i+1
 · have hni:rows.length=i+1:=by omega
   have h00:rows.length - 1=i:=by omega
   have ht0:tail=[]:=List.eq_nil_of_length_eq_zero (by rw[t1,hni];simp)
   subst hci
   have ha:=happ ⟨l.blk,0,none⟩ 0 0 (by omega) (fun w1 _=>by rw[ht0];simp [Builtin.firstCells,loadCells,loadCellsFrom])
   refine Calls.mono (R:=fun e w'=>e = .returned (.slice (some ⟨l.blk,0,none⟩) (rows.length - 1) (i+1))∧w'=(w.drew.setRow l.blk D1).setRow l.blk D2) ?_ ?_
   · have:=W.E l.blk i w _ _ (by omega) (by rw[h00] at ha;exact ha) (by rw[h00] at hcl;exact hcl)
     rw[h00,hni]
     exact this
   · rintro e w' ⟨rfl,rfl⟩
     exact⟨_,σ',π,rfl,q1,q2⟩
 · refine(W.M l.blk rows.length c i w _ _ hi hc hn47 hci (happ _ _ _ rfl (fun w1 hw=>ftail w1 _ _ hw)) hcl).mono ?_
   rintro e w' ⟨rfl,rfl⟩
   exact⟨_,σ',π,rfl,q1,q2⟩

theorem del_enc (W:DelWalk P f ts sz) (hts:(cT P ts).map (·.k)=some (.slice te)) {bt:Nat} (hte:(cT P te).map (fun i=>(i.sz,i.bts,i.z.map (fun z=>(z.cells.length,lS z.cells))))=some (sz,bt,some (sz,true))) (h0:0<sz) (hbt:0<bt)
 {α:Type} (E:α→List AV) {x1 x2:Int} {x3 r:List α} (h:delP x1 x2 x3=some r) {flg:Fl} {g wg:Nat} :
 Tri P f [.ref sz 0 g 0 x3.length flg,.int .i64 x1,.int .i64 x2] [.arr sz (List.map E x3) g wg false] (.ref sz 0 (g+1) 0 r.length .full) [.arr sz (List.map E r) (g+1) (g+1) false]:=by
 unfold delP at h
 split at h
 · rename_i hc
   obtain⟨c1,c2,c3,c4⟩:=hc
   cases h
   obtain⟨its,hts,ks⟩:=Option.map_eq_some_iff.1 hts
   obtain⟨ite,hte2,ke⟩:=Option.map_eq_some_iff.1 hte
   simp only[Prod.mk.injEq] at ke
   obtain⟨k1,rfl,k4⟩:=ke
   obtain⟨z,hz,hzf⟩:=Option.map_eq_some_iff.1 k4
   simp only[Prod.mk.injEq] at hzf
   obtain⟨i,rfl⟩:∃i:Nat,x1=(i:Int):=⟨x1.toNat,by omega⟩
   subst c3
   have:=del_tri W (rows:=List.map E x3) (flg:=flg) (g:=g) (wg:=wg) hts ks hte2 k1 h0 hbt hz hzf.1 hzf.2 (i:=i) (by simp;omega) (by simpa using c4)
   have e:List.map E (x3.take i++x3.drop (i+1))=aCC (List.map E x3) i:=by simp [aCC,List.map_take,List.map_drop]
   have el:(x3.take i++x3.drop (i+1)).length=x3.length - 1:=by simp;omega
   simp only[Int.toNat_natCast,el,e]
   simpa using this
 · cases h
end
end Go.Ws
