/-
  The range over the cells: a round, the counter.
  Conditions: none.
-/
import Derived.Test.YtpaekffehfdmgaaGreatDoorZRangeG
import Derived.Test.YtpaekffehfdmgaaGreatDoorZItL
import Derived.Test.YtpaekffehfdmgaaGreatDoorZWGWholeDurable0
set_option linter.unusedVariables false
set_option linter.unusedSimpArgs false
namespace Go.Ws
open Go.Proofs Go.RowKit
set_option linter.unusedVariables false
set_option linter.unusedSimpArgs false

abbrev Sd:=Int × Int × Int × Int × ByteArray × Bool
abbrev sdC (y:Sd):List AV:=aB y

def aF7:List AV→List AV→List Bool→List AV
 | _::t',v::t,b::bs=>(if b then v else .any)::aF7 t' t bs
 | _,_,_=>[]
def aDU:AV→Bool
 | .any=>true
 | _=>false
theorem aLK:∀(t' t:List AV),t'.length=t.length→aF7 t' t (t'.map fun v=>!aDU v)=t'→∀(i:Nat) v,t'[i]? = some v→v = .any∨t[i]? = some v
 | [],[],_,_=>fun i v h=>by simp at h
 | [],_::_,h,_=>by cases h
 | _::_,[],h,_=>by cases h
 | x::t',y::t,hl,h=>by
  simp only[List.map_cons,aF7,List.cons.injEq] at h
  have ih:=aLK t' t (by simpa using hl) h.2
  intro i v hv
  match i,hv with
  | 0,hv =>
   simp only[List.getElem?_cons_zero,Option.some.injEq] at hv ⊢
   subst hv
   by_cases hx:aDU x=true
   · exact .inl (by cases x<;>first|rfl | cases hx)
   · refine .inr ?_
     have h1:=h.1
     rw[if_pos (by simpa using hx)] at h1
     exact h1
  | i+1,hv=>simpa using ih i v (by simpa using hv)

theorem vrs_less {σ:Sig} {π:bX} {w:World} {t t2:List AV} {d:Array Value} (h:VRs σ π w t d) (hl:t2.length=t.length) (hs:aF7 t2 t (t2.map fun v=>!aDU v)=t2):VRs σ π w t2 d:=by
 refine⟨by rw[h.1,hl],fun i v u hv hu=>?_⟩
 rcases aLK t2 t hl hs i v hv with rfl | h1
 · exact .any _
 · exact h.2 i v u h1 hu

theorem aCW {σ:Sig} {π:bX} {w:World} {kk:IntKind} {n:Int} {u:Value} (h:VR σ π w (.int kk n) u):u = .int kk n:=by
 cases h;rfl

theorem aIS {y:Sd} {i:Nat} {v:AV} (h:(sdC y)[i]? = some v) {σ:Sig} {π:bX} {w:World} {u:Value} (hv:VR σ π w v u) (σ':Sig) (π':bX) (w':World):VR σ' π' w' v u:=by
 have:i<6:=(List.getElem?_eq_some_iff.1 h).1
 have hi:i=0∨i=1∨i=2∨i=3∨i=4∨i=5:=by omega
 rcases hi with rfl | rfl | rfl | rfl | rfl | rfl
 all_goals
  simp [sdC,aB] at h
  subst h
  cases hv
  constructor

theorem aEG {y:Sd} {σ:Sig} {π:bX} {w:World} {u:Value} (h:VR σ π w (.agg (sdC y)) u) (σ':Sig) (π':bX) (w':World):VR σ' π' w' (.agg (sdC y)) u:=by
 cases h with
 | agg _ d hl hv=>exact .agg _ d hl fun i v u hi hu=>aIS hi (hv i v u hi hu) σ' π' w'

theorem row_any {y:Sd} {σ:Sig} {π:bX} {w:World} {C:Array Value} (h:jX σ π w (sdC y) C 0) (σ':Sig) (π':bX) (w':World):jX σ' π' w' (sdC y) C 0:=fun i v hi=>by
 obtain⟨u,hu,hv⟩:=h i v hi
 exact⟨u,hu,aIS hi hv σ' π' w'⟩

theorem body_R {k:Nat} (l:Nat) (n:Int) {y:Sd} {c:Int} (h:qF k y=some c) (hn:0≤n∧n≤2):(c=0∨c=1)∧∃s:St,s.h=(.row [.int .i64 (n+c)])::(.row (sdC y))::s.h.drop 2 ∧
 TcR Tryz.prog ⟨Tryz.f4,[.row [.int .i64 n],.row (sdC y)],false⟩ l 3 c42B ⟨mkT 200 [(22,.hp 0 0),(24,.hp 1 0)],[.row [.int .i64 n],.row (sdC y)]⟩ (.st .normal s):=by
 unfold qF at h
 obtain⟨z1,e0,h⟩:=bsm h
 by_cases c2:eqI z1.2 0=true
 · rw[if_pos c2] at h
   obtain⟨z2,e1,h⟩:=bsm h
   by_cases c3:(eqI z2.2.2.2 0 && (eqI z2.1 y.2.1 && (eqI z2.2.1 y.2.2.1 && eqI z2.2.2.1 y.2.2.2.1)))=true
   · rw[if_pos c3] at h
     simp only[Bool.and_eq_true] at c3
     obtain⟨d3,d4,d5,d6⟩:=c3
     by_cases c7:eqI y.2.2.1 1=true
     · rw[if_pos c7] at h
       by_cases c8:eqS y.2.2.2.2.1 (ByteArray.mk #[99,97,114,103,111])=true
       · rw[if_pos c8] at h
         cases h
         have hi:bI .i64 n 1=n+1:=xO (by omega)
         refine⟨.inr rfl,_,?_,bodyR0 k l n y z1 e0 z2 e1 c2 d3 d4 d5 d6 c7 c8⟩
         rw[← hi]
         rfl
       · rw[if_neg c8] at h;cases h
     · rw[if_neg c7] at h
       cases h
       refine⟨.inl rfl,_,?_,bodyR1 k l n y z1 e0 z2 e1 c2 d3 d4 d5 d6 (by simpa using c7)⟩
       rw[Int.add_zero]
       rfl
   · rw[if_neg c3] at h;cases h
 · rw[if_neg c2] at h;cases h

theorem aNH {σ:Sig} {π:bX} {W W':World} {h:List Blk} {hb:Nat} {l:Loc} {v0 v:AV} {u0 u:Value} {te:TypeId} (R:Rel σ π W (h[·]?)) (hbk:h[hb]? = some (.row [v0])) (hl:σ hb 0=some l)
 (hW:W.heap[l.blk]? = some (.cells #[u0] te (0,0))) (hnew:W'.heap[l.blk]? = some (.cells #[u] te (0,0))) (hv:∀σ π w,VR σ π w v u)
 (hos:W'.os=W.os) (htp:W'.tape=W.tape) (hou:W'.output=W.output) (hsz:W.heap.size≤W'.heap.size) (hsame:∀i,i<W.heap.size→i≠l.blk→W'.heap[i]? = W.heap[i]?) :
 Done σ π W σ π W' ((h.set hb (.row [v]))[·]?):=by
 obtain⟨l',C,e,q1,q2,q3,q4,q5⟩:=R.blk hb _ hbk
 rw[hl] at q1
 cases q1
 have hne:∀B o,π B o→B≠l.blk:=fun B o hp e=>by subst e;exact q5 o hp
 have hlt:=R.lt _ _ _ hl
 have E:Ext σ π W σ π W':=⟨fun _ _ _ h=>h,fun _ _ h=>h,fun B o hp=>by simp only[World.cell?,hsame B (R.prot B o hp) (hne B o hp)],
  fun b g x C e fr hx hC=>by
   by_cases hB:x.blk=l.blk
   · rw[hB] at hC ⊢
     rw[hW] at hC
     cases hC
     exact⟨_,_,hnew,rfl⟩
   · exact⟨C,fr,(hsame _ (R.lt b g x hx) hB).trans hC,rfl⟩,
  fun B o C c hp hC=>(hsame B (R.prot B o hp) (hne B o hp)).trans hC⟩
 have hlh:hb<h.length:=(List.getElem?_eq_some_iff.1 hbk).1
 refine⟨E,⟨hsz,hos,htp,hou,fun B hB hn=>hsame B hB (fun e=>hn hb 0 l hl e.symm),fun b g x hx=>.inr ⟨b,g,x,hx,rfl⟩,fun _ _ hp=>.inl hp⟩,
  ⟨fun b x hx=>?_,fun b hbn g=>?_,R.inj,fun b g x hx=>Nat.lt_of_lt_of_le (R.lt b g x hx) hsz,fun B o hp=>Nat.lt_of_lt_of_le (R.prot B o hp) hsz⟩⟩
 · by_cases hbb:hb=b
   · subst hbb
     rw[List.getElem?_set_self hlh] at hx
     cases hx
     exact⟨l,#[u],te,hl,hnew,rfl,fun i x hi=>by
      match i,hi with
      | 0,hi=>cases hi;exact⟨u,rfl,hv _ _ _⟩
      | i+1,hi=>simp at hi,q5⟩
   · rw[List.getElem?_set_ne hbb] at hx
     exact(R.blk b x hx).mono E (fun _=>rfl) (fun g x hx=>hsame _ (R.lt b g x hx) (fun e=>hbb (R.inj _ _ _ _ _ _ hl hx e.symm))) (fun _ _ _ _ hp=>hp)
 · refine R.non b ?_ g
   rw[List.getElem?_eq_none_iff] at hbn ⊢
   simpa using hbn

def aCB (cs:_root_.Fin 3→Int) (pre:List (_root_.Fin 3)):Int:=(pre.map cs).sum

theorem aM8 (cs:_root_.Fin 3→Int) (pre:List (_root_.Fin 3)) (x:_root_.Fin 3):aCB cs (pre++[x])=aCB cs pre+cs x:=by
 simp [aCB]

theorem aB1 (cs:_root_.Fin 3→Int) (h:∀x,cs x=0∨cs x=1):∀pre:List (_root_.Fin 3),0≤aCB cs pre∧aCB cs pre≤pre.length
 | []=>⟨Int.le_refl _,Int.le_refl _⟩
 | x::pre=>by
  have ih:=aB1 cs h pre
  have hx:=h x
  simp only[aCB,List.map_cons,List.sum_cons,List.length_cons] at ih ⊢
  omega

theorem aKM {k:Nat} {M:List (Int × Sd)} {n:Int} (e:held k M=some n):∃(ys:_root_.Fin 3→Sd) (cs:_root_.Fin 3→Int),M=[(0,ys 0),(1,ys 1),(2,ys 2)]∧(∀x,qF k (ys x)=some (cs x))∧n=aCB cs [0,1,2]:=by
 unfold held at e
 obtain⟨a,ha,e⟩:=bsm e
 obtain⟨b,hb,e⟩:=bsm e
 obtain⟨c,hc,e⟩:=bsm e
 split at e
 · rename_i hk
   simp only[Bool.and_eq_true] at hk
   obtain⟨h3,k0,k1,k2⟩:=hk
   obtain⟨p,hp,e⟩:=bsm e
   obtain⟨q,hq,e⟩:=bsm e
   obtain⟨r,hr,e⟩:=bsm e
   cases e
   have hlen:M.length=3:=by simpa [eqN] using h3
   match M,hlen with
   | [a',b',c'],_ =>
    simp at ha hb hc
    subst ha hb hc
    have e0:a'.1=0:=by simpa [eqI] using k0
    have e1:b'.1=1:=by simpa [eqI] using k1
    have e2:c'.1=2:=by simpa [eqI] using k2
    refine⟨fun x=>match x with | 0=>a'.2 | 1=>b'.2 | 2=>c'.2,fun x=>match x with | 0=>p | 1=>q | 2=>r,?_,fun x=>?_,?_⟩
    · rw[← e0,← e1,← e2]
    · match x with
      | 0=>exact hp
      | 1=>exact hq
      | 2=>exact hr
    · simp [aCB];omega
 · cases e

end Go.Ws
