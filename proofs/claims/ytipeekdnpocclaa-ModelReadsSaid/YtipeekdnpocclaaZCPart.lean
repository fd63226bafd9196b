/-
  Parts, plain: what every call makes of one, in both.
  Conditions: none.
-/
import Derived.Test.YtipeekdnpocclaaZPlain
import Derived.KernelRfl
set_option linter.unusedVariables false
set_option linter.unusedSimpArgs false
namespace Go.Ws.L9
open Go.Ws
set_option linter.unusedVariables false
set_option linter.unusedSimpArgs false
set_option maxHeartbeats 1000000

def kU (l:List (Int × Int)):Prop:=∀d∈l,d.1<64
theorem v7 {l:List (Int × Int)} {i:Nat} (h:i<l.length):kU (l.drop i)↔l[i].1<64∧kU (l.drop (i+1)):=by
 rw[List.drop_eq_getElem_cons h]
 unfold kU
 simp only[List.mem_cons,forall_eq_or_imp]
theorem wide_t {a b:Int} (h:¬a<64):jW a b=true:=by unfold jW;exact(by sdz[])
theorem wide_f {a b:Int} (h:a<64):¬jW a b=true:=by unfold jW;exact(by sdz[])
theorem aUE {l:List (Int × Int)} (hl:l.length≤1000):∀(d i:Nat) (v:Int),l.length - i=d→i≤l.length→v=(i:Int) →
 (kU (l.drop i)→iQ l v=some (.inl ()))∧(¬kU (l.drop i)→∃j:Int,0≤j∧iQ l v=some (.inr j)):=by
 intro d
 induction d with
 | zero =>
  intro i v hd hi hv
  rw[List.drop_of_length_le (by omega)]
  refine⟨fun _=>?_,fun h=>absurd (fun x hx=>by cases hx) h⟩
  rw[kN]
  rnz[][]
  rfl
 | succ d ih =>
  intro i v hd hi hv
  have hlt:i<l.length:=by omega
  rw[v7 hlt]
  obtain⟨q1,q2⟩:=ih (i+1) (aL .i64 v 1) (by omega) (by omega) (by sdz[])
  by_cases hw:l[i].1<64
  · have hwf:=wide_f (b:=l[i].2) hw
    refine⟨fun h=>?_,fun h=>?_⟩
    · rw[kN]
      rnz[hwf][(cU hv hlt)]
      exact q1 h.2
    · obtain⟨j,j0,hj⟩:=q2 (fun hh=>h ⟨hw,hh⟩)
      refine⟨j,j0,?_⟩
      rw[kN]
      rnz[hwf][(cU hv hlt)]
      exact hj
  · have hwt:=wide_t (b:=l[i].2) hw
    refine⟨fun h=>absurd h.1 hw,fun _=>⟨v,by omega,?_⟩⟩
    rw[kN]
    rnz[hwt][(cU hv hlt)]
    rfl
theorem zT {l:List (Int × Int)} (hl:l.length≤1000):(kU l→gT l=some false)∧(¬kU l→gT l=some true):=by
 obtain⟨q1,q2⟩:=aUE hl _ 0 0 rfl (by omega) rfl
 rw[List.drop_zero] at q1 q2
 refine⟨fun h=>?_,fun h=>?_⟩
 · have:i8 l=some (-1):=by
    rw[i8]
    rnz[][(q1 h)]
    rfl
   rw[gT]
   rnz[][this]
   rfl
 · obtain⟨j,j0,hj⟩:=q2 h
   have:i8 l=some j:=by
    rw[i8]
    rnz[][hj]
    rfl
   rw[gT]
   rnz[][this]
   exact congrArg some (by sdz[])
theorem aAW {s:Int} {l:List (Int × Int)} {c:Bool} {o:Int} (hl:l.length≤1000):∀(d i:Nat) (v:Int),l.length - i=d→i≤l.length→v=(i:Int) →
 (kU (l.drop i)→mA s l c o v=some (.inl ()))∧(¬kU (l.drop i)→mA s l c o v=some (.inr false)):=by
 intro d
 induction d with
 | zero =>
  intro i v hd hi hv
  rw[List.drop_of_length_le (by omega)]
  refine⟨fun _=>?_,fun h=>absurd (fun x hx=>by cases hx) h⟩
  rw[n9]
  rnz[][]
  rfl
 | succ d ih =>
  intro i v hd hi hv
  have hlt:i<l.length:=by omega
  rw[v7 hlt]
  obtain⟨q1,q2⟩:=ih (i+1) (aL .i64 v 1) (by omega) (by omega) (by sdz[])
  by_cases hw:l[i].1<64
  · refine⟨fun h=>?_,fun h=>?_⟩
    · rw[n9]
      rnz[][(cU hv hlt)]
      exact q1 h.2
    · rw[n9]
      rnz[][(cU hv hlt)]
      exact q2 (fun hh=>h ⟨hw,hh⟩)
  · refine⟨fun h=>absurd h.1 hw,fun _=>?_⟩
    rw[n9]
    rnz[][(cU hv hlt)]
    rfl

def Rt (s:Int) (l:List (Int × Int)) (c:Bool) (o:Int):Prop:=(0≤s∧s≤3)∧l.length≤50∧kU l∧((s=3∧(o=1∨o=2))∨(s≠3∧o=0∧(c=true→s=1)))
theorem aHY {s:Int} {l:List (Int × Int)} {c:Bool} {o:Int} (h:Rt s l c o):gZ s l c o=some true∧gD s l c o=some true:=by
 obtain⟨h1,h2,h3,h4⟩:=h
 have q1:=(zT (l:=l) (by omega)).1 h3
 have q2:=(aAW (s:=s) (c:=c) (o:=o) (l:=l) (by omega) _ 0 0 rfl (by omega) rfl).1 (by rw[List.drop_zero];exact h3)
 rcases h4 with⟨h4,h5 | h5⟩ | ⟨h4,h5,h6⟩
 · constructor
   · rw[gZ]
     rnz[][q1]
     rfl
   · rw[gD]
     cases c
     · rnz[][q2]
       rfl
     · rnz[][q2]
       rfl
 · constructor
   · rw[gZ]
     rnz[][q1]
     exact congrArg some (by sdz[])
   · rw[gD]
     cases c
     · rnz[][q2]
       exact congrArg some (by sdz[])
     · rnz[][q2]
       exact congrArg some (by sdz[])
 · cases c
   · constructor
     · rw[gZ]
       rnz[][q1]
       rfl
     · rw[gD]
       rnz[][q2]
       exact congrArg some (by sdz[])
   · have h7:=h6 rfl
     constructor
     · rw[gZ]
       rnz[][q1]
       exact congrArg some (by sdz[])
     · rw[gD]
       rnz[][q2]
       exact congrArg some (by sdz[])
theorem aJ1 {s:Int} {l:List (Int × Int)} {c:Bool} {o:Int} (hl:l.length≤1000) (h:¬Rt s l c o):gZ s l c o=some false∧gD s l c o=some false:=by
 have k1:=zT (l:=l) hl
 have k2:=aAW (s:=s) (c:=c) (o:=o) (l:=l) hl _ 0 0 rfl (by omega) rfl
 rw[List.drop_zero] at k2
 by_cases hk:kU l
 rotate_left
 · have q1:=k1.2 hk
   have q2:=k2.2 hk
   refine⟨?_,?_⟩
   · rw[gZ]
     by_cases a1:s<0
     · rnz[][]
       rfl
     by_cases a2:3<s
     · rnz[][]
       rfl
     by_cases a3:50<l.length
     · rnz[][]
       rfl
     rnz[][q1]
     rfl
   · rw[gD]
     rnz[][q2]
     rfl
 have q1:=k1.1 hk
 have q2:=k2.1 hk
 rw[gZ,gD]
 by_cases a1:s<0
 · refine⟨?_,?_⟩
   · rnz[][q1]
     rfl
   · rnz[][q2]
     rfl
 by_cases a2:3<s
 · refine⟨?_,?_⟩
   · rnz[][q1]
     rfl
   · rnz[][q2]
     rfl
 by_cases a3:50<l.length
 · refine⟨?_,?_⟩
   · rnz[][q1]
     rfl
   · rnz[][q2]
     rfl
 have h2:¬((s=3∧(o=1∨o=2))∨(s≠3∧o=0∧(c=true→s=1))):=fun hh=>h ⟨by omega,by omega,hk,hh⟩
 by_cases b1:s=3
 · have e1:o≠1∧o≠2:=by omega
   refine⟨?_,?_⟩
   · rnz[][q1]
     exact congrArg some (by sdz[])
   · cases c
     · rnz[][q2]
       exact congrArg some (by sdz[])
     · rnz[][q2]
       exact congrArg some (by sdz[])
 · by_cases b2:o=0
   · have e2:¬(c=true→s=1):=fun hh=>h2 (.inr ⟨b1,b2,hh⟩)
     have hc:c=true:=Classical.byContradiction fun hh=>e2 fun h3=>absurd h3 hh
     subst hc
     have e3:s≠1:=fun hh=>e2 fun _=>hh
     refine⟨?_,?_⟩
     · rnz[][q1]
       exact congrArg some (by sdz[])
     · rnz[][q2]
       rfl
   · by_cases b3:o=1
     · refine⟨?_,?_⟩
       · rnz[][q1]
         rfl
       · cases c
         · rnz[][q2]
           exact congrArg some (by sdz[])
         · by_cases b4:s=1
           · rnz[][q2]
             exact congrArg some (by sdz[])
           · rnz[][q2]
             rfl
     · refine⟨?_,?_⟩
       · rnz[][q1]
         rfl
       · cases c
         · rnz[][q2]
           exact congrArg some (by sdz[])
         · by_cases b4:s=1
           · rnz[][q2]
             exact congrArg some (by sdz[])
           · rnz[][q2]
             rfl

theorem mF (l:List (Int × Int)) (h:l.length≤1000000):gU l=some ():=by
 rw[gU,lW]
 rnz[][]
 rfl
section
variable {s:Int} {l:List (Int × Int)} {c:Bool} {o:Int}
theorem aP8 (hl:l.length≤1000):jQ s l c o=some (s,l,c,o)∧pM s l c o=some ():=by
 constructor
 · rw[jQ]
   rnz[][(mF l (by omega))]
   rfl
 · rw[pM]
   rnz[][(mF l (by omega))]
   rfl
theorem aWG (hl:l.length≤1000) (k b:Int):∃l' e,pC s l c o k b=some (s,l',c,o,e)∧mV s l c o k b=some (s,l',c,o,e) ∧
 ((e=0∧Rt s l c o∧s=0∧k<64∧l.length<50∧l'=l++[(k,b)])∨(e≠0∧l'=l∧¬(Rt s l c o∧s=0∧k<64∧l.length<50)∧(Rt s l c o→s=0→k<64→e=6)∧(Rt s l c o→s≠0→k<64→e=13))):=by
 have ow:=(aP8 (s:=s) (c:=c) (o:=o) hl).2
 by_cases hr:Rt s l c o
 rotate_left
 · obtain⟨r1,r2⟩:=aJ1 hl hr
   refine⟨l,2,?_,?_,.inr ⟨by omega,rfl,fun h=>hr h.1,fun h=>absurd h hr,fun h=>absurd h hr⟩⟩
   · rw[pC]
     rnz[][ow,r1]
     rfl
   · rw[mV]
     rnz[][r2]
     rfl
 obtain⟨r1,r2⟩:=aHY hr
 by_cases hk:k<64
 rotate_left
 · have hw:=wide_t (b:=b) hk
   refine⟨l,2,?_,?_,.inr ⟨by omega,rfl,fun h=>hk h.2.2.1,fun _ _ h=>absurd h hk,fun _ _ h=>absurd h hk⟩⟩
   · rw[pC]
     rnz[hw][ow,r1]
     rfl
   · rw[mV]
     rnz[][r2]
     rfl
 have hw:=wide_f (b:=b) hk
 by_cases hs:s=0
 rotate_left
 · refine⟨l,13,?_,?_,.inr ⟨by omega,rfl,fun h=>hs h.2.1,fun _ h=>absurd h hs,fun _ _ _=>rfl⟩⟩
   · rw[pC]
     rnz[hw][ow,r1]
     rfl
   · rw[mV]
     rnz[][r2]
     rfl
 by_cases h5:l.length<50
 · refine⟨l++[(k,b)],0,?_,?_,.inl ⟨rfl,hr,hs,hk,h5,rfl⟩⟩
   · rw[pC]
     rnz[hw][ow,r1]
     rfl
   · rw[mV]
     rnz[][r2]
     rfl
 · refine⟨l,6,?_,?_,.inr ⟨by omega,rfl,fun h=>h5 h.2.2.2,fun _ _ _=>rfl,fun _ h=>absurd hs h⟩⟩
   · rw[pC]
     rnz[hw][ow,r1]
     rfl
   · rw[mV]
     rnz[][r2]
     rfl
theorem aST (hl:l.length≤1000) (y:Bool):∃s' e,qK s l c o y=some (s',l,c,o,e)∧oV s l c o y=some (s',l,c,o,e) ∧
 ((e=0∧Rt s l c o∧s=0∧s'=(if y then 1 else 2))∨(e≠0∧s'=s∧¬(Rt s l c o∧s=0)∧(Rt s l c o→e=13))):=by
 have ow:=(aP8 (s:=s) (c:=c) (o:=o) hl).1
 by_cases hr:Rt s l c o
 rotate_left
 · obtain⟨r1,r2⟩:=aJ1 hl hr
   refine⟨s,2,?_,?_,.inr ⟨by omega,rfl,fun h=>hr h.1,fun h=>absurd h hr⟩⟩
   · rw[qK]
     rnz[][ow,r1]
     rfl
   · rw[oV]
     rnz[][r2]
     rfl
 obtain⟨r1,r2⟩:=aHY hr
 by_cases hs:s=0
 rotate_left
 · refine⟨s,13,?_,?_,.inr ⟨by omega,rfl,fun h=>hs h.2,fun _=>rfl⟩⟩
   · rw[qK]
     rnz[][ow,r1]
     rfl
   · rw[oV]
     rnz[][r2]
     rfl
 refine⟨if y then 1 else 2,0,?_,?_,.inl ⟨rfl,hr,hs,rfl⟩⟩
 · rw[qK]
   cases y
   · rnz[][ow,r1]
     rfl
   · rnz[][ow,r1]
     rfl
 · rw[oV]
   cases y
   · rnz[][r2]
     rfl
   · rnz[][r2]
     rfl
theorem aH5 (hl:l.length≤1000):∃c' d e,lV s l c o=some (s,l,c',o,d,e)∧lY s l c o=some (s,l,c',o,d,e) ∧
 ((e=0∧Rt s l c o∧s=1∧c=false∧c'=true∧d=l)∨(e≠0∧c'=c∧d=[]∧¬(Rt s l c o∧s=1∧c=false))):=by
 have ow:=(aP8 (s:=s) (c:=c) (o:=o) hl).1
 by_cases hr:Rt s l c o
 rotate_left
 · obtain⟨r1,r2⟩:=aJ1 hl hr
   refine⟨c,[],2,?_,?_,.inr ⟨by omega,rfl,rfl,fun h=>hr h.1⟩⟩
   · rw[lV]
     rnz[][ow,r1]
     rfl
   · rw[lY]
     rnz[][r2]
     rfl
 obtain⟨r1,r2⟩:=aHY hr
 by_cases hs:s=1
 rotate_left
 · refine⟨c,[],13,?_,?_,.inr ⟨by omega,rfl,rfl,fun h=>hs h.2.1⟩⟩
   · rw[lV]
     rnz[][ow,r1]
     rfl
   · rw[lY]
     rnz[][r2]
     rfl
 cases c with
 | true =>
  refine⟨true,[],8,?_,?_,.inr ⟨by omega,rfl,rfl,fun h=>by simp at h⟩⟩
  · rw[lV]
    rnz[][ow,r1]
    rfl
  · rw[lY]
    rnz[][r2]
    rfl
 | false =>
  refine⟨true,l,0,?_,?_,.inl ⟨rfl,hr,hs,rfl,rfl,rfl⟩⟩
  · rw[lV]
    rnz[][ow,r1,(mF l (by omega))]
    rfl
  · rw[lY]
    rnz[][r2]
    rfl
end

theorem aK4 (l:List (Int × Int)):(tO l).length=l.length:=by simp [tO]
theorem opp_snoc {l:List (Int × Int)} {i:Nat} (h:i<l.length):tO (l.drop (i+1))++[(l[i].1,sQ .i64 l[i].2)]=tO (l.drop i):=by
 rw[List.drop_eq_getElem_cons h]
 unfold tO
 rw[List.reverse_cons,List.map_append];rfl
theorem ropp_l0 {l:List (Int × Int)} (hl:l.length≤1000):∀(i:Nat) (v:Int) (out:List (Int × Int)),i≤l.length→v=(i:Int) - 1→out=tO (l.drop i)→k8 l v out=some (tO l):=by
 intro i
 induction i with
 | zero =>
  intro v out hi hv ho
  rw[tJ]
  rnz[][]
  rw[ho,List.drop_zero]
 | succ i ih =>
  intro v out hi hv ho
  have hlt:i<l.length:=by omega
  have hol:out.length≤1000:=by rw[ho,aK4,List.length_drop];omega
  have q:=ih (qE .i64 v 1) (out++[(l[i].1,sQ .i64 l[i].2)]) (by omega) (by sdz[]) (by rw[ho,opp_snoc hlt])
  rw[tJ]
  rnz[][(cU (i:=i) (by omega) hlt)]
  exact q
theorem ropp_ok {l:List (Int × Int)} (hl:l.length≤1000):lG l=some (tO l):=by
 have q:=ropp_l0 hl l.length (qE .i64 (nI l.length) 1) [] (Nat.le_refl _) (by sdz[]) (by rw[List.drop_length];rfl)
 rw[lG]
 rnz[][q]
 rfl
theorem opp_ok {l:List (Int × Int)} (hl:l.length≤1000):kD l=some (tO l)∧kD l=some (tO l):=by
 rw[kD,oppP,if_pos (by omega)]
 exact⟨rfl,rfl⟩
section
variable {s:Int} {l:List (Int × Int)} {c:Bool} {o:Int}
def dec (l:List (Int × Int)) (c:Bool) (w:Int):List (Int × Int):=if w=1 then (if c then [] else l) else (if c then tO l else [])
theorem aCA (hl:l.length≤1000) (w:Int):∃s' o' d e,gQ s l c o w=some (s',l,c,o',d,e)∧eW s l c o w=some (s',l,c,o',d,e) ∧
 ((e=0∧Rt s l c o∧(w=1∨w=2)∧s≠3∧(w=1→s=1)∧s'=3∧o'=w∧d=dec l c w) ∨
  (s'=s∧o'=o∧d=[]∧((e=0∧Rt s l c o∧s=3∧o=w)∨(e≠0∧¬(Rt s l c o∧(w=1∨w=2)∧(o=w∨(s≠3∧(w=1→s=1)))))))):=by
 have ow:=(aP8 (s:=s) (c:=c) (o:=o) hl).1
 by_cases hr:Rt s l c o
 rotate_left
 · obtain⟨r1,r2⟩:=aJ1 hl hr
   refine⟨s,o,[],2,?_,?_,.inr ⟨rfl,rfl,rfl,.inr ⟨by omega,fun h=>hr h.1⟩⟩⟩
   · rw[gQ]
     rnz[][ow,r1]
     rfl
   · rw[eW]
     rnz[][r2]
     rfl
 obtain⟨r1,r2⟩:=aHY hr
 have h4:=hr.2.2.2
 have p1:=(opp_ok (l:=l) hl).1
 have p2:=(opp_ok (l:=l) hl).2
 have p3:=ropp_ok (l:=l) hl
 have cl:=mF l (by omega)
 have eb1:∀x:Bool,eqB true x=x:=fun x=>by cases x<;>rfl
 have eb0:∀x:Bool,eqB false x = !x:=fun x=>by cases x<;>rfl
 by_cases hw:w=1∨w=2
 rotate_left
 · have hw1:w≠1:=fun h=>hw (.inl h)
   have hw2:w≠2:=fun h=>hw (.inr h)
   refine⟨s,o,[],2,?_,?_,.inr ⟨rfl,rfl,rfl,.inr ⟨by omega,fun h=>hw h.2.1⟩⟩⟩
   · rw[gQ]
     rnz[][ow,r1]
     rfl
   · rw[eW]
     rnz[][r2]
     rfl
 by_cases hs3:s=3
 · by_cases how:o=w
   · refine⟨s,o,[],0,?_,?_,.inr ⟨rfl,rfl,rfl,.inl ⟨rfl,hr,hs3,how⟩⟩⟩
     · rw[gQ]
       rcases hw with hw | hw
       · rnz[][ow,r1]
         rfl
       · rnz[][ow,r1]
         rfl
     · rw[eW]
       rcases hw with hw | hw
       · rnz[][r2]
         rfl
       · rnz[][r2]
         rfl
   · refine⟨s,o,[],13,?_,?_,.inr ⟨rfl,rfl,rfl,.inr ⟨by omega,fun h=>h.2.2.elim how fun hh=>hh.1 hs3⟩⟩⟩
     · rw[gQ]
       rcases hw with hw | hw
       · rnz[][ow,r1]
         rfl
       · rnz[][ow,r1]
         rfl
     · rw[eW]
       rcases hw with hw | hw
       · rnz[][r2]
         rfl
       · rnz[][r2]
         rfl
 have ho0:o=0:=by
  rcases h4 with h4 | h4
  · exact absurd h4.1 hs3
  · exact h4.2.1
 rcases hw with hw | hw
 · subst hw
   by_cases hs1:s=1
   · refine⟨3,1,dec l c 1,0,?_,?_,.inl ⟨rfl,hr,.inl rfl,hs3,fun _=>hs1,rfl,rfl,rfl⟩⟩
     · rw[gQ]
       cases c
       · rnz[][ow,r1,cl]
         rfl
       · rnz[][ow,r1,cl]
         rfl
     · rw[eW]
       cases c
       · rnz[][r2]
         rfl
       · rnz[][r2]
         rfl
   · refine⟨s,o,[],13,?_,?_,.inr ⟨rfl,rfl,rfl,.inr ⟨by omega,fun h=>h.2.2.elim (fun hh=>by omega) fun hh=>hs1 (hh.2 rfl)⟩⟩⟩
     · rw[gQ]
       rnz[][ow,r1]
       rfl
     · rw[eW]
       rnz[][r2]
       rfl
 · subst hw
   refine⟨3,2,dec l c 2,0,?_,?_,.inl ⟨rfl,hr,.inr rfl,hs3,fun h=>by omega,rfl,rfl,rfl⟩⟩
   · rw[gQ]
     cases c
     · rnz[][ow,r1,cl]
       rfl
     · rnz[][ow,r1,p2]
       rfl
   · rw[eW]
     cases c
     · rnz[][r2]
       rfl
     · rnz[][r2,p3]
       rfl
end

section
variable {s:Int} {l:List (Int × Int)} {c:Bool} {o:Int}
def eff (s:Int) (l:List (Int × Int)) (c:Bool) (o:Int):List (Int × Int):=if o=1 then l else if s=1∧c=true then l else if s=3∧c=true then l++tO l else []
end
end Go.Ws.L9
