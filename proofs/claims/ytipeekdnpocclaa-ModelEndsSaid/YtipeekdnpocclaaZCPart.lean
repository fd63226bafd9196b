/-
  Parts, plain: what every call makes of one, in both.
  Conditions: none.
-/
import Derived.Test.YtipeekdnpocclaaZPlain
import Derived.KernelRfl
set_option linter.unusedVariables false
set_option linter.unusedSimpArgs false
namespace Go.Ws.L9
open Go.Ws
set_option linter.unusedVariables false
set_option linter.unusedSimpArgs false
set_option maxHeartbeats 1000000

def l8 (l:List (Int × Int)):Prop:=∀d∈l,d.1<64
theorem u4 {l:List (Int × Int)} {i:Nat} (h:i<l.length):l8 (l.drop i)↔l[i].1<64∧l8 (l.drop (i+1)):=by
 rw[List.drop_eq_getElem_cons h]
 unfold l8
 simp only[List.mem_cons,forall_eq_or_imp]
theorem wide_t {a b:Int} (h:¬a<64):iJ a b=true:=by unfold iJ;exact(by sdz[])
theorem wide_f {a b:Int} (h:a<64):¬iJ a b=true:=by unfold iJ;exact(by sdz[])
theorem aNZ {l:List (Int × Int)} (hl:l.length≤1000):∀(d i:Nat) (v:Int),l.length - i=d→i≤l.length→v=(i:Int) →
 (l8 (l.drop i)→gK l v=some (.inl ()))∧(¬l8 (l.drop i)→∃j:Int,0≤j∧gK l v=some (.inr j)):=by
 intro d
 induction d with
 | zero =>
  intro i v hd hi hv
  rw[List.drop_of_length_le (by omega)]
  refine⟨fun _=>?_,fun h=>absurd (fun x hx=>by cases hx) h⟩
  rw[iU]
  rnz[][]
  rfl
 | succ d ih =>
  intro i v hd hi hv
  have hlt:i<l.length:=by omega
  rw[u4 hlt]
  obtain⟨q1,q2⟩:=ih (i+1) (aH .i64 v 1) (by omega) (by omega) (by sdz[])
  by_cases hw:l[i].1<64
  · have hwf:=wide_f (b:=l[i].2) hw
    refine⟨fun h=>?_,fun h=>?_⟩
    · rw[iU]
      rnz[hwf][(eJ hv hlt)]
      exact q1 h.2
    · obtain⟨j,j0,hj⟩:=q2 (fun hh=>h ⟨hw,hh⟩)
      refine⟨j,j0,?_⟩
      rw[iU]
      rnz[hwf][(eJ hv hlt)]
      exact hj
  · have hwt:=wide_t (b:=l[i].2) hw
    refine⟨fun h=>absurd h.1 hw,fun _=>⟨v,by omega,?_⟩⟩
    rw[iU]
    rnz[hwt][(eJ hv hlt)]
    rfl
theorem vA {l:List (Int × Int)} (hl:l.length≤1000):(l8 l→fD l=some false)∧(¬l8 l→fD l=some true):=by
 obtain⟨q1,q2⟩:=aNZ hl _ 0 0 rfl (by omega) rfl
 rw[List.drop_zero] at q1 q2
 refine⟨fun h=>?_,fun h=>?_⟩
 · have:gT l=some (-1):=by
    rw[gT]
    rnz[][(q1 h)]
    rfl
   rw[fD]
   rnz[][this]
   rfl
 · obtain⟨j,j0,hj⟩:=q2 h
   have:gT l=some j:=by
    rw[gT]
    rnz[][hj]
    rfl
   rw[fD]
   rnz[][this]
   exact congrArg some (by sdz[])
theorem wM {s:Int} {l:List (Int × Int)} {c:Bool} {o:Int} (hl:l.length≤1000):∀(d i:Nat) (v:Int),l.length - i=d→i≤l.length→v=(i:Int) →
 (l8 (l.drop i)→j1 s l c o v=some (.inl ()))∧(¬l8 (l.drop i)→j1 s l c o v=some (.inr false)):=by
 intro d
 induction d with
 | zero =>
  intro i v hd hi hv
  rw[List.drop_of_length_le (by omega)]
  refine⟨fun _=>?_,fun h=>absurd (fun x hx=>by cases hx) h⟩
  rw[lU]
  rnz[][]
  rfl
 | succ d ih =>
  intro i v hd hi hv
  have hlt:i<l.length:=by omega
  rw[u4 hlt]
  obtain⟨q1,q2⟩:=ih (i+1) (aH .i64 v 1) (by omega) (by omega) (by sdz[])
  by_cases hw:l[i].1<64
  · refine⟨fun h=>?_,fun h=>?_⟩
    · rw[lU]
      rnz[][(eJ hv hlt)]
      exact q1 h.2
    · rw[lU]
      rnz[][(eJ hv hlt)]
      exact q2 (fun hh=>h ⟨hw,hh⟩)
  · refine⟨fun h=>absurd h.1 hw,fun _=>?_⟩
    rw[lU]
    rnz[][(eJ hv hlt)]
    rfl

def Rt (s:Int) (l:List (Int × Int)) (c:Bool) (o:Int):Prop:=(0≤s∧s≤3)∧l.length≤50∧l8 l∧((s=3∧(o=1∨o=2))∨(s≠3∧o=0∧(c=true→s=1)))
theorem aF7 {s:Int} {l:List (Int × Int)} {c:Bool} {o:Int} (h:Rt s l c o):fG s l c o=some true∧f4 s l c o=some true:=by
 obtain⟨h1,h2,h3,h4⟩:=h
 have q1:=(vA (l:=l) (by omega)).1 h3
 have q2:=(wM (s:=s) (c:=c) (o:=o) (l:=l) (by omega) _ 0 0 rfl (by omega) rfl).1 (by rw[List.drop_zero];exact h3)
 rcases h4 with⟨h4,h5 | h5⟩ | ⟨h4,h5,h6⟩
 · constructor
   · rw[fG]
     rnz[][q1]
     rfl
   · rw[f4]
     cases c
     · rnz[][q2]
       rfl
     · rnz[][q2]
       rfl
 · constructor
   · rw[fG]
     rnz[][q1]
     exact congrArg some (by sdz[])
   · rw[f4]
     cases c
     · rnz[][q2]
       exact congrArg some (by sdz[])
     · rnz[][q2]
       exact congrArg some (by sdz[])
 · cases c
   · constructor
     · rw[fG]
       rnz[][q1]
       rfl
     · rw[f4]
       rnz[][q2]
       exact congrArg some (by sdz[])
   · have h7:=h6 rfl
     constructor
     · rw[fG]
       rnz[][q1]
       exact congrArg some (by sdz[])
     · rw[f4]
       rnz[][q2]
       exact congrArg some (by sdz[])
theorem aFZ {s:Int} {l:List (Int × Int)} {c:Bool} {o:Int} (hl:l.length≤1000) (h:¬Rt s l c o):fG s l c o=some false∧f4 s l c o=some false:=by
 have k1:=vA (l:=l) hl
 have k2:=wM (s:=s) (c:=c) (o:=o) (l:=l) hl _ 0 0 rfl (by omega) rfl
 rw[List.drop_zero] at k2
 by_cases hk:l8 l
 rotate_left
 · have q1:=k1.2 hk
   have q2:=k2.2 hk
   refine⟨?_,?_⟩
   · rw[fG]
     by_cases a1:s<0
     · rnz[][]
       rfl
     by_cases a2:3<s
     · rnz[][]
       rfl
     by_cases a3:50<l.length
     · rnz[][]
       rfl
     rnz[][q1]
     rfl
   · rw[f4]
     rnz[][q2]
     rfl
 have q1:=k1.1 hk
 have q2:=k2.1 hk
 rw[fG,f4]
 by_cases a1:s<0
 · refine⟨?_,?_⟩
   · rnz[][q1]
     rfl
   · rnz[][q2]
     rfl
 by_cases a2:3<s
 · refine⟨?_,?_⟩
   · rnz[][q1]
     rfl
   · rnz[][q2]
     rfl
 by_cases a3:50<l.length
 · refine⟨?_,?_⟩
   · rnz[][q1]
     rfl
   · rnz[][q2]
     rfl
 have h2:¬((s=3∧(o=1∨o=2))∨(s≠3∧o=0∧(c=true→s=1))):=fun hh=>h ⟨by omega,by omega,hk,hh⟩
 by_cases b1:s=3
 · have e1:o≠1∧o≠2:=by omega
   refine⟨?_,?_⟩
   · rnz[][q1]
     exact congrArg some (by sdz[])
   · cases c
     · rnz[][q2]
       exact congrArg some (by sdz[])
     · rnz[][q2]
       exact congrArg some (by sdz[])
 · by_cases b2:o=0
   · have e2:¬(c=true→s=1):=fun hh=>h2 (.inr ⟨b1,b2,hh⟩)
     have hc:c=true:=Classical.byContradiction fun hh=>e2 fun h3=>absurd h3 hh
     subst hc
     have e3:s≠1:=fun hh=>e2 fun _=>hh
     refine⟨?_,?_⟩
     · rnz[][q1]
       exact congrArg some (by sdz[])
     · rnz[][q2]
       rfl
   · by_cases b3:o=1
     · refine⟨?_,?_⟩
       · rnz[][q1]
         rfl
       · cases c
         · rnz[][q2]
           exact congrArg some (by sdz[])
         · by_cases b4:s=1
           · rnz[][q2]
             exact congrArg some (by sdz[])
           · rnz[][q2]
             rfl
     · refine⟨?_,?_⟩
       · rnz[][q1]
         rfl
       · cases c
         · rnz[][q2]
           exact congrArg some (by sdz[])
         · by_cases b4:s=1
           · rnz[][q2]
             exact congrArg some (by sdz[])
           · rnz[][q2]
             rfl

theorem hU (l:List (Int × Int)) (h:l.length≤1000000):dY l=some ():=by
 rw[dY,jU]
 rnz[][]
 rfl
section
variable {s:Int} {l:List (Int × Int)} {c:Bool} {o:Int}
theorem aK9 (hl:l.length≤1000):hX s l c o=some (s,l,c,o)∧m6 s l c o=some ():=by
 constructor
 · rw[hX]
   rnz[][(hU l (by omega))]
   rfl
 · rw[m6]
   rnz[][(hU l (by omega))]
   rfl
theorem add_any (hl:l.length≤1000) (k b:Int):∃l' e,lH s l c o k b=some (s,l',c,o,e)∧p8 s l c o k b=some (s,l',c,o,e) ∧
 ((e=0∧Rt s l c o∧s=0∧k<64∧l.length<50∧l'=l++[(k,b)])∨(e≠0∧l'=l∧¬(Rt s l c o∧s=0∧k<64∧l.length<50)∧(Rt s l c o→s=0→k<64→e=6)∧(Rt s l c o→s≠0→k<64→e=13))):=by
 have ow:=(aK9 (s:=s) (c:=c) (o:=o) hl).2
 by_cases hr:Rt s l c o
 rotate_left
 · obtain⟨r1,r2⟩:=aFZ hl hr
   refine⟨l,2,?_,?_,.inr ⟨by omega,rfl,fun h=>hr h.1,fun h=>absurd h hr,fun h=>absurd h hr⟩⟩
   · rw[lH]
     rnz[][ow,r1]
     rfl
   · rw[p8]
     rnz[][r2]
     rfl
 obtain⟨r1,r2⟩:=aF7 hr
 by_cases hk:k<64
 rotate_left
 · have hw:=wide_t (b:=b) hk
   refine⟨l,2,?_,?_,.inr ⟨by omega,rfl,fun h=>hk h.2.2.1,fun _ _ h=>absurd h hk,fun _ _ h=>absurd h hk⟩⟩
   · rw[lH]
     rnz[hw][ow,r1]
     rfl
   · rw[p8]
     rnz[][r2]
     rfl
 have hw:=wide_f (b:=b) hk
 by_cases hs:s=0
 rotate_left
 · refine⟨l,13,?_,?_,.inr ⟨by omega,rfl,fun h=>hs h.2.1,fun _ h=>absurd h hs,fun _ _ _=>rfl⟩⟩
   · rw[lH]
     rnz[hw][ow,r1]
     rfl
   · rw[p8]
     rnz[][r2]
     rfl
 by_cases h5:l.length<50
 · refine⟨l++[(k,b)],0,?_,?_,.inl ⟨rfl,hr,hs,hk,h5,rfl⟩⟩
   · rw[lH]
     rnz[hw][ow,r1]
     rfl
   · rw[p8]
     rnz[][r2]
     rfl
 · refine⟨l,6,?_,?_,.inr ⟨by omega,rfl,fun h=>h5 h.2.2.2,fun _ _ _=>rfl,fun _ h=>absurd hs h⟩⟩
   · rw[lH]
     rnz[hw][ow,r1]
     rfl
   · rw[p8]
     rnz[][r2]
     rfl
theorem vote_any (hl:l.length≤1000) (y:Bool):∃s' e,mG s l c o y=some (s',l,c,o,e)∧tU s l c o y=some (s',l,c,o,e) ∧
 ((e=0∧Rt s l c o∧s=0∧s'=(if y then 1 else 2))∨(e≠0∧s'=s∧¬(Rt s l c o∧s=0)∧(Rt s l c o→e=13))):=by
 have ow:=(aK9 (s:=s) (c:=c) (o:=o) hl).1
 by_cases hr:Rt s l c o
 rotate_left
 · obtain⟨r1,r2⟩:=aFZ hl hr
   refine⟨s,2,?_,?_,.inr ⟨by omega,rfl,fun h=>hr h.1,fun h=>absurd h hr⟩⟩
   · rw[mG]
     rnz[][ow,r1]
     rfl
   · rw[tU]
     rnz[][r2]
     rfl
 obtain⟨r1,r2⟩:=aF7 hr
 by_cases hs:s=0
 rotate_left
 · refine⟨s,13,?_,?_,.inr ⟨by omega,rfl,fun h=>hs h.2,fun _=>rfl⟩⟩
   · rw[mG]
     rnz[][ow,r1]
     rfl
   · rw[tU]
     rnz[][r2]
     rfl
 refine⟨if y then 1 else 2,0,?_,?_,.inl ⟨rfl,hr,hs,rfl⟩⟩
 · rw[mG]
   cases y
   · rnz[][ow,r1]
     rfl
   · rnz[][ow,r1]
     rfl
 · rw[tU]
   cases y
   · rnz[][r2]
     rfl
   · rnz[][r2]
     rfl
theorem aIP (hl:l.length≤1000):∃c' d e,iX s l c o=some (s,l,c',o,d,e)∧o9 s l c o=some (s,l,c',o,d,e) ∧
 ((e=0∧Rt s l c o∧s=1∧c=false∧c'=true∧d=l)∨(e≠0∧c'=c∧d=[]∧¬(Rt s l c o∧s=1∧c=false))):=by
 have ow:=(aK9 (s:=s) (c:=c) (o:=o) hl).1
 by_cases hr:Rt s l c o
 rotate_left
 · obtain⟨r1,r2⟩:=aFZ hl hr
   refine⟨c,[],2,?_,?_,.inr ⟨by omega,rfl,rfl,fun h=>hr h.1⟩⟩
   · rw[iX]
     rnz[][ow,r1]
     rfl
   · rw[o9]
     rnz[][r2]
     rfl
 obtain⟨r1,r2⟩:=aF7 hr
 by_cases hs:s=1
 rotate_left
 · refine⟨c,[],13,?_,?_,.inr ⟨by omega,rfl,rfl,fun h=>hs h.2.1⟩⟩
   · rw[iX]
     rnz[][ow,r1]
     rfl
   · rw[o9]
     rnz[][r2]
     rfl
 cases c with
 | true =>
  refine⟨true,[],8,?_,?_,.inr ⟨by omega,rfl,rfl,fun h=>by simp at h⟩⟩
  · rw[iX]
    rnz[][ow,r1]
    rfl
  · rw[o9]
    rnz[][r2]
    rfl
 | false =>
  refine⟨true,l,0,?_,?_,.inl ⟨rfl,hr,hs,rfl,rfl,rfl⟩⟩
  · rw[iX]
    rnz[][ow,r1,(hU l (by omega))]
    rfl
  · rw[o9]
    rnz[][r2]
    rfl
end

theorem aLH (l:List (Int × Int)):(rH l).length=l.length:=by simp [rH]
theorem opp_snoc {l:List (Int × Int)} {i:Nat} (h:i<l.length):rH (l.drop (i+1))++[(l[i].1,aCO .i64 l[i].2)]=rH (l.drop i):=by
 rw[List.drop_eq_getElem_cons h]
 unfold rH
 rw[List.reverse_cons,List.map_append];rfl
theorem ropp_l0 {l:List (Int × Int)} (hl:l.length≤1000):∀(i:Nat) (v:Int) (out:List (Int × Int)),i≤l.length→v=(i:Int) - 1→out=rH (l.drop i)→jC l v out=some (rH l):=by
 intro i
 induction i with
 | zero =>
  intro v out hi hv ho
  rw[p6]
  rnz[][]
  rw[ho,List.drop_zero]
 | succ i ih =>
  intro v out hi hv ho
  have hlt:i<l.length:=by omega
  have hol:out.length≤1000:=by rw[ho,aLH,List.length_drop];omega
  have q:=ih (sM .i64 v 1) (out++[(l[i].1,aCO .i64 l[i].2)]) (by omega) (by sdz[]) (by rw[ho,opp_snoc hlt])
  rw[p6]
  rnz[][(eJ (i:=i) (by omega) hlt)]
  exact q
theorem ropp_ok {l:List (Int × Int)} (hl:l.length≤1000):nR l=some (rH l):=by
 have q:=ropp_l0 hl l.length (sM .i64 (nI l.length) 1) [] (Nat.le_refl _) (by sdz[]) (by rw[List.drop_length];rfl)
 rw[nR]
 rnz[][q]
 rfl
theorem opp_ok {l:List (Int × Int)} (hl:l.length≤1000):iS l=some (rH l)∧iS l=some (rH l):=by
 rw[iS,oppP,if_pos (by omega)]
 exact⟨rfl,rfl⟩
section
variable {s:Int} {l:List (Int × Int)} {c:Bool} {o:Int}
def dec (l:List (Int × Int)) (c:Bool) (w:Int):List (Int × Int):=if w=1 then (if c then [] else l) else (if c then rH l else [])
theorem aG3 (hl:l.length≤1000) (w:Int):∃s' o' d e,d7 s l c o w=some (s',l,c,o',d,e)∧jB s l c o w=some (s',l,c,o',d,e) ∧
 ((e=0∧Rt s l c o∧(w=1∨w=2)∧s≠3∧(w=1→s=1)∧s'=3∧o'=w∧d=dec l c w) ∨
  (s'=s∧o'=o∧d=[]∧((e=0∧Rt s l c o∧s=3∧o=w)∨(e≠0∧¬(Rt s l c o∧(w=1∨w=2)∧(o=w∨(s≠3∧(w=1→s=1)))))))):=by
 have ow:=(aK9 (s:=s) (c:=c) (o:=o) hl).1
 by_cases hr:Rt s l c o
 rotate_left
 · obtain⟨r1,r2⟩:=aFZ hl hr
   refine⟨s,o,[],2,?_,?_,.inr ⟨rfl,rfl,rfl,.inr ⟨by omega,fun h=>hr h.1⟩⟩⟩
   · rw[d7]
     rnz[][ow,r1]
     rfl
   · rw[jB]
     rnz[][r2]
     rfl
 obtain⟨r1,r2⟩:=aF7 hr
 have h4:=hr.2.2.2
 have p1:=(opp_ok (l:=l) hl).1
 have p2:=(opp_ok (l:=l) hl).2
 have p3:=ropp_ok (l:=l) hl
 have cl:=hU l (by omega)
 have eb1:∀x:Bool,eqB true x=x:=fun x=>by cases x<;>rfl
 have eb0:∀x:Bool,eqB false x = !x:=fun x=>by cases x<;>rfl
 by_cases hw:w=1∨w=2
 rotate_left
 · have hw1:w≠1:=fun h=>hw (.inl h)
   have hw2:w≠2:=fun h=>hw (.inr h)
   refine⟨s,o,[],2,?_,?_,.inr ⟨rfl,rfl,rfl,.inr ⟨by omega,fun h=>hw h.2.1⟩⟩⟩
   · rw[d7]
     rnz[][ow,r1]
     rfl
   · rw[jB]
     rnz[][r2]
     rfl
 by_cases hs3:s=3
 · by_cases how:o=w
   · refine⟨s,o,[],0,?_,?_,.inr ⟨rfl,rfl,rfl,.inl ⟨rfl,hr,hs3,how⟩⟩⟩
     · rw[d7]
       rcases hw with hw | hw
       · rnz[][ow,r1]
         rfl
       · rnz[][ow,r1]
         rfl
     · rw[jB]
       rcases hw with hw | hw
       · rnz[][r2]
         rfl
       · rnz[][r2]
         rfl
   · refine⟨s,o,[],13,?_,?_,.inr ⟨rfl,rfl,rfl,.inr ⟨by omega,fun h=>h.2.2.elim how fun hh=>hh.1 hs3⟩⟩⟩
     · rw[d7]
       rcases hw with hw | hw
       · rnz[][ow,r1]
         rfl
       · rnz[][ow,r1]
         rfl
     · rw[jB]
       rcases hw with hw | hw
       · rnz[][r2]
         rfl
       · rnz[][r2]
         rfl
 have ho0:o=0:=by
  rcases h4 with h4 | h4
  · exact absurd h4.1 hs3
  · exact h4.2.1
 rcases hw with hw | hw
 · subst hw
   by_cases hs1:s=1
   · refine⟨3,1,dec l c 1,0,?_,?_,.inl ⟨rfl,hr,.inl rfl,hs3,fun _=>hs1,rfl,rfl,rfl⟩⟩
     · rw[d7]
       cases c
       · rnz[][ow,r1,cl]
         rfl
       · rnz[][ow,r1,cl]
         rfl
     · rw[jB]
       cases c
       · rnz[][r2]
         rfl
       · rnz[][r2]
         rfl
   · refine⟨s,o,[],13,?_,?_,.inr ⟨rfl,rfl,rfl,.inr ⟨by omega,fun h=>h.2.2.elim (fun hh=>by omega) fun hh=>hs1 (hh.2 rfl)⟩⟩⟩
     · rw[d7]
       rnz[][ow,r1]
       rfl
     · rw[jB]
       rnz[][r2]
       rfl
 · subst hw
   refine⟨3,2,dec l c 2,0,?_,?_,.inl ⟨rfl,hr,.inr rfl,hs3,fun h=>by omega,rfl,rfl,rfl⟩⟩
   · rw[d7]
     cases c
     · rnz[][ow,r1,cl]
       rfl
     · rnz[][ow,r1,p2]
       rfl
   · rw[jB]
     cases c
     · rnz[][r2]
       rfl
     · rnz[][r2,p3]
       rfl
end

section
variable {s:Int} {l:List (Int × Int)} {c:Bool} {o:Int}
def eff (s:Int) (l:List (Int × Int)) (c:Bool) (o:Int):List (Int × Int):=if o=1 then l else if s=1∧c=true then l else if s=3∧c=true then l++rH l else []
end
end Go.Ws.L9
