/-
  Parts, plain: what every call makes of one, in both.
  Conditions: none.
-/
import Derived.Test.YtpaekffehfdmgaaGreatDoorZPlain
import Derived.KernelRfl
set_option linter.unusedVariables false
set_option linter.unusedSimpArgs false
namespace Go.Ws.L9
open Go.Ws
set_option linter.unusedVariables false
set_option linter.unusedSimpArgs false
set_option maxHeartbeats 1000000

def nO (l:List (Int × Int)):Prop:=∀d∈l,d.1<64
theorem aBH {l:List (Int × Int)} {i:Nat} (h:i<l.length):nO (l.drop i)↔l[i].1<64∧nO (l.drop (i+1)):=by
 rw[List.drop_eq_getElem_cons h]
 unfold nO
 simp only[List.mem_cons,forall_eq_or_imp]
theorem wide_t {a b:Int} (h:¬a<64):iT a b=true:=by unfold iT;exact sd
theorem wide_f {a b:Int} (h:a<64):¬iT a b=true:=by unfold iT;exact sd
theorem aSP {l:List (Int × Int)} (hl:l.length≤1000):∀(d i:Nat) (v:Int),l.length - i=d→i≤l.length→v=(i:Int) →
 (nO (l.drop i)→gT l v=some (.inl ()))∧(¬nO (l.drop i)→∃j:Int,0≤j∧gT l v=some (.inr j)):=by
 intro d
 induction d with
 | zero =>
  intro i v hd hi hv
  rw[List.drop_of_length_le (by omega)]
  refine⟨fun _=>?_,fun h=>absurd (fun x hx=>by cases hx) h⟩
  rw[jC]
  repeat (first|refine ip0 ?_|refine jn0 ?_|refine el ?_|refine er ?_)
  rfl
 | succ d ih =>
  intro i v hd hi hv
  have hlt:i<l.length:=by omega
  rw[aBH hlt]
  obtain⟨q1,q2⟩:=ih (i+1) (aH .i64 v 1) (by omega) (by omega) sd
  by_cases hw:l[i].1<64
  · have hwf:=wide_f (b:=l[i].2) hw
    refine⟨fun h=>?_,fun h=>?_⟩
    · rw[jC]
      repeat (first|refine ip (by first|with_reducible rfl | assumption | (simp (disch:=omega) only[ws,wl,wb,hwf]<;>omega)|omega) ?_|refine jn (by first|with_reducible rfl | assumption | (simp (disch:=omega) only[ws,wl,wb,hwf]<;>omega)|omega) ?_|refine(bnd (kG hv hlt)).trans ?_|refine el ?_|refine er ?_)
      exact q1 h.2
    · obtain⟨j,j0,hj⟩:=q2 (fun hh=>h ⟨hw,hh⟩)
      refine⟨j,j0,?_⟩
      rw[jC]
      repeat (first|refine ip (by first|with_reducible rfl | assumption | (simp (disch:=omega) only[ws,wl,wb,hwf]<;>omega)|omega) ?_|refine jn (by first|with_reducible rfl | assumption | (simp (disch:=omega) only[ws,wl,wb,hwf]<;>omega)|omega) ?_|refine(bnd (kG hv hlt)).trans ?_|refine el ?_|refine er ?_)
      exact hj
  · have hwt:=wide_t (b:=l[i].2) hw
    refine⟨fun h=>absurd h.1 hw,fun _=>⟨v,by omega,?_⟩⟩
    rw[jC]
    repeat (first|refine ip (by first|with_reducible rfl | assumption | (simp (disch:=omega) only[ws,wl,wb,hwt]<;>omega)|omega) ?_|refine jn (by first|with_reducible rfl | assumption | (simp (disch:=omega) only[ws,wl,wb,hwt]<;>omega)|omega) ?_|refine(bnd (kG hv hlt)).trans ?_|refine el ?_|refine er ?_)
    rfl
theorem xD {l:List (Int × Int)} (hl:l.length≤1000):(nO l→fI l=some false)∧(¬nO l→fI l=some true):=by
 obtain⟨q1,q2⟩:=aSP hl _ 0 0 rfl (by omega) rfl
 rw[List.drop_zero] at q1 q2
 refine⟨fun h=>?_,fun h=>?_⟩
 · have:g8 l=some (-1):=by
    rw[g8]
    repeat (first|refine ip0 ?_|refine jn0 ?_|refine(bnd (q1 h)).trans ?_|refine el ?_|refine er ?_)
    rfl
   rw[fI]
   repeat (first|refine ip0 ?_|refine jn0 ?_|refine(bnd this).trans ?_|refine el ?_|refine er ?_)
   rfl
 · obtain⟨j,j0,hj⟩:=q2 h
   have:g8 l=some j:=by
    rw[g8]
    repeat (first|refine ip0 ?_|refine jn0 ?_|refine(bnd hj).trans ?_|refine el ?_|refine er ?_)
    rfl
   rw[fI]
   repeat (first|refine ip0 ?_|refine jn0 ?_|refine(bnd this).trans ?_|refine el ?_|refine er ?_)
   exact congrArg some sd
def Rt (s:Int) (l:List (Int × Int)) (c:Bool) (o:Int):Prop:=(0≤s∧s≤3)∧l.length≤50∧nO l∧((s=3∧(o=1∨o=2))∨(s≠3∧o=0∧(c=true→s=1)))
theorem aI1 {s:Int} {l:List (Int × Int)} {c:Bool} {o:Int} (h:Rt s l c o):fM s l c o=some true∧True:=by
 obtain⟨h1,h2,h3,h4⟩:=h
 have q1:=(xD (l:=l) (by omega)).1 h3
 rcases h4 with⟨h4,h5 | h5⟩ | ⟨h4,h5,h6⟩
 · constructor
   · rw[fM]
     repeat (first|refine ip0 ?_|refine jn0 ?_|refine(bnd q1).trans ?_)
     rfl
   · trivial
 · constructor
   · rw[fM]
     repeat (first|refine ip0 ?_|refine jn0 ?_|refine(bnd q1).trans ?_)
     exact congrArg some sd
   · trivial
 · cases c
   · constructor
     · rw[fM]
       repeat (first|refine ip0 ?_|refine jn0 ?_|refine(bnd q1).trans ?_)
       rfl
     · trivial
   · have h7:=h6 rfl
     constructor
     · rw[fM]
       repeat (first|refine ip0 ?_|refine jn0 ?_|refine(bnd q1).trans ?_)
       exact congrArg some sd
     · trivial
theorem aI8 {s:Int} {l:List (Int × Int)} {c:Bool} {o:Int} (hl:l.length≤1000) (h:¬Rt s l c o):fM s l c o=some false∧True:=by
 have k1:=xD (l:=l) hl
 by_cases hk:nO l
 rotate_left
 · have q1:=k1.2 hk
   refine⟨?_,?_⟩
   · rw[fM]
     by_cases a1:s<0
     · repeat (first|refine ip0 ?_|refine jn0 ?_)
       rfl
     by_cases a2:3<s
     · repeat (first|refine ip0 ?_|refine jn0 ?_)
       rfl
     by_cases a3:50<l.length
     · repeat (first|refine ip0 ?_|refine jn0 ?_)
       rfl
     repeat (first|refine ip0 ?_|refine jn0 ?_|refine(bnd q1).trans ?_)
     rfl
   · trivial
 have q1:=k1.1 hk
 rw[fM]
 by_cases a1:s<0
 · refine⟨?_,?_⟩
   · repeat (first|refine ip0 ?_|refine jn0 ?_|refine(bnd q1).trans ?_)
     rfl
   · trivial
 by_cases a2:3<s
 · refine⟨?_,?_⟩
   · repeat (first|refine ip0 ?_|refine jn0 ?_|refine(bnd q1).trans ?_)
     rfl
   · trivial
 by_cases a3:50<l.length
 · refine⟨?_,?_⟩
   · repeat (first|refine ip0 ?_|refine jn0 ?_|refine(bnd q1).trans ?_)
     rfl
   · trivial
 have h2:¬((s=3∧(o=1∨o=2))∨(s≠3∧o=0∧(c=true→s=1))):=fun hh=>h ⟨by omega,by omega,hk,hh⟩
 by_cases b1:s=3
 · have e1:o≠1∧o≠2:=by omega
   refine⟨?_,?_⟩
   · repeat (first|refine ip0 ?_|refine jn0 ?_|refine(bnd q1).trans ?_)
     exact congrArg some sd
   · trivial
 · by_cases b2:o=0
   · have e2:¬(c=true→s=1):=fun hh=>h2 (.inr ⟨b1,b2,hh⟩)
     have hc:c=true:=Classical.byContradiction fun hh=>e2 fun h3=>absurd h3 hh
     subst hc
     have e3:s≠1:=fun hh=>e2 fun _=>hh
     refine⟨?_,?_⟩
     · repeat (first|refine ip0 ?_|refine jn0 ?_|refine(bnd q1).trans ?_)
       exact congrArg some sd
     · trivial
   · by_cases b3:o=1
     · refine⟨?_,?_⟩
       · repeat (first|refine ip0 ?_|refine jn0 ?_|refine(bnd q1).trans ?_)
         rfl
       · trivial
     · refine⟨?_,?_⟩
       · repeat (first|refine ip0 ?_|refine jn0 ?_|refine(bnd q1).trans ?_)
         rfl
       · trivial
theorem gN (l:List (Int × Int)) (h:l.length≤1000000):fJ l=some ():=by
 rw[fJ,j2]
 repeat (first|refine ip0 ?_|refine jn0 ?_)
 rfl
section
variable {s:Int} {l:List (Int × Int)} {c:Bool} {o:Int}
theorem aEN (hl:l.length≤1000):iN s l c o=some (s,l,c,o)∧mZ s l c o=some ():=by
 constructor
 · rw[iN]
   repeat (first|refine ip0 ?_|refine jn0 ?_|refine(bnd (gN l (by omega))).trans ?_)
   rfl
 · rw[mZ]
   repeat (first|refine ip0 ?_|refine jn0 ?_|refine(bnd (gN l (by omega))).trans ?_)
   rfl
theorem add_any (hl:l.length≤1000) (k b:Int):∃l' e,l8 s l c o k b=some (s,l',c,o,e)∧True ∧
 ((e=0∧Rt s l c o∧s=0∧k<64∧l.length<50∧l'=l++[(k,b)])∨(e≠0∧l'=l∧¬(Rt s l c o∧s=0∧k<64∧l.length<50)∧(Rt s l c o→s=0→k<64→e=6)∧(Rt s l c o→s≠0→k<64→e=13))):=by
 have ow:=(aEN (s:=s) (c:=c) (o:=o) hl).2
 by_cases hr:Rt s l c o
 rotate_left
 · obtain⟨r1,r2⟩:=aI8 hl hr
   refine⟨l,2,?_,?_,.inr ⟨by omega,rfl,fun h=>hr h.1,fun h=>absurd h hr,fun h=>absurd h hr⟩⟩
   · rw[l8]
     repeat (first|refine ip0 ?_|refine jn0 ?_|refine(bnd ow).trans ?_|refine(bnd r1).trans ?_)
     rfl
   · trivial
 obtain⟨r1,r2⟩:=aI1 hr
 by_cases hk:k<64
 rotate_left
 · have hw:=wide_t (b:=b) hk
   refine⟨l,2,?_,?_,.inr ⟨by omega,rfl,fun h=>hk h.2.2.1,fun _ _ h=>absurd h hk,fun _ _ h=>absurd h hk⟩⟩
   · rw[l8]
     repeat (first|refine ip (by first|with_reducible rfl | assumption | (simp (disch:=omega) only[ws,wl,wb,hw]<;>omega)|omega) ?_|refine jn (by first|with_reducible rfl | assumption | (simp (disch:=omega) only[ws,wl,wb,hw]<;>omega)|omega) ?_|refine(bnd ow).trans ?_|refine(bnd r1).trans ?_)
     rfl
   · trivial
 have hw:=wide_f (b:=b) hk
 by_cases hs:s=0
 rotate_left
 · refine⟨l,13,?_,?_,.inr ⟨by omega,rfl,fun h=>hs h.2.1,fun _ h=>absurd h hs,fun _ _ _=>rfl⟩⟩
   · rw[l8]
     repeat (first|refine ip (by first|with_reducible rfl | assumption | (simp (disch:=omega) only[ws,wl,wb,hw]<;>omega)|omega) ?_|refine jn (by first|with_reducible rfl | assumption | (simp (disch:=omega) only[ws,wl,wb,hw]<;>omega)|omega) ?_|refine(bnd ow).trans ?_|refine(bnd r1).trans ?_)
     rfl
   · trivial
 by_cases h5:l.length<50
 · refine⟨l++[(k,b)],0,?_,?_,.inl ⟨rfl,hr,hs,hk,h5,rfl⟩⟩
   · rw[l8]
     repeat (first|refine ip (by first|with_reducible rfl | assumption | (simp (disch:=omega) only[ws,wl,wb,hw]<;>omega)|omega) ?_|refine jn (by first|with_reducible rfl | assumption | (simp (disch:=omega) only[ws,wl,wb,hw]<;>omega)|omega) ?_|refine(bnd ow).trans ?_|refine(bnd r1).trans ?_)
     rfl
   · trivial
 · refine⟨l,6,?_,?_,.inr ⟨by omega,rfl,fun h=>h5 h.2.2.2,fun _ _ _=>rfl,fun _ h=>absurd hs h⟩⟩
   · rw[l8]
     repeat (first|refine ip (by first|with_reducible rfl | assumption | (simp (disch:=omega) only[ws,wl,wb,hw]<;>omega)|omega) ?_|refine jn (by first|with_reducible rfl | assumption | (simp (disch:=omega) only[ws,wl,wb,hw]<;>omega)|omega) ?_|refine(bnd ow).trans ?_|refine(bnd r1).trans ?_)
     rfl
   · trivial
theorem vote_any (hl:l.length≤1000) (y:Bool):∃s' e,n9 s l c o y=some (s',l,c,o,e)∧True ∧
 ((e=0∧Rt s l c o∧s=0∧s'=(if y then 1 else 2))∨(e≠0∧s'=s∧¬(Rt s l c o∧s=0)∧(Rt s l c o→e=13))):=by
 have ow:=(aEN (s:=s) (c:=c) (o:=o) hl).1
 by_cases hr:Rt s l c o
 rotate_left
 · obtain⟨r1,r2⟩:=aI8 hl hr
   refine⟨s,2,?_,?_,.inr ⟨by omega,rfl,fun h=>hr h.1,fun h=>absurd h hr⟩⟩
   · rw[n9]
     repeat (first|refine ip0 ?_|refine jn0 ?_|refine(bnd ow).trans ?_|refine(bnd r1).trans ?_)
     rfl
   · trivial
 obtain⟨r1,r2⟩:=aI1 hr
 by_cases hs:s=0
 rotate_left
 · refine⟨s,13,?_,?_,.inr ⟨by omega,rfl,fun h=>hs h.2,fun _=>rfl⟩⟩
   · rw[n9]
     repeat (first|refine ip0 ?_|refine jn0 ?_|refine(bnd ow).trans ?_|refine(bnd r1).trans ?_)
     rfl
   · trivial
 refine⟨if y then 1 else 2,0,?_,?_,.inl ⟨rfl,hr,hs,rfl⟩⟩
 · rw[n9]
   cases y
   · repeat (first|refine ip0 ?_|refine jn0 ?_|refine(bnd ow).trans ?_|refine(bnd r1).trans ?_)
     rfl
   · repeat (first|refine ip0 ?_|refine jn0 ?_|refine(bnd ow).trans ?_|refine(bnd r1).trans ?_)
     rfl
 · trivial
theorem aMV (hl:l.length≤1000):∃c' d e,j4 s l c o=some (s,l,c',o,d,e)∧True ∧
 ((e=0∧Rt s l c o∧s=1∧c=false∧c'=true∧d=l)∨(e≠0∧c'=c∧d=[]∧¬(Rt s l c o∧s=1∧c=false))):=by
 have ow:=(aEN (s:=s) (c:=c) (o:=o) hl).1
 by_cases hr:Rt s l c o
 rotate_left
 · obtain⟨r1,r2⟩:=aI8 hl hr
   refine⟨c,[],2,?_,?_,.inr ⟨by omega,rfl,rfl,fun h=>hr h.1⟩⟩
   · rw[j4]
     repeat (first|refine ip0 ?_|refine jn0 ?_|refine(bnd ow).trans ?_|refine(bnd r1).trans ?_)
     rfl
   · trivial
 obtain⟨r1,r2⟩:=aI1 hr
 by_cases hs:s=1
 rotate_left
 · refine⟨c,[],13,?_,?_,.inr ⟨by omega,rfl,rfl,fun h=>hs h.2.1⟩⟩
   · rw[j4]
     repeat (first|refine ip0 ?_|refine jn0 ?_|refine(bnd ow).trans ?_|refine(bnd r1).trans ?_)
     rfl
   · trivial
 cases c with
 | true =>
  refine⟨true,[],8,?_,?_,.inr ⟨by omega,rfl,rfl,fun h=>by simp at h⟩⟩
  · rw[j4]
    repeat (first|refine ip0 ?_|refine jn0 ?_|refine(bnd ow).trans ?_|refine(bnd r1).trans ?_)
    rfl
  · trivial
 | false =>
  refine⟨true,l,0,?_,?_,.inl ⟨rfl,hr,hs,rfl,rfl,rfl⟩⟩
  · rw[j4]
    repeat (first|refine ip0 ?_|refine jn0 ?_|refine(bnd ow).trans ?_|refine(bnd r1).trans ?_|refine(bnd (gN l (by omega))).trans ?_)
    rfl
  · trivial
end

theorem oppL_len (l:List (Int × Int)):(w7 l).length=l.length:=by simp [w7]
theorem opp_ok {l:List (Int × Int)} (hl:l.length≤1000):i7 l=some (w7 l)∧i7 l=some (w7 l):=by
 rw[i7,oppP,if_pos (by omega)]
 exact⟨rfl,rfl⟩
section
variable {s:Int} {l:List (Int × Int)} {c:Bool} {o:Int}
def dec (l:List (Int × Int)) (c:Bool) (w:Int):List (Int × Int):=if w=1 then (if c then [] else l) else (if c then w7 l else [])
theorem aK1 (hl:l.length≤1000) (w:Int):∃s' o' d e,fG s l c o w=some (s',l,c,o',d,e)∧True ∧
 ((e=0∧Rt s l c o∧(w=1∨w=2)∧s≠3∧(w=1→s=1)∧s'=3∧o'=w∧d=dec l c w) ∨
  (s'=s∧o'=o∧d=[]∧((e=0∧Rt s l c o∧s=3∧o=w)∨(e≠0∧¬(Rt s l c o∧(w=1∨w=2)∧(o=w∨(s≠3∧(w=1→s=1)))))))):=by
 have ow:=(aEN (s:=s) (c:=c) (o:=o) hl).1
 by_cases hr:Rt s l c o
 rotate_left
 · obtain⟨r1,r2⟩:=aI8 hl hr
   refine⟨s,o,[],2,?_,?_,.inr ⟨rfl,rfl,rfl,.inr ⟨by omega,fun h=>hr h.1⟩⟩⟩
   · rw[fG]
     repeat (first|refine ip0 ?_|refine jn0 ?_|refine(bnd ow).trans ?_|refine(bnd r1).trans ?_)
     rfl
   · trivial
 obtain⟨r1,r2⟩:=aI1 hr
 have h4:=hr.2.2.2
 have p1:=(opp_ok (l:=l) hl).1
 have p2:=(opp_ok (l:=l) hl).2
 have cl:=gN l (by omega)
 have eb1:∀x:Bool,eqB true x=x:=fun x=>by cases x<;>rfl
 have eb0:∀x:Bool,eqB false x = !x:=fun x=>by cases x<;>rfl
 by_cases hw:w=1∨w=2
 rotate_left
 · have hw1:w≠1:=fun h=>hw (.inl h)
   have hw2:w≠2:=fun h=>hw (.inr h)
   refine⟨s,o,[],2,?_,?_,.inr ⟨rfl,rfl,rfl,.inr ⟨by omega,fun h=>hw h.2.1⟩⟩⟩
   · rw[fG]
     repeat (first|refine ip0 ?_|refine jn0 ?_|refine(bnd ow).trans ?_|refine(bnd r1).trans ?_)
     rfl
   · trivial
 by_cases hs3:s=3
 · by_cases how:o=w
   · refine⟨s,o,[],0,?_,?_,.inr ⟨rfl,rfl,rfl,.inl ⟨rfl,hr,hs3,how⟩⟩⟩
     · rw[fG]
       rcases hw with hw | hw
       · repeat (first|refine ip0 ?_|refine jn0 ?_|refine(bnd ow).trans ?_|refine(bnd r1).trans ?_)
         rfl
       · repeat (first|refine ip0 ?_|refine jn0 ?_|refine(bnd ow).trans ?_|refine(bnd r1).trans ?_)
         rfl
     · trivial
   · refine⟨s,o,[],13,?_,?_,.inr ⟨rfl,rfl,rfl,.inr ⟨by omega,fun h=>h.2.2.elim how fun hh=>hh.1 hs3⟩⟩⟩
     · rw[fG]
       rcases hw with hw | hw
       · repeat (first|refine ip0 ?_|refine jn0 ?_|refine(bnd ow).trans ?_|refine(bnd r1).trans ?_)
         rfl
       · repeat (first|refine ip0 ?_|refine jn0 ?_|refine(bnd ow).trans ?_|refine(bnd r1).trans ?_)
         rfl
     · trivial
 have ho0:o=0:=by
  rcases h4 with h4 | h4
  · exact absurd h4.1 hs3
  · exact h4.2.1
 rcases hw with hw | hw
 · subst hw
   by_cases hs1:s=1
   · refine⟨3,1,dec l c 1,0,?_,?_,.inl ⟨rfl,hr,.inl rfl,hs3,fun _=>hs1,rfl,rfl,rfl⟩⟩
     · rw[fG]
       cases c
       · repeat (first|refine ip0 ?_|refine jn0 ?_|refine(bnd ow).trans ?_|refine(bnd r1).trans ?_|refine(bnd cl).trans ?_)
         rfl
       · repeat (first|refine ip0 ?_|refine jn0 ?_|refine(bnd ow).trans ?_|refine(bnd r1).trans ?_|refine(bnd cl).trans ?_)
         rfl
     · trivial
   · refine⟨s,o,[],13,?_,?_,.inr ⟨rfl,rfl,rfl,.inr ⟨by omega,fun h=>h.2.2.elim (fun hh=>by omega) fun hh=>hs1 (hh.2 rfl)⟩⟩⟩
     · rw[fG]
       repeat (first|refine ip0 ?_|refine jn0 ?_|refine(bnd ow).trans ?_|refine(bnd r1).trans ?_)
       rfl
     · trivial
 · subst hw
   refine⟨3,2,dec l c 2,0,?_,?_,.inl ⟨rfl,hr,.inr rfl,hs3,fun h=>by omega,rfl,rfl,rfl⟩⟩
   · rw[fG]
     cases c
     · repeat (first|refine ip0 ?_|refine jn0 ?_|refine(bnd ow).trans ?_|refine(bnd r1).trans ?_|refine(bnd cl).trans ?_)
       rfl
     · repeat (first|refine ip0 ?_|refine jn0 ?_|refine(bnd ow).trans ?_|refine(bnd r1).trans ?_|refine(bnd p2).trans ?_)
       rfl
   · trivial
end

section
variable {s:Int} {l:List (Int × Int)} {c:Bool} {o:Int}
def eff (s:Int) (l:List (Int × Int)) (c:Bool) (o:Int):List (Int × Int):=if o=1 then l else if s=1∧c=true then l else if s=3∧c=true then l++w7 l else []
end
end Go.Ws.L9
