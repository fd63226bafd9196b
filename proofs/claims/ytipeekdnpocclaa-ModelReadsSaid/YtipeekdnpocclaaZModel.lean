/-
  What model.Read, Undone and Ledger tell of a log, plainly.
  Conditions: none.
-/
import Derived.Test.YtipeekdnpocclaaZSiteRep
set_option linter.unusedVariables false
set_option linter.unusedSimpArgs false
namespace Go.Ws.L10
open L7 L8 L9
set_option linter.unusedVariables false
set_option linter.unusedSimpArgs false
set_option maxHeartbeats 1000000
theorem aLM:vT=some true:=aDJ.le 80 true (by kernel_rfl)
def kO:List (Int × Int)→List Rec→List (Int × Int)
 | m,[]=>m
 | m,r::l=>kO (if r.1=6 then bH m r.2.1 r.2.2.2 else m) l
theorem read_l0 {x1:List Rec} (hml:x1.length≤1000000):∀(d i:Nat) (v:Int) (m:List (Int × Int)),x1.length - i=d→i≤x1.length→v=(i:Int)→mR x1 v m=some (kO m (x1.drop i)):=by
 intro d
 induction d with
 | zero =>
  intro i v m hd hi hv
  rw[List.drop_of_length_le (by omega),y5]
  repeat (first|refine ip0 ?_|refine jn0 ?_|refine el ?_|refine er ?_)
  rfl
 | succ d ih =>
  intro i v m hd hi hv
  have hlt:i<x1.length:=by omega
  have r1:=fun m=>ih (i+1) (aL .i64 v 1) m (by omega) (by omega) sd
  rw[List.drop_eq_getElem_cons hlt,y5]
  unfold kO
  by_cases h:x1[i].1=6
  · rw[if_pos h]
    repeat (first|refine ip0 ?_|refine jn0 ?_|refine(bnd (cU hv hlt)).trans ?_|refine el ?_|refine er ?_)
    exact r1 _
  · rw[if_neg h]
    repeat (first|refine ip0 ?_|refine jn0 ?_|refine(bnd (cU hv hlt)).trans ?_|refine el ?_|refine er ?_)
    exact r1 _
theorem aA4 {x1:List Rec} (hx:wW x1) (hl:x1.length≤400) :
 (okF ⟨[],[],[],[]⟩ x1=true→i7 x1=some (.inl (kO [] x1)))∧(okF ⟨[],[],[],[]⟩ x1=false→i7 x1=some (.inr ())):=by
 obtain⟨h1,h2⟩:=aX9 hx hl
 have h3:=read_l0 (x1:=x1) (by omega) _ 0 0 [] rfl (by omega) rfl
 rw[List.drop_zero] at h3
 refine⟨fun e=>?_,fun e=>?_⟩
 · rw[i7]
   refine(bnd (h1 e)).trans ?_
   repeat (first|refine ip0 ?_|refine jn0 ?_|refine(bnd h3).trans ?_|refine el ?_|refine er ?_)
   rfl
 · rw[i7]
   refine(bnd (h2 e)).trans ?_
   rfl
def isO (o:List (Int × Int)) (t w:Int):Bool:=match bD o t with | some v=>eqI v w | none=>false
def cntU (o:List (Int × Int)) (l:List Rec):Nat:=(l.filter fun r=>eqI r.1 5 && isO o r.2.1 2).length
theorem aNM {o:List (Int × Int)} {t w v:Int} (h:bD o t=some v):isO o t w=eqI v w:=by unfold isO;rw[h]
theorem isO_f {o:List (Int × Int)} {t w:Int} (h:bD o t=none):isO o t w=false:=by unfold isO;rw[h]
theorem aX4 {x1:List Rec} {o:List (Int × Int)} (hml:x1.length≤1000000):∀(d i:Nat) (n:Nat) (u v:Int),x1.length - i=d→i≤x1.length→v=(i:Int)→u=(n:Int)→n≤i→iO x1 o u v=some (((n+cntU o (x1.drop i):Nat):Int)):=by
 intro d
 induction d with
 | zero =>
  intro i n u v hd hi hv hu hn
  rw[List.drop_of_length_le (by omega),wD]
  repeat (first|refine ip0 ?_|refine jn0 ?_|refine el ?_|refine er ?_)
  rw[hu];rfl
 | succ d ih =>
  intro i n u v hd hi hv hu hn
  have hlt:i<x1.length:=by omega
  have r0:=ih (i+1) n u (aL .i64 v 1) (by omega) (by omega) sd hu (by omega)
  have r1:=ih (i+1) (n+1) (aL .i64 u 1) (aL .i64 v 1) (by omega) (by omega) sd sd (by omega)
  rw[List.drop_eq_getElem_cons hlt,wD]
  have hc:cntU o (x1[i]::x1.drop (i+1))=(if eqI x1[i].1 5 && isO o x1[i].2.1 2 then 1 else 0)+cntU o (x1.drop (i+1)):=by
   unfold cntU
   rw[List.filter_cons]
   split<;>simp<;>omega
  rw[hc]
  by_cases h5:x1[i].1=5
  · have e5:=cA.2 h5
    rw[e5]
    cases hg:bD o x1[i].2.1 with
    | none =>
     have hh:¬o8 o x1[i].2.1=true:=by rw[has_f hg];simp
     rw[isO_f hg]
     repeat (first|refine ip0 ?_|refine jn0 ?_|refine(bnd (cU hv hlt)).trans ?_|refine el ?_|refine er ?_)
     rw[r0];simp
    | some w =>
     have hh:=aNQ hg
     rw[aNM hg]
     by_cases h2:w=2
     · have e2:=cA.2 h2
       rw[e2]
       repeat (first|refine ip0 ?_|refine jn0 ?_|refine(bnd (cU hv hlt)).trans ?_|refine(bnd hg).trans ?_|refine el ?_|refine er ?_)
       rw[r1];simp;omega
     · have e2:eqI w 2=false:=eqf fun h=>h2 (cA.1 h)
       rw[e2]
       repeat (first|refine ip0 ?_|refine jn0 ?_|refine(bnd (cU hv hlt)).trans ?_|refine(bnd hg).trans ?_|refine el ?_|refine er ?_)
       rw[r0];simp
  · have e5:eqI x1[i].1 5=false:=eqf fun h=>h5 (cA.1 h)
    rw[e5]
    repeat (first|refine ip0 ?_|refine jn0 ?_|refine(bnd (cU hv hlt)).trans ?_|refine el ?_|refine er ?_)
    rw[r0];simp
end Go.Ws.L10
