/-
  What model.Read, Undone and Ledger tell of a log, plainly.
  Conditions: none.
-/
import Derived.Test.YtipeekdnpocclaaZSiteRep
set_option linter.unusedVariables false
set_option linter.unusedSimpArgs false
namespace Go.Ws.L10
open L7 L8 L9
set_option linter.unusedVariables false
set_option linter.unusedSimpArgs false
set_option maxHeartbeats 1000000
theorem aME:sI=some true:=zB.le 80 true (by kernel_rfl)
def kK:List (Int × Int)→List Rec→List (Int × Int)
 | m,[]=>m
 | m,r::l=>kK (if r.1=6 then aR m r.2.1 r.2.2.2 else m) l
theorem read_l0 {x1:List Rec} (hml:x1.length≤1000000):∀(d i:Nat) (v:Int) (m:List (Int × Int)),x1.length - i=d→i≤x1.length→v=(i:Int)→kT x1 v m=some (kK m (x1.drop i)):=by
 intro d
 induction d with
 | zero =>
  intro i v m hd hi hv
  rw[List.drop_of_length_le (by omega),uH]
  repeat (first|refine ip0 ?_|refine jn0 ?_|refine el ?_|refine er ?_)
  rfl
 | succ d ih =>
  intro i v m hd hi hv
  have hlt:i<x1.length:=by omega
  have r1:=fun m=>ih (i+1) (aH .i64 v 1) m (by omega) (by omega) sd
  rw[List.drop_eq_getElem_cons hlt,uH]
  unfold kK
  by_cases h:x1[i].1=6
  · rw[if_pos h]
    repeat (first|refine ip0 ?_|refine jn0 ?_|refine(bnd (eJ hv hlt)).trans ?_|refine el ?_|refine er ?_)
    exact r1 _
  · rw[if_neg h]
    repeat (first|refine ip0 ?_|refine jn0 ?_|refine(bnd (eJ hv hlt)).trans ?_|refine el ?_|refine er ?_)
    exact r1 _
theorem mread_ok {x1:List Rec} (hx:xZ x1) (hl:x1.length≤400) :
 (okF ⟨[],[],[],[]⟩ x1=true→iF x1=some (.inl (kK [] x1)))∧(okF ⟨[],[],[],[]⟩ x1=false→iF x1=some (.inr ())):=by
 obtain⟨h1,h2⟩:=aRU hx hl
 have h3:=read_l0 (x1:=x1) (by omega) _ 0 0 [] rfl (by omega) rfl
 rw[List.drop_zero] at h3
 refine⟨fun e=>?_,fun e=>?_⟩
 · rw[iF]
   refine(bnd (h1 e)).trans ?_
   repeat (first|refine ip0 ?_|refine jn0 ?_|refine(bnd h3).trans ?_|refine el ?_|refine er ?_)
   rfl
 · rw[iF]
   refine(bnd (h2 e)).trans ?_
   rfl
def isO (o:List (Int × Int)) (t w:Int):Bool:=match bC o t with | some v=>eqI v w | none=>false
theorem isO_t {o:List (Int × Int)} {t w v:Int} (h:bC o t=some v):isO o t w=eqI v w:=by unfold isO;rw[h]
theorem isO_f {o:List (Int × Int)} {t w:Int} (h:bC o t=none):isO o t w=false:=by unfold isO;rw[h]
end Go.Ws.L10
