/-
  What model.Read, Undone and Ledger tell of a log, plainly.
  Conditions: none.
-/
import Derived.Test.YtipeekdnpocclaaZSiteRep
set_option linter.unusedVariables false
set_option linter.unusedSimpArgs false
namespace Go.Ws.L10
open L7 L8 L9
set_option linter.unusedVariables false
set_option linter.unusedSimpArgs false
set_option maxHeartbeats 1000000
theorem aKN:rP=some true:=xY.le 80 true (by kernel_rfl)
def mE:List (Int × Int)→List Rec→List (Int × Int)
 | m,[]=>m
 | m,r::l=>mE (if r.1=6 then bF m r.2.1 r.2.2.2 else m) l
theorem read_l0 {x1:List Rec} (hml:x1.length≤1000000):∀(d i:Nat) (v:Int) (m:List (Int × Int)),x1.length - i=d→i≤x1.length→v=(i:Int)→kZ x1 v m=some (mE m (x1.drop i)):=by
 intro d
 induction d with
 | zero =>
  intro i v m hd hi hv
  rw[List.drop_of_length_le (by omega),tQ]
  repeat (first|refine ip (by first|with_reducible rfl | assumption | (simp (disch:=omega) only[ws,wl,wb]<;>omega)|omega) ?_|refine jn (by first|with_reducible rfl | assumption | (simp (disch:=omega) only[ws,wl,wb]<;>omega)|omega) ?_|refine el ?_|refine er ?_)
  rfl
 | succ d ih =>
  intro i v m hd hi hv
  have hlt:i<x1.length:=by omega
  have r1:=fun m=>ih (i+1) (aM .i64 v 1) m (by omega) (by omega) (by first|with_reducible rfl | assumption | (simp (disch:=omega) only[ws,wl,wb]<;>omega)|omega)
  rw[List.drop_eq_getElem_cons hlt,tQ]
  unfold mE
  by_cases h:x1[i].1=6
  · rw[if_pos h]
    repeat (first|refine ip (by first|with_reducible rfl | assumption | (simp (disch:=omega) only[ws,wl,wb]<;>omega)|omega) ?_|refine jn (by first|with_reducible rfl | assumption | (simp (disch:=omega) only[ws,wl,wb]<;>omega)|omega) ?_|refine(bnd (eN hv hlt)).trans ?_|refine el ?_|refine er ?_)
    exact r1 _
  · rw[if_neg h]
    repeat (first|refine ip (by first|with_reducible rfl | assumption | (simp (disch:=omega) only[ws,wl,wb]<;>omega)|omega) ?_|refine jn (by first|with_reducible rfl | assumption | (simp (disch:=omega) only[ws,wl,wb]<;>omega)|omega) ?_|refine(bnd (eN hv hlt)).trans ?_|refine el ?_|refine er ?_)
    exact r1 _
theorem aJK {x1:List Rec} (hx:wB x1) (hl:x1.length≤400) :
 (okF ⟨[],[],[],[]⟩ x1=true→iB x1=some (.inl (mE [] x1)))∧(okF ⟨[],[],[],[]⟩ x1=false→iB x1=some (.inr ())):=by
 obtain⟨h1,h2⟩:=aOA hx hl
 have h3:=read_l0 (x1:=x1) (by omega) _ 0 0 [] rfl (by omega) rfl
 rw[List.drop_zero] at h3
 refine⟨fun e=>?_,fun e=>?_⟩
 · rw[iB]
   refine(bnd (h1 e)).trans ?_
   repeat (first|refine ip (by first|with_reducible rfl | assumption | (simp (disch:=omega) only[ws,wl,wb]<;>omega)|omega) ?_|refine jn (by first|with_reducible rfl | assumption | (simp (disch:=omega) only[ws,wl,wb]<;>omega)|omega) ?_|refine(bnd h3).trans ?_|refine el ?_|refine er ?_)
   rfl
 · rw[iB]
   refine(bnd (h2 e)).trans ?_
   rfl
def isO (o:List (Int × Int)) (t w:Int):Bool:=match bR o t with | some v=>eqI v w | none=>false
def cntU (o:List (Int × Int)) (l:List Rec):Nat:=(l.filter fun r=>eqI r.1 5 && isO o r.2.1 2).length
def cntL (l:List Rec):Nat:=(l.filter fun r=>eqI r.1 5).length
theorem aMS (o:List (Int × Int)):∀(l:List Rec),cntU o l≤cntL l
 | []=>Nat.le_refl _
 | r::l=>by
  have:=aMS o l
  unfold cntU cntL at *
  rw[List.filter_cons,List.filter_cons]
  cases eqI r.1 5<;>cases isO o r.2.1 2<;>simp<;>omega
theorem cntL_le (l:List Rec):cntL l≤l.length:=List.length_filter_le _ _
theorem isO_t {o:List (Int × Int)} {t w v:Int} (h:bR o t=some v):isO o t w=eqI v w:=by unfold isO;rw[h]
theorem isO_f {o:List (Int × Int)} {t w:Int} (h:bR o t=none):isO o t w=false:=by unfold isO;rw[h]
theorem aO8 {x1:List Rec} {o:List (Int × Int)} (hml:x1.length≤1000000):∀(d i:Nat) (n:Nat) (u v:Int),x1.length - i=d→i≤x1.length→v=(i:Int)→u=(n:Int)→n≤i→gM x1 o u v=some (((n+cntU o (x1.drop i):Nat):Int)):=by
 intro d
 induction d with
 | zero =>
  intro i n u v hd hi hv hu hn
  rw[List.drop_of_length_le (by omega),rS]
  repeat (first|refine ip (by first|with_reducible rfl | assumption | (simp (disch:=omega) only[ws,wl,wb]<;>omega)|omega) ?_|refine jn (by first|with_reducible rfl | assumption | (simp (disch:=omega) only[ws,wl,wb]<;>omega)|omega) ?_|refine el ?_|refine er ?_)
  rw[hu];rfl
 | succ d ih =>
  intro i n u v hd hi hv hu hn
  have hlt:i<x1.length:=by omega
  have r0:=ih (i+1) n u (aM .i64 v 1) (by omega) (by omega) (by first|with_reducible rfl | assumption | (simp (disch:=omega) only[ws,wl,wb]<;>omega)|omega) hu (by omega)
  have r1:=ih (i+1) (n+1) (aM .i64 u 1) (aM .i64 v 1) (by omega) (by omega) (by first|with_reducible rfl | assumption | (simp (disch:=omega) only[ws,wl,wb]<;>omega)|omega) (by first|with_reducible rfl | assumption | (simp (disch:=omega) only[ws,wl,wb]<;>omega)|omega) (by omega)
  rw[List.drop_eq_getElem_cons hlt,rS]
  have hc:cntU o (x1[i]::x1.drop (i+1))=(if eqI x1[i].1 5 && isO o x1[i].2.1 2 then 1 else 0)+cntU o (x1.drop (i+1)):=by
   unfold cntU
   rw[List.filter_cons]
   split<;>simp<;>omega
  rw[hc]
  by_cases h5:x1[i].1=5
  · have e5:=cV.2 h5
    rw[e5]
    cases hg:bR o x1[i].2.1 with
    | none =>
     have hh:¬nL o x1[i].2.1=true:=by rw[has_f hg];simp
     rw[isO_f hg]
     repeat (first|refine ip (by first|with_reducible rfl | assumption | (simp (disch:=omega) only[ws,wl,wb]<;>omega)|omega) ?_|refine jn (by first|with_reducible rfl | assumption | (simp (disch:=omega) only[ws,wl,wb]<;>omega)|omega) ?_|refine(bnd (eN hv hlt)).trans ?_|refine el ?_|refine er ?_)
     rw[r0];simp
    | some w =>
     have hh:=aJN hg
     rw[isO_t hg]
     by_cases h2:w=2
     · have e2:=cV.2 h2
       rw[e2]
       repeat (first|refine ip (by first|with_reducible rfl | assumption | (simp (disch:=omega) only[ws,wl,wb]<;>omega)|omega) ?_|refine jn (by first|with_reducible rfl | assumption | (simp (disch:=omega) only[ws,wl,wb]<;>omega)|omega) ?_|refine(bnd (eN hv hlt)).trans ?_|refine(bnd hg).trans ?_|refine el ?_|refine er ?_)
       rw[r1];simp;omega
     · have e2:eqI w 2=false:=eqf fun h=>h2 (cV.1 h)
       rw[e2]
       repeat (first|refine ip (by first|with_reducible rfl | assumption | (simp (disch:=omega) only[ws,wl,wb]<;>omega)|omega) ?_|refine jn (by first|with_reducible rfl | assumption | (simp (disch:=omega) only[ws,wl,wb]<;>omega)|omega) ?_|refine(bnd (eN hv hlt)).trans ?_|refine(bnd hg).trans ?_|refine el ?_|refine er ?_)
       rw[r0];simp
  · have e5:eqI x1[i].1 5=false:=eqf fun h=>h5 (cV.1 h)
    rw[e5]
    repeat (first|refine ip (by first|with_reducible rfl | assumption | (simp (disch:=omega) only[ws,wl,wb]<;>omega)|omega) ?_|refine jn (by first|with_reducible rfl | assumption | (simp (disch:=omega) only[ws,wl,wb]<;>omega)|omega) ?_|refine(bnd (eN hv hlt)).trans ?_|refine el ?_|refine er ?_)
    rw[r0];simp
end Go.Ws.L10
