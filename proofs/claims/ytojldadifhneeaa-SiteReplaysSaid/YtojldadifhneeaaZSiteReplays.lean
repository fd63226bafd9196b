/-
  SiteReplays, plainly.
  Conditions: none.
-/
import Derived.Test.YtojldadifhneeaaZSiteActs
import Derived.Test.YtojldadifhneeaaZSiteRep
set_option linter.unusedVariables false
set_option linter.unusedSimpArgs false
namespace Go.Ws.L10
open L7 L8 L9
set_option linter.unusedVariables false
set_option linter.unusedSimpArgs false
set_option maxHeartbeats 1000000
def tupR (b:Bool) (s:St) (l:List Rec):Bool × Dl × List Ho × List (Int × Pt) × List Rec × List Rec:=(b,s.L,s.K,s.M,s.G,l)
theorem reps_l0 {x1:List Rec} (hx:aOC x1) (hl:x1.length≤120):∀(d i:Nat) (v:Int) (s:St) (b:Bool),x1.length - i=d→i≤x1.length→v=(i:Int)→Inv s i→s.M.length≤i →
 iD x1 b v s.L s.K s.M s.G (x1.take i)=some (tupR (b && okF s (x1.drop i)) (zL s (x1.drop i)) x1):=by
 intro d
 induction d with
 | zero =>
  intro i v s b hd hi hv I hM
  rw[List.drop_of_length_le (by omega),List.take_of_length_le (by omega),q8]
  repeat (first|refine ip (by first|with_reducible rfl | assumption | (simp (disch:=omega) only[ws,wl,wb]<;>omega)|omega) ?_|refine jn (by first|with_reducible rfl | assumption | (simp (disch:=omega) only[ws,wl,wb]<;>omega)|omega) ?_|refine el ?_|refine er ?_)
  unfold okF zL tupR
  rw[Bool.and_true]
 | succ d ih =>
  intro i v s b hd hi hv I hM
  have hlt:i<x1.length:=by omega
  have hr:=hx.2 _ (List.getElem_mem hlt)
  have q1:=rdo_ok (I.wf (by omega)) (by omega) hr
  have q2:=aJF I (by omega) hr
  have hlen:=(aIY I (by omega) hr).len
  have r1:=fun b=>ih (i+1) (aO .i64 v 1) (doF s x1[i]).2.2 b (by omega) (by omega) (by first|with_reducible rfl | assumption | (simp (disch:=omega) only[ws,wl,wb]<;>omega)|omega) q2 (by omega)
  have ht:(x1.take i).length≤120:=by rw[List.length_take];omega
  have hroom:bB ((x1.take i++[x1[i]]).length*32)=true:=by rw[aHB];simp only[List.length_append,List.length_cons,List.length_nil];omega
  rw[List.drop_eq_getElem_cons hlt]
  simp only[okF,zL]
  rw[show x1.take (i+1)=x1.take i++[x1[i]] from (List.take_append_getElem hlt).symm] at r1
  generalize doF s x1[i]=q at q1 r1
  rw[q8]
  cases b with
  | false =>
   repeat (first|refine ip (by first|with_reducible rfl | assumption | (simp (disch:=omega) only[ws,wl,wb,Bool.false_eq_true,not_false_eq_true]<;>omega)|omega) ?_|refine jn (by first|with_reducible rfl | assumption | (simp (disch:=omega) only[ws,wl,wb,Bool.false_eq_true,not_false_eq_true]<;>omega)|omega) ?_|refine(bnd (eK hv hlt)).trans ?_|refine(bnd q1).trans ?_|refine el ?_|refine er ?_)
   exact r1 false
  | true =>
   repeat (first|refine ip (by first|with_reducible rfl | assumption | (simp (disch:=omega) only[ws,wl,wb]<;>omega)|omega) ?_|refine jn (by first|with_reducible rfl | assumption | (simp (disch:=omega) only[ws,wl,wb]<;>omega)|omega) ?_|refine(bnd (eK hv hlt)).trans ?_|refine(bnd q1).trans ?_|refine el ?_|refine er ?_)
   rw[Bool.true_and]
   exact r1 _
theorem aP5:∀(l:List Rec) (s:St) (n:Nat),Inv s n→n+l.length≤500→s.M.length≤n→(∀r∈l,aGF r)→Inv (zL s l) (n+l.length)∧(zL s l).M.length≤n+l.length
 | [],s,n,I,hn,hM,hr=>⟨I,hM⟩
 | r::l,s,n,I,hn,hM,hr=>by
  simp only[List.length_cons] at hn
  have h0:=hr r (by simp)
  have hlen:=(aIY I (by omega) h0).len
  have:=aP5 l (doF s r).2.2 (n+1) (aJF I (by omega) h0) (by omega) (by omega) fun x hx=>hr x (by simp [hx])
  simp only[List.length_cons,zL]
  rw[show n+(l.length+1)=n+1+l.length by omega]
  exact this
theorem aKT (y0:List Rec) (w0:w_t22 y0):lB y0=some true:=by
 have hx:=recs_of w0
 have hml:=hx.1
 unfold maxLen at hml
 by_cases hl:y0.length≤120
 rotate_left
 · rw[lB]
   repeat (first|refine ip (by first|with_reducible rfl | assumption | (simp (disch:=omega) only[ws,wl,wb]<;>omega)|omega) ?_|refine jn (by first|with_reducible rfl | assumption | (simp (disch:=omega) only[ws,wl,wb]<;>omega)|omega) ?_|refine(bnd aI2).trans ?_|refine el ?_|refine er ?_)
   rfl
 have h1:=reps_l0 hx hl _ 0 0 ⟨[],[],[],[]⟩ true rfl (by omega) rfl aMP (Nat.le_refl _)
 rw[List.take_zero,List.drop_zero,Bool.true_and] at h1
 obtain⟨I,hM⟩:=aP5 y0 _ 0 aMP (by omega) (Nat.le_refl _) hx.2
 have hrp:=aUI hx hl
 have hsm:=same_all I (by omega) (by omega)
 generalize zL ⟨[],[],[],[]⟩ y0=s at h1 hrp hsm
 unfold tupS at hrp
 rw[lB]
 cases ho:okF ⟨[],[],[],[]⟩ y0 with
 | true =>
  have h2:=hrp.1 ho
  rw[ho] at h1
  unfold tupR at h1
  repeat (first|refine ip (by first|with_reducible rfl | assumption | (simp (disch:=omega) only[ws,wl,wb]<;>omega)|omega) ?_|refine jn (by first|with_reducible rfl | assumption | (simp (disch:=omega) only[ws,wl,wb]<;>omega)|omega) ?_|refine(bnd aI2).trans ?_|refine(bnd h1).trans ?_|refine(bnd h2).trans ?_|refine(bnd hsm).trans ?_|refine el ?_|refine er ?_)
  rfl
 | false =>
  have h2:=hrp.2 ho
  rw[ho] at h1
  unfold tupR at h1
  repeat (first|refine ip (by first|with_reducible rfl | assumption | (simp (disch:=omega) only[ws,wl,wb,Bool.false_eq_true,not_false_eq_true]<;>omega)|omega) ?_|refine jn (by first|with_reducible rfl | assumption | (simp (disch:=omega) only[ws,wl,wb,Bool.false_eq_true,not_false_eq_true]<;>omega)|omega) ?_|refine(bnd aI2).trans ?_|refine(bnd h1).trans ?_|refine(bnd h2).trans ?_|refine el ?_|refine er ?_)
  rfl
end Go.Ws.L10
