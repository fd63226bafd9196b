/-
  ModelCounts, plainly.
  Conditions: none.
-/
import Derived.Test.YtipeekdnpocclaaZModelL
set_option linter.unusedVariables false
set_option linter.unusedSimpArgs false
namespace Go.Ws.L10
open L7 L8 L9
set_option linter.unusedVariables false
set_option linter.unusedSimpArgs false
set_option maxHeartbeats 1000000
theorem play_l0 {x1:List Rec} (hx:vS x1) (hl:x1.length≤100):∀(d i:Nat) (v:Int) (s:St),x1.length - i=d→i≤x1.length→v=(i:Int)→Inv s i→Rp s→Lg s→∃s',gW x1 v s.L s.K s.M s.G=some (s'.L,s'.K,s'.M,s'.G)∧Inv s' 100∧Rp s'∧Lg s':=by
 intro d
 induction d with
 | zero =>
  intro i v s hd hi hv I R G
  refine⟨s,?_,I.le (by omega),R,G⟩
  rw[nL]
  repeat (first|refine ip0 ?_|refine jn0 ?_|refine el ?_|refine er ?_)
  rfl
 | succ d ih =>
  intro i v s hd hi hv I R G
  have hlx:i<x1.length:=by omega
  have hr:=hx.2 _ (List.getElem_mem hlx)
  obtain⟨q1,q2,q3⟩:=aNE I (by omega) hr
  obtain⟨s',r1,r2⟩:=ih (i+1) (aH .i64 v 1) (doF s x1[i]).2.2 (by omega) (by omega) sd q2 (R.step hr q3) (G.step I q3)
  refine⟨s',?_,r2⟩
  rw[nL]
  repeat (first|refine ip0 ?_|refine jn0 ?_|refine(bnd (d6 hv hlx)).trans ?_|refine(bnd q1).trans ?_|refine el ?_|refine er ?_)
  exact r1
theorem aOZ {L:Dl} {K:List Ho} {M:List (Int × Pt)} {l:List Rec} (hml:l.length≤1000000):∀(d i:Nat) (n:Nat) (u v:Int),l.length - i=d→i≤l.length→v=(i:Int)→u=(n:Int)→n≤i→fP (L,K,M,l) u v=some (((n+cntL (l.drop i):Nat):Int)):=by
 intro d
 induction d with
 | zero =>
  intro i n u v hd hi hv hu hn
  rw[List.drop_of_length_le (by omega),jU]
  repeat (first|refine ip0 ?_|refine jn0 ?_|refine el ?_|refine er ?_)
  rw[hu];rfl
 | succ d ih =>
  intro i n u v hd hi hv hu hn
  have hlt:i<l.length:=by omega
  have r0:=ih (i+1) n u (aH .i64 v 1) (by omega) (by omega) sd hu (by omega)
  have r1:=ih (i+1) (n+1) (aH .i64 u 1) (aH .i64 v 1) (by omega) (by omega) sd sd (by omega)
  rw[List.drop_eq_getElem_cons hlt]
  have hc:cntL (l[i]::l.drop (i+1))=(if eqI l[i].1 5=true then 1 else 0)+cntL (l.drop (i+1)):=by
   unfold cntL
   rw[List.filter_cons]
   split<;>simp<;>omega
  rw[hc]
  by_cases h5:l[i].1=5
  · rw[if_pos (cL.2 h5),jU]
    repeat (first|refine ip0 ?_|refine jn0 ?_|refine(bnd (d6 hv hlt)).trans ?_|refine el ?_|refine er ?_)
    rw[r1];simp;omega
  · rw[if_neg (fun h=>h5 (cL.1 h)),jU]
    repeat (first|refine ip0 ?_|refine jn0 ?_|refine(bnd (d6 hv hlt)).trans ?_|refine el ?_|refine er ?_)
    rw[r0];simp
theorem aH9 (y0:List Rec) (w0:w_t22 y0):iZ y0=some true:=by
 have hx:=recs_of w0
 have hml:=hx.1
 unfold maxLen at hml
 by_cases hl:y0.length≤100
 rotate_left
 · rw[iZ]
   repeat (first|refine ip0 ?_|refine jn0 ?_|refine(bnd aJQ).trans ?_|refine el ?_|refine er ?_)
   rfl
 obtain⟨s,h1,I,R,G⟩:=play_l0 hx hl _ 0 0 ⟨[],[],[],[]⟩ rfl (by omega) rfl aIK rp_nil lg_nil
 have hgl:=I.gl
 have hxs:vS s.G:=⟨by unfold maxLen;omega,R.recs⟩
 have h2:=aEL hxs (by omega) R.ok
 have h3:=aEL (x1:=[]) ⟨by unfold maxLen;simp,fun _ h=>by cases h⟩ (by simp) rfl
 have h4:=aLD (x1:=[]) ⟨by unfold maxLen;simp,fun _ h=>by cases h⟩ (by simp) (fun _ h=>by cases h) rfl
 have h5:=aOZ (L:=s.L) (K:=s.K) (M:=s.M) (l:=s.G) (by omega) _ 0 0 0 0 rfl (by omega) rfl rfl (Nat.le_refl _)
 rw[List.drop_zero,Nat.zero_add] at h5
 have c1:=aM4 (lG [] s.G) s.G
 have c2:=cntL_le s.G
 have hlog:=log_ok I (by omega)
 have hlog1:kE s.L s.K s.M s.G=some ():=by
  rw[kE]
  repeat (first|refine ip0 ?_|refine jn0 ?_|refine(bnd (iM s.G (by omega))).trans ?_|refine el ?_|refine er ?_)
  rfl
 rw[show cntU (lG [] []) []=0 from rfl] at h3
 rw[show ofL (ledG [])=[] from rfl] at h4
 rw[iZ]
 repeat (first|refine ip0 ?_|refine jn0 ?_|refine(bnd aJQ).trans ?_|refine(bnd h1).trans ?_|refine(bnd hlog).trans ?_|refine(bnd h5).trans ?_|refine(bnd hlog1).trans ?_|refine(bnd h2).trans ?_|refine(bnd h3).trans ?_|refine(bnd h4).trans ?_|refine el ?_|refine er ?_)
 rfl
end Go.Ws.L10
