/-
  SiteNobody, plainly.
  Conditions: none.
-/
import Derived.Test.YtojldadifhneeaaZSiteLaws
set_option linter.unusedVariables false
set_option linter.unusedSimpArgs false
namespace Go.Ws.L10
open L7 L8 L9
set_option linter.unusedVariables false
set_option linter.unusedSimpArgs false
set_option maxHeartbeats 1000000
def tupN (s:St):Dl × List Ho × Dl × List Ho × List (Int × Pt) × List Rec × List (Int × Pt) × List Rec:=(s.L,s.K,s.L,s.K,s.M,s.G,s.M,s.G)
theorem nob_l3:∀(d i:Nat) (v:Int) (s:St),8 - i=d→i≤8→v=(i:Int)→Inv s (200+2*i)→∃s',iJ v s.L s.K s.L s.K s.M s.G s.M s.G=some (.inl (tupN s'))∧Inv s' 300:=by
 intro d
 induction d with
 | zero =>
  intro i v s hd hi hv I
  refine⟨s,?_,I.le (by omega)⟩
  rw[pC]
  repeat (first|refine ip (by first|with_reducible rfl | assumption | (simp (disch:=omega) only[ws,wl,wb]<;>omega)|omega) ?_|refine jn (by first|with_reducible rfl | assumption | (simp (disch:=omega) only[ws,wl,wb]<;>omega)|omega) ?_|refine el ?_|refine er ?_)
  rfl
 | succ d ih =>
  intro i v s hd hi hv I
  have hi8:aI .u8 v 1=((i+1:Nat):Int):=by rw[iadd8 (by omega)];omega
  obtain⟨a1,a2,_⟩:=aEC I (by omega) (recOk (a:=1) (t:=999) (k:=0) (n:=0) (by decide) (by decide))
  generalize doF s (1,999,0,0)=q at a1 a2
  obtain⟨b1,b2,_⟩:=aEC a2 (by omega) (recOk (a:=2) (t:=999) (k:=v) (n:=0) (by omega) (by decide))
  generalize doF q.2.2 (2,999,v,0)=r at b1 b2
  obtain⟨s',r1,r2⟩:=ih (i+1) (aI .u8 v 1) r.2.2 (by omega) (by omega) hi8 (b2.le (by omega))
  refine⟨s',?_,r2⟩
  have hl:=Led.len b2.led
  have hg:jB v r.2.2.L r.2.2.K r.2.2.M r.2.2.G=some (getK r.2.2.L v):=by
   rw[jB]
   repeat (first|refine ip (by first|with_reducible rfl | assumption | (simp (disch:=omega) only[ws,wl,wb]<;>omega)|omega) ?_|refine jn (by first|with_reducible rfl | assumption | (simp (disch:=omega) only[ws,wl,wb]<;>omega)|omega) ?_|refine(bnd (get_ok (l:=r.2.2.L) (by omega) v)).trans ?_|refine el ?_|refine er ?_)
   rfl
  rw[pC,P_do4]
  repeat (first|refine ip (by first|with_reducible rfl | assumption | (simp (disch:=omega) only[ws,wl,wb,sS]<;>omega)|omega) ?_|refine jn (by first|with_reducible rfl | assumption | (simp (disch:=omega) only[ws,wl,wb,sS]<;>omega)|omega) ?_|refine(bnd a1).trans ?_|refine(bnd b1).trans ?_|refine(bnd hg).trans ?_|refine el ?_|refine er ?_)
  exact r1
theorem nob_l0 (x1:List Rec) (a t k n:Int):kL x1 a t k n=some (.inl ()):=by
 have h0:mG a t k n=some (0,1):=by rw[mG];exact jn (by decide) rfl
 have h1:j9 t=some (0,[],false,0,false):=by rw[j9];exact jn (by decide) rfl
 have h2:kZ k=some 0:=by rw[kZ];exact jn (by decide) rfl
 have h3:kY=some []:=by rw[kY];exact jn (by decide) rfl
 have h5:kM x1 a t k n=some ():=by rw[vN]
 have h4:kK x1 a t k n=some ():=by rw[vL];exact(bnd h5).trans rfl
 rw[vG]
 repeat (first|refine ip (by first|with_reducible rfl | assumption | (simp (disch:=omega) only[ws,wl,wb]<;>omega)|omega) ?_|refine jn (by first|with_reducible rfl | assumption | (simp (disch:=omega) only[ws,wl,wb]<;>omega)|omega) ?_|refine(bnd h0).trans ?_|refine(bnd h1).trans ?_|refine(bnd h2).trans ?_|refine(bnd h3).trans ?_|refine(bnd h4).trans ?_|refine el ?_|refine er ?_)
 rfl
theorem aHB (y0:List Rec) (a t k n:Int) (w0:w_t22 y0) (w1:aJW (a,t,k,n)):mU y0 a t k n=some true:=by
 obtain⟨s,h1,I⟩:=aNW (recs_of w0)
 obtain⟨ha,ht,hk,hn⟩:=w1
 obtain⟨a1,a2,a3⟩:=aEC I (by omega) (recOk (a:=a) (t:=t) hk hn)
 generalize doF s (a,t,k,n)=q at a1 a2 a3
 have h0:=nob_l0 y0 a t k n
 rw[mU]
 by_cases hq:q.1=0
 · repeat (first|refine ip (by first|with_reducible rfl | assumption | (simp (disch:=omega) only[ws,wl,wb]<;>omega)|omega) ?_|refine jn (by first|with_reducible rfl | assumption | (simp (disch:=omega) only[ws,wl,wb]<;>omega)|omega) ?_|refine(bnd aKG).trans ?_|refine(bnd h0).trans ?_|refine(bnd h1).trans ?_|refine(bnd a1).trans ?_|refine el ?_|refine er ?_)
   rfl
 have hb:=a3.bad hq
 rw[hb] at a1
 obtain⟨s',r1,I'⟩:=nob_l3 _ 0 0 s rfl (by omega) rfl (I.le (by omega))
 unfold tupN at r1
 repeat (first|refine ip (by first|with_reducible rfl | assumption | (simp (disch:=omega) only[ws,wl,wb,sS]<;>omega)|omega) ?_|refine jn (by first|with_reducible rfl | assumption | (simp (disch:=omega) only[ws,wl,wb,sS]<;>omega)|omega) ?_|refine(bnd aKG).trans ?_|refine(bnd h0).trans ?_|refine(bnd h1).trans ?_|refine(bnd a1).trans ?_|refine(bnd r1).trans ?_|refine(bnd (log_ok I' (by omega))).trans ?_|refine el ?_|refine er ?_)
 rw[sS]
end Go.Ws.L10
