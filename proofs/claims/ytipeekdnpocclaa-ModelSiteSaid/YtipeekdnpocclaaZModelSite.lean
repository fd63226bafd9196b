/-
  ModelSite, plainly.
  Conditions: none.
-/
import Derived.Test.YtipeekdnpocclaaZModelS
set_option linter.unusedVariables false
set_option linter.unusedSimpArgs false
namespace Go.Ws.L10
open L7 L8 L9
set_option linter.unusedVariables false
set_option linter.unusedSimpArgs false
set_option maxHeartbeats 1000000
theorem play_l0 {x1:List Rec} (hx:yV x1) (hl:x1.length≤100):∀(d i:Nat) (v:Int) (s:St),x1.length - i=d→i≤x1.length→v=(i:Int)→Inv s i→Rp s→Lg s→∃s',jJ x1 v s.L s.K s.M s.G=some (s'.L,s'.K,s'.M,s'.G)∧Inv s' 100∧Rp s'∧Lg s':=by
 intro d
 induction d with
 | zero =>
  intro i v s hd hi hv I R G
  refine⟨s,?_,I.le (by omega),R,G⟩
  rw[p6]
  repeat (first|refine ip (by first|with_reducible rfl | assumption | (simp (disch:=omega) only[ws,wl,wb]<;>omega)|omega) ?_|refine jn (by first|with_reducible rfl | assumption | (simp (disch:=omega) only[ws,wl,wb]<;>omega)|omega) ?_|refine el ?_|refine er ?_)
  rfl
 | succ d ih =>
  intro i v s hd hi hv I R G
  have hlx:i<x1.length:=by omega
  have hr:=hx.2 _ (List.getElem_mem hlx)
  obtain⟨q1,q2,q3⟩:=aOA I (by omega) hr
  obtain⟨s',r1,r2⟩:=ih (i+1) (aM .i64 v 1) (doF s x1[i]).2.2 (by omega) (by omega) (by first|with_reducible rfl | assumption | (simp (disch:=omega) only[ws,wl,wb]<;>omega)|omega) q2 (R.step hr q3) (G.step I q3)
  refine⟨s',?_,r2⟩
  rw[p6]
  repeat (first|refine ip (by first|with_reducible rfl | assumption | (simp (disch:=omega) only[ws,wl,wb]<;>omega)|omega) ?_|refine jn (by first|with_reducible rfl | assumption | (simp (disch:=omega) only[ws,wl,wb]<;>omega)|omega) ?_|refine(bnd (eQ hv hlx)).trans ?_|refine(bnd q1).trans ?_|refine el ?_|refine er ?_)
  exact r1
def decF (M:List (Int × Pt)):Bool→List Rec→Bool
 | b,[]=>b
 | b,r::l=>decF M (b && (match bN M r.2.1 with | some p=>eqI p.1 3 | none=>false)) l
theorem decF_t {M:List (Int × Pt)}:∀{l:List Rec} {b:Bool},decF M b l=true→b=true∧∀r∈l,∀p,bN M r.2.1=some p→p.1=3
 | [],b,h=>⟨h,fun _ h=>by cases h⟩
 | r::l,b,h=>by
  obtain⟨h1,h2⟩:=decF_t (l:=l) h
  simp only[Bool.and_eq_true] at h1
  refine⟨h1.1,fun x hx p hp=>?_⟩
  rcases List.mem_cons.1 hx with rfl | hx
  · have:=h1.2
    rw[hp] at this
    exact dB.1 this
  · exact h2 x hx p hp
theorem site_l1 {s:St} {N:Nat} (I:Inv s N) (hN:N≤400) (G:Lg s) (x6:Dl × Int):∀(d i:Nat) (b:Bool) (v:Int),s.G.length - i=d→i≤s.G.length→v=(i:Int)→fC (s.L,s.K,s.M,s.G) x6 (mJ [] s.G) b v=some (.inl (decF s.M b (s.G.drop i))):=by
 have hgl:=I.gl
 intro d
 induction d with
 | zero =>
  intro i b v hd hi hv
  rw[List.drop_of_length_le (by omega),qE]
  repeat (first|refine ip (by first|with_reducible rfl | assumption | (simp (disch:=omega) only[ws,wl,wb]<;>omega)|omega) ?_|refine jn (by first|with_reducible rfl | assumption | (simp (disch:=omega) only[ws,wl,wb]<;>omega)|omega) ?_|refine el ?_|refine er ?_)
  rfl
 | succ d ih =>
  intro i b v hd hi hv
  have hlt:i<s.G.length:=by omega
  have r1:=fun b=>ih (i+1) b (aM .i64 v 1) (by omega) (by omega) (by first|with_reducible rfl | assumption | (simp (disch:=omega) only[ws,wl,wb]<;>omega)|omega)
  obtain⟨p,hg⟩:=G.has _ (List.getElem_mem hlt)
  have hp:=part_ok I s.G[i].2.1
  have ho:=G.out _ _ hg
  rw[hg] at hp
  rw[List.drop_eq_getElem_cons hlt]
  unfold decF
  rw[hg]
  simp only
  obtain⟨q1,q2⟩:=rt_out (I.pt _ _ hg).1
  rw[qE]
  by_cases h3:p.1=3
  · rw[if_pos h3] at ho
    have hh:=aHR ho
    have e0:eqB (eqI p.1 3) (!eqI p.2.2.2 0)=true:=by
     rw[dB.2 h3]
     rcases q1 h3 with h | h<;>rw[h]<;>rfl
    cases b with
    | true =>
     repeat (first|refine ip (by first|with_reducible rfl | assumption | (simp (disch:=omega) only[ws,wl,wb,qO,e0]<;>omega)|omega) ?_|refine jn (by first|with_reducible rfl | assumption | (simp (disch:=omega) only[ws,wl,wb,qO,e0]<;>omega)|omega) ?_|refine(bnd (eQ hv hlt)).trans ?_|refine(bnd hp).trans ?_|refine(bnd ho).trans ?_|refine el ?_|refine er ?_)
     rw[Bool.true_and];exact r1 _
    | false =>
     repeat (first|refine ip (by first|with_reducible rfl | assumption | (simp (disch:=omega) only[ws,wl,wb,qO,e0,Bool.false_eq_true,not_false_eq_true]<;>omega)|omega) ?_|refine jn (by first|with_reducible rfl | assumption | (simp (disch:=omega) only[ws,wl,wb,qO,e0,Bool.false_eq_true,not_false_eq_true]<;>omega)|omega) ?_|refine(bnd (eQ hv hlt)).trans ?_|refine(bnd hp).trans ?_|refine(bnd ho).trans ?_|refine el ?_|refine er ?_)
     rw[Bool.false_and];exact r1 _
  · rw[if_neg h3] at ho
    have hh:¬lS (mJ [] s.G) s.G[i].2.1=true:=by rw[has_f ho];simp
    have e0:eqB (eqI p.1 3) (!eqI 0 0)=true:=by
     rw[eqf (fun h=>h3 (dB.1 h))];rfl
    have e1:eqI p.2.2.2 0=true:=dB.2 (q2 h3)
    cases b with
    | true =>
     repeat (first|refine ip (by first|with_reducible rfl | assumption | (simp (disch:=omega) only[ws,wl,wb,e0,e1]<;>omega)|omega) ?_|refine jn (by first|with_reducible rfl | assumption | (simp (disch:=omega) only[ws,wl,wb,e0,e1]<;>omega)|omega) ?_|refine(bnd (eQ hv hlt)).trans ?_|refine(bnd hp).trans ?_|refine(bnd ho).trans ?_|refine el ?_|refine er ?_)
     rw[Bool.true_and];exact r1 _
    | false =>
     repeat (first|refine ip (by first|with_reducible rfl | assumption | (simp (disch:=omega) only[ws,wl,wb,e0,e1,Bool.false_eq_true,not_false_eq_true]<;>omega)|omega) ?_|refine jn (by first|with_reducible rfl | assumption | (simp (disch:=omega) only[ws,wl,wb,e0,e1,Bool.false_eq_true,not_false_eq_true]<;>omega)|omega) ?_|refine(bnd (eQ hv hlt)).trans ?_|refine(bnd hp).trans ?_|refine(bnd ho).trans ?_|refine el ?_|refine er ?_)
     rw[Bool.false_and];exact r1 _
theorem site_l2 {s:St} {N:Nat} (I:Inv s N) (G:Lg s) (e:Int) {b:Bool} (hb:b=true→∀t p,bN s.M t=some p→p.1=3):∀(d i:Nat) (v:Int),64 - i=d→i≤64→v=(i:Int)→hX (s.L,s.K,s.M,s.G) (ofL (aC5 s.G),e) b v=some (.inl ()):=by
 have hl:=Led.len I.led
 have hl2:=aNE (aC5 s.G)
 intro d
 induction d with
 | zero =>
  intro i v hd hi hv
  rw[pY]
  repeat (first|refine ip (by first|with_reducible rfl | assumption | (simp (disch:=omega) only[ws,wl,wb]<;>omega)|omega) ?_|refine jn (by first|with_reducible rfl | assumption | (simp (disch:=omega) only[ws,wl,wb]<;>omega)|omega) ?_|refine el ?_|refine er ?_)
  rfl
 | succ d ih =>
  intro i v hd hi hv
  have hi8:aM .u8 v 1=((i+1:Nat):Int):=by rw[iadd8 (by omega)];omega
  have r1:=ih (i+1) _ (by omega) (by omega) hi8
  rw[pY]
  cases b with
  | false =>
   repeat (first|refine ip (by first|with_reducible rfl | assumption | (simp (disch:=omega) only[ws,wl,wb,Bool.false_eq_true,not_false_eq_true]<;>omega)|omega) ?_|refine jn (by first|with_reducible rfl | assumption | (simp (disch:=omega) only[ws,wl,wb,Bool.false_eq_true,not_false_eq_true]<;>omega)|omega) ?_|refine el ?_|refine er ?_)
   exact r1
  | true =>
   have hs:=sum_done I G (hb rfl) (k:=v) (by omega) (by omega)
   have g1:nD v s.L s.K s.M s.G=some (aAC (ofL (aC5 s.G)) v):=by
    rw[nD,← hs]
    repeat (first|refine ip (by first|with_reducible rfl | assumption | (simp (disch:=omega) only[ws,wl,wb]<;>omega)|omega) ?_|refine jn (by first|with_reducible rfl | assumption | (simp (disch:=omega) only[ws,wl,wb]<;>omega)|omega) ?_|refine(bnd (get_ok (l:=s.L) (by omega) v)).trans ?_|refine el ?_|refine er ?_)
    rfl
   repeat (first|refine ip (by first|with_reducible rfl | assumption | (simp (disch:=omega) only[ws,wl,wb,qO]<;>omega)|omega) ?_|refine jn (by first|with_reducible rfl | assumption | (simp (disch:=omega) only[ws,wl,wb,qO]<;>omega)|omega) ?_|refine(bnd g1).trans ?_|refine(bnd (rget_ok (l:=ofL (aC5 s.G)) (by omega) v)).trans ?_|refine el ?_|refine er ?_)
   exact r1
theorem aMF (y0:List Rec) (w0:w_t22 y0):lD y0=some true:=by
 have hx:=recs_of w0
 have hml:=hx.1
 unfold maxLen at hml
 by_cases hl:y0.length≤100
 rotate_left
 · rw[lD]
   repeat (first|refine ip (by first|with_reducible rfl | assumption | (simp (disch:=omega) only[ws,wl,wb]<;>omega)|omega) ?_|refine jn (by first|with_reducible rfl | assumption | (simp (disch:=omega) only[ws,wl,wb]<;>omega)|omega) ?_|refine(bnd aLE).trans ?_|refine el ?_|refine er ?_)
   rfl
 obtain⟨s,h1,I,R,G⟩:=play_l0 hx hl _ 0 0 ⟨[],[],[],[]⟩ rfl (by omega) rfl aJO rp_nil lg_nil
 have hgl:=I.gl
 have hxs:yV s.G:=⟨by unfold maxLen;omega,R.recs⟩
 have h2:=aMK hxs (by omega) G.key R.ok
 have h3:=(aLI hxs (by omega)).1 R.ok
 have hlog:=log_ok I (by omega)
 have h4:=site_l1 I (by omega) G (ofL (aC5 s.G),0) _ 0 true 0 rfl (by omega) rfl
 rw[List.drop_zero] at h4
 have h5:=site_l2 I G 0 (b:=decF s.M true s.G) (fun hb t p hp=>by
  obtain⟨r,hr,e⟩:=G.bgn t p hp
  exact(decF_t hb).2 r hr p (by rw[e];exact hp)) _ 0 0 rfl (by omega) rfl
 rw[lD]
 repeat (first|refine ip (by first|with_reducible rfl | assumption | (simp (disch:=omega) only[ws,wl,wb]<;>omega)|omega) ?_|refine jn (by first|with_reducible rfl | assumption | (simp (disch:=omega) only[ws,wl,wb]<;>omega)|omega) ?_|refine(bnd aLE).trans ?_|refine(bnd h1).trans ?_|refine(bnd hlog).trans ?_|refine(bnd h2).trans ?_|refine(bnd h3).trans ?_|refine(bnd h4).trans ?_|refine(bnd h5).trans ?_|refine el ?_|refine er ?_)
 rfl
end Go.Ws.L10
