/-
  ModelSite, plainly.
  Conditions: none.
-/
import Derived.Test.YtipeekdnpocclaaZModelS
set_option linter.unusedVariables false
set_option linter.unusedSimpArgs false
namespace Go.Ws.L10
open L7 L8 L9
set_option linter.unusedVariables false
set_option linter.unusedSimpArgs false
set_option maxHeartbeats 1000000
theorem play_l0 {x1:List Rec} (hx:yA x1) (hl:x1.length≤100):∀(d i:Nat) (v:Int) (s:St),x1.length - i=d→i≤x1.length→v=(i:Int)→Inv s i→Rp s→Lg s→∃s',iU x1 v s.L s.K s.M s.G=some (s'.L,s'.K,s'.M,s'.G)∧Inv s' 100∧Rp s'∧Lg s':=by
 intro d
 induction d with
 | zero =>
  intro i v s hd hi hv I R G
  refine⟨s,?_,I.le (by omega),R,G⟩
  rw[pF]
  repeat (first|refine ip0 ?_|refine jn0 ?_|refine el ?_|refine er ?_)
  rfl
 | succ d ih =>
  intro i v s hd hi hv I R G
  have hlx:i<x1.length:=by omega
  have hr:=hx.2 _ (List.getElem_mem hlx)
  obtain⟨q1,q2,q3⟩:=aOE I (by omega) hr
  obtain⟨s',r1,r2⟩:=ih (i+1) (aH .i64 v 1) (doF s x1[i]).2.2 (by omega) (by omega) sd q2 (R.step hr q3) (G.step I q3)
  refine⟨s',?_,r2⟩
  rw[pF]
  repeat (first|refine ip0 ?_|refine jn0 ?_|refine(bnd (eA hv hlx)).trans ?_|refine(bnd q1).trans ?_|refine el ?_|refine er ?_)
  exact r1
def decF (M:List (Int × Pt)):Bool→List Rec→Bool
 | b,[]=>b
 | b,r::l=>decF M (b && (match bD M r.2.1 with | some p=>eqI p.1 3 | none=>false)) l
theorem decF_t {M:List (Int × Pt)}:∀{l:List Rec} {b:Bool},decF M b l=true→b=true∧∀r∈l,∀p,bD M r.2.1=some p→p.1=3
 | [],b,h=>⟨h,fun _ h=>by cases h⟩
 | r::l,b,h=>by
  obtain⟨h1,h2⟩:=decF_t (l:=l) h
  simp only[Bool.and_eq_true] at h1
  refine⟨h1.1,fun x hx p hp=>?_⟩
  rcases List.mem_cons.1 hx with rfl | hx
  · have:=h1.2
    rw[hp] at this
    exact cQ.1 this
  · exact h2 x hx p hp
theorem site_l1 {s:St} {N:Nat} (I:Inv s N) (hN:N≤400) (G:Lg s) (x6:Dl × Int):∀(d i:Nat) (b:Bool) (v:Int),s.G.length - i=d→i≤s.G.length→v=(i:Int)→eK (s.L,s.K,s.M,s.G) x6 (lJ [] s.G) b v=some (.inl (decF s.M b (s.G.drop i))):=by
 have hgl:=I.gl
 intro d
 induction d with
 | zero =>
  intro i b v hd hi hv
  rw[List.drop_of_length_le (by omega),pI]
  repeat (first|refine ip0 ?_|refine jn0 ?_|refine el ?_|refine er ?_)
  rfl
 | succ d ih =>
  intro i b v hd hi hv
  have hlt:i<s.G.length:=by omega
  have r1:=fun b=>ih (i+1) b (aH .i64 v 1) (by omega) (by omega) sd
  obtain⟨p,hg⟩:=G.has _ (List.getElem_mem hlt)
  have hp:=part_ok I s.G[i].2.1
  have ho:=G.out _ _ hg
  rw[hg] at hp
  rw[List.drop_eq_getElem_cons hlt]
  unfold decF
  rw[hg]
  simp only
  obtain⟨q1,q2⟩:=rt_out (I.pt _ _ hg).1
  rw[pI]
  by_cases h3:p.1=3
  · rw[if_pos h3] at ho
    have hh:=aG4 ho
    have e0:eqB (eqI p.1 3) (!eqI p.2.2.2 0)=true:=by
     rw[cQ.2 h3]
     rcases q1 h3 with h | h<;>rw[h]<;>rfl
    cases b with
    | true =>
     repeat (first|refine ip (by first|with_reducible rfl | assumption | (simp (disch:=omega) only[ws,wl,wb,pK,e0]<;>omega)|omega) ?_|refine jn (by first|with_reducible rfl | assumption | (simp (disch:=omega) only[ws,wl,wb,pK,e0]<;>omega)|omega) ?_|refine(bnd (eA hv hlt)).trans ?_|refine(bnd hp).trans ?_|refine(bnd ho).trans ?_|refine el ?_|refine er ?_)
     rw[Bool.true_and];exact r1 _
    | false =>
     repeat (first|refine ip (by first|with_reducible rfl | assumption | (simp (disch:=omega) only[ws,wl,wb,pK,e0,Bool.false_eq_true,not_false_eq_true]<;>omega)|omega) ?_|refine jn (by first|with_reducible rfl | assumption | (simp (disch:=omega) only[ws,wl,wb,pK,e0,Bool.false_eq_true,not_false_eq_true]<;>omega)|omega) ?_|refine(bnd (eA hv hlt)).trans ?_|refine(bnd hp).trans ?_|refine(bnd ho).trans ?_|refine el ?_|refine er ?_)
     rw[Bool.false_and];exact r1 _
  · rw[if_neg h3] at ho
    have hh:¬kS (lJ [] s.G) s.G[i].2.1=true:=by rw[has_f ho];simp
    have e0:eqB (eqI p.1 3) (!eqI 0 0)=true:=by
     rw[eqf (fun h=>h3 (cQ.1 h))];rfl
    have e1:eqI p.2.2.2 0=true:=cQ.2 (q2 h3)
    cases b with
    | true =>
     repeat (first|refine ip (by first|with_reducible rfl | assumption | (simp (disch:=omega) only[ws,wl,wb,e0,e1]<;>omega)|omega) ?_|refine jn (by first|with_reducible rfl | assumption | (simp (disch:=omega) only[ws,wl,wb,e0,e1]<;>omega)|omega) ?_|refine(bnd (eA hv hlt)).trans ?_|refine(bnd hp).trans ?_|refine(bnd ho).trans ?_|refine el ?_|refine er ?_)
     rw[Bool.true_and];exact r1 _
    | false =>
     repeat (first|refine ip (by first|with_reducible rfl | assumption | (simp (disch:=omega) only[ws,wl,wb,e0,e1,Bool.false_eq_true,not_false_eq_true]<;>omega)|omega) ?_|refine jn (by first|with_reducible rfl | assumption | (simp (disch:=omega) only[ws,wl,wb,e0,e1,Bool.false_eq_true,not_false_eq_true]<;>omega)|omega) ?_|refine(bnd (eA hv hlt)).trans ?_|refine(bnd hp).trans ?_|refine(bnd ho).trans ?_|refine el ?_|refine er ?_)
     rw[Bool.false_and];exact r1 _
theorem site_l2 {s:St} {N:Nat} (I:Inv s N) (G:Lg s) (e:Int) {b:Bool} (hb:b=true→∀t p,bD s.M t=some p→p.1=3):∀(d i:Nat) (v:Int),64 - i=d→i≤64→v=(i:Int)→gN (s.L,s.K,s.M,s.G) (ofL (aCQ s.G),e) b v=some (.inl ()):=by
 have hl:=Led.len I.led
 have hl2:=aMX (aCQ s.G)
 intro d
 induction d with
 | zero =>
  intro i v hd hi hv
  rw[o4]
  repeat (first|refine ip0 ?_|refine jn0 ?_|refine el ?_|refine er ?_)
  rfl
 | succ d ih =>
  intro i v hd hi hv
  have hi8:aH .u8 v 1=((i+1:Nat):Int):=by rw[iadd8 (by omega)];omega
  have r1:=ih (i+1) _ (by omega) (by omega) hi8
  rw[o4]
  cases b with
  | false =>
   repeat (first|refine ip (by first|with_reducible rfl | assumption | (simp (disch:=omega) only[ws,wl,wb,Bool.false_eq_true,not_false_eq_true]<;>omega)|omega) ?_|refine jn (by first|with_reducible rfl | assumption | (simp (disch:=omega) only[ws,wl,wb,Bool.false_eq_true,not_false_eq_true]<;>omega)|omega) ?_|refine el ?_|refine er ?_)
   exact r1
  | true =>
   have hs:=sum_done I G (hb rfl) (k:=v) (by omega) (by omega)
   have g1:mD v s.L s.K s.M s.G=some (zP (ofL (aCQ s.G)) v):=by
    rw[mD,← hs]
    repeat (first|refine ip0 ?_|refine jn0 ?_|refine(bnd (get_ok (l:=s.L) (by omega) v)).trans ?_|refine el ?_|refine er ?_)
    rfl
   repeat (first|refine ip (by first|with_reducible rfl | assumption | (simp (disch:=omega) only[ws,wl,wb,pK]<;>omega)|omega) ?_|refine jn (by first|with_reducible rfl | assumption | (simp (disch:=omega) only[ws,wl,wb,pK]<;>omega)|omega) ?_|refine(bnd g1).trans ?_|refine(bnd (rget_ok (l:=ofL (aCQ s.G)) (by omega) v)).trans ?_|refine el ?_|refine er ?_)
   exact r1
theorem aLH (y0:List Rec) (w0:w_t22 y0):j8 y0=some true:=by
 have hx:=recs_of w0
 have hml:=hx.1
 unfold maxLen at hml
 by_cases hl:y0.length≤100
 rotate_left
 · rw[j8]
   repeat (first|refine ip0 ?_|refine jn0 ?_|refine(bnd aKK).trans ?_|refine el ?_|refine er ?_)
   rfl
 obtain⟨s,h1,I,R,G⟩:=play_l0 hx hl _ 0 0 ⟨[],[],[],[]⟩ rfl (by omega) rfl aJF rp_nil lg_nil
 have hgl:=I.gl
 have hxs:yA s.G:=⟨by unfold maxLen;omega,R.recs⟩
 have h2:=aMA hxs (by omega) G.key R.ok
 have h3:=(aKO hxs (by omega)).1 R.ok
 have hlog:=log_ok I (by omega)
 have h4:=site_l1 I (by omega) G (ofL (aCQ s.G),0) _ 0 true 0 rfl (by omega) rfl
 rw[List.drop_zero] at h4
 have h5:=site_l2 I G 0 (b:=decF s.M true s.G) (fun hb t p hp=>by
  obtain⟨r,hr,e⟩:=G.bgn t p hp
  exact(decF_t hb).2 r hr p (by rw[e];exact hp)) _ 0 0 rfl (by omega) rfl
 rw[j8]
 repeat (first|refine ip0 ?_|refine jn0 ?_|refine(bnd aKK).trans ?_|refine(bnd h1).trans ?_|refine(bnd hlog).trans ?_|refine(bnd h2).trans ?_|refine(bnd h3).trans ?_|refine(bnd h4).trans ?_|refine(bnd h5).trans ?_|refine el ?_|refine er ?_)
 rfl
end Go.Ws.L10
