/-
  A site that is made again of its records, plainly; SiteAgain.
  Conditions: none.
-/
import Derived.Test.YtojldadifhneeaaZSiteLaws
set_option linter.unusedVariables false
set_option linter.unusedSimpArgs false
namespace Go.Ws.L10
open L7 L8 L9
set_option linter.unusedVariables false
set_option linter.unusedSimpArgs false
set_option maxHeartbeats 1000000
noncomputable def okF:St→List Rec→Bool
 | _,[]=>true
 | s,r::l=>eqI (doF s r).1 0 && okF (doF s r).2.2 l
noncomputable def runF:St→List Rec→St
 | s,[]=>s
 | s,r::l=>runF (doF s r).2.2 l
theorem okF_app:∀(l m:List Rec) (s:St),okF s (l++m)=(okF s l && okF (runF s l) m)
 | [],m,s=>by simp [okF,runF]
 | r::l,m,s=>by simp only[List.cons_append,okF,runF];rw[okF_app l m,Bool.and_assoc]
theorem runF_app:∀(l m:List Rec) (s:St),runF s (l++m)=runF (runF s l) m
 | [],m,s=>by simp [runF]
 | r::l,m,s=>by simp only[List.cons_append,runF];exact runF_app l m _
def tupS (s:St):Dl × List Ho × List (Int × Pt) × List Rec:=(s.L,s.K,s.M,s.G)
theorem replay_l0 {x1:List Rec} (hx:RecsOk x1) (hl:x1.length≤120):∀(d i:Nat) (v:Int) (s:St),x1.length - i=d→i≤x1.length→v=(i:Int)→Inv s i →
 (okF s (x1.drop i)=true→P_site_Replay_l0 x1 v s.L s.K s.M s.G=some (.inl (tupS (runF s (x1.drop i)))))∧(okF s (x1.drop i)=false→P_site_Replay_l0 x1 v s.L s.K s.M s.G=some (.inr (.inr ()))):=by
 intro d
 induction d with
 | zero =>
  intro i v s hd hi hv I
  rw[List.drop_of_length_le (by omega)]
  refine⟨fun _=>?_,fun h=>by cases h⟩
  rw[P_site_Replay_l0_eq]
  repeat (first|refine ip (by first|with_reducible rfl | assumption | (simp (disch:=omega) only[ws,wl,wb]<;>omega)|omega) ?_|refine jn (by first|with_reducible rfl | assumption | (simp (disch:=omega) only[ws,wl,wb]<;>omega)|omega) ?_|refine el ?_|refine er ?_)
  rfl
 | succ d ih =>
  intro i v s hd hi hv I
  have hlt:i<x1.length:=by omega
  have hr:=hx.2 _ (List.getElem_mem hlt)
  obtain⟨q1,q2,_⟩:=do_some I (by omega) hr
  obtain⟨r1,r2⟩:=ih (i+1) (iadd .i64 v 1) (doF s x1[i]).2.2 (by omega) (by omega) (by first|with_reducible rfl | assumption | (simp (disch:=omega) only[ws,wl,wb]<;>omega)|omega) q2
  rw[List.drop_eq_getElem_cons hlt]
  simp only[okF,runF]
  generalize doF s x1[i]=q at q1 q2 r1 r2
  rw[P_site_Replay_l0_eq,P_do8]
  by_cases h0:q.1=0
  · have e:eqI q.1 0=true:=eqI_iff.2 h0
    rw[e,Bool.true_and]
    refine⟨fun h=>?_,fun h=>?_⟩
    · repeat (first|refine ip (by first|with_reducible rfl | assumption | (simp (disch:=omega) only[ws,wl,wb]<;>omega)|omega) ?_|refine jn (by first|with_reducible rfl | assumption | (simp (disch:=omega) only[ws,wl,wb]<;>omega)|omega) ?_|refine(bnd (geti hv hlt)).trans ?_|refine(bnd q1).trans ?_|refine el ?_|refine er ?_)
      exact r1 h
    · repeat (first|refine ip (by first|with_reducible rfl | assumption | (simp (disch:=omega) only[ws,wl,wb]<;>omega)|omega) ?_|refine jn (by first|with_reducible rfl | assumption | (simp (disch:=omega) only[ws,wl,wb]<;>omega)|omega) ?_|refine(bnd (geti hv hlt)).trans ?_|refine(bnd q1).trans ?_|refine el ?_|refine er ?_)
      exact r2 h
  · have e:eqI q.1 0=false:=eqf fun h=>h0 (eqI_iff.1 h)
    rw[e,Bool.false_and]
    refine⟨fun h=>(by cases h),fun h=>?_⟩
    repeat (first|refine ip (by first|with_reducible rfl | assumption | (simp (disch:=omega) only[ws,wl,wb]<;>omega)|omega) ?_|refine jn (by first|with_reducible rfl | assumption | (simp (disch:=omega) only[ws,wl,wb]<;>omega)|omega) ?_|refine(bnd (geti hv hlt)).trans ?_|refine(bnd q1).trans ?_|refine el ?_|refine er ?_)
    rfl
theorem replay_ok {x1:List Rec} (hx:RecsOk x1) (hl:x1.length≤120) :
 (okF ⟨[],[],[],[]⟩ x1=true→P_site_Replay x1=some (.inl (tupS (runF ⟨[],[],[],[]⟩ x1))))∧(okF ⟨[],[],[],[]⟩ x1=false→P_site_Replay x1=some (.inr ())):=by
 have h:=replay_l0 hx hl _ 0 0 ⟨[],[],[],[]⟩ rfl (by omega) rfl inv_nil
 rw[List.drop_zero] at h
 refine⟨fun e=>?_,fun e=>?_⟩
 · rw[P_site_Replay]
   exact(bnd (h.1 e)).trans rfl
 · rw[P_site_Replay]
   exact(bnd (h.2 e)).trans rfl
structure Rp (s:St):Prop where
 ok:okF ⟨[],[],[],[]⟩ s.G=true
 run:runF ⟨[],[],[],[]⟩ s.G=s
 recs:∀r∈s.G,RecOk r
theorem rp_nil:Rp ⟨[],[],[],[]⟩:=⟨rfl,rfl,fun _ h=>(by cases h)⟩
theorem Rp.step {s:St} {r:Rec} (h:Rp s) (hr:RecOk r) (hs:Step s r (doF s r)):Rp (doF s r).2.2:=by
 rcases hs.log with⟨he,hg⟩ | ⟨_,hq⟩
 · refine⟨?_,?_,?_⟩
   · rw[hg,okF_app,h.ok,h.run]
     simp only[okF]
     rw[eqI_iff.2 he];rfl
   · rw[hg,runF_app,h.run];rfl
   · rw[hg]
     intro x hx
     rcases List.mem_append.1 hx with hx | hx
     · exact h.recs x hx
     · rcases List.mem_singleton.1 hx with rfl;exact hr
 · rw[hq];exact h
theorem again_p0 {x1:List Rec} (hx:RecsOk x1):∀(d i:Nat) (v:Int) (s:St),120 - i=d→i≤120→v=(i:Int)→Inv s i→Rp s→∃s',P_law10_played_l0 x1 v s.L s.K s.M s.G=some (s'.L,s'.K,s'.M,s'.G)∧Inv s' 120∧Rp s':=by
 have hml:=hx.1
 unfold maxLen at hml
 intro d
 induction d with
 | zero =>
  intro i v s hd hi hv I R
  refine⟨s,?_,I.le hi,R⟩
  by_cases hlx:i<x1.length
  · rw[P_law10_played_l0_eq]
    repeat (first|refine ip (by first|with_reducible rfl | assumption | (simp (disch:=omega) only[ws,wl,wb]<;>omega)|omega) ?_|refine jn (by first|with_reducible rfl | assumption | (simp (disch:=omega) only[ws,wl,wb]<;>omega)|omega) ?_|refine el ?_|refine er ?_)
    rfl
  · rw[P_law10_played_l0_eq]
    repeat (first|refine ip (by first|with_reducible rfl | assumption | (simp (disch:=omega) only[ws,wl,wb]<;>omega)|omega) ?_|refine jn (by first|with_reducible rfl | assumption | (simp (disch:=omega) only[ws,wl,wb]<;>omega)|omega) ?_|refine el ?_|refine er ?_)
    rfl
 | succ d ih =>
  intro i v s hd hi hv I R
  by_cases hlx:i<x1.length
  rotate_left
  · refine⟨s,?_,I.le hi,R⟩
    rw[P_law10_played_l0_eq]
    repeat (first|refine ip (by first|with_reducible rfl | assumption | (simp (disch:=omega) only[ws,wl,wb]<;>omega)|omega) ?_|refine jn (by first|with_reducible rfl | assumption | (simp (disch:=omega) only[ws,wl,wb]<;>omega)|omega) ?_|refine el ?_|refine er ?_)
    rfl
  have hr:=hx.2 _ (List.getElem_mem hlx)
  obtain⟨q1,q2,q3⟩:=do_some I (by omega) hr
  obtain⟨s',r1,r2⟩:=ih (i+1) (iadd .i64 v 1) (doF s x1[i]).2.2 (by omega) (by omega) (by first|with_reducible rfl | assumption | (simp (disch:=omega) only[ws,wl,wb]<;>omega)|omega) q2 (R.step hr q3)
  refine⟨s',?_,r2⟩
  rw[P_law10_played_l0_eq]
  repeat (first|refine ip (by first|with_reducible rfl | assumption | (simp (disch:=omega) only[ws,wl,wb]<;>omega)|omega) ?_|refine jn (by first|with_reducible rfl | assumption | (simp (disch:=omega) only[ws,wl,wb]<;>omega)|omega) ?_|refine(bnd (geti hv hlx)).trans ?_|refine(bnd q1).trans ?_|refine el ?_|refine er ?_)
  exact r1
theorem again_p {x1:List Rec} (hx:RecsOk x1):∃s,P_law10_played x1=some (s.L,s.K,s.M,s.G)∧Inv s 120∧Rp s:=by
 obtain⟨s,h1,h2⟩:=again_p0 hx _ 0 0 ⟨[],[],[],[]⟩ rfl (by omega) rfl inv_nil rp_nil
 refine⟨s,?_,h2⟩
 rw[P_law10_played]
 repeat (first|refine ip (by first|with_reducible rfl | assumption | (simp (disch:=omega) only[ws,wl,wb]<;>omega)|omega) ?_|refine jn (by first|with_reducible rfl | assumption | (simp (disch:=omega) only[ws,wl,wb]<;>omega)|omega) ?_|refine(bnd h1).trans ?_|refine el ?_|refine er ?_)
 rfl
def tupA (s:St):Dl × List Ho × Dl × List Ho × List (Int × Pt) × List Rec × List (Int × Pt) × List Rec:=(s.L,s.K,s.L,s.K,s.M,s.G,s.M,s.G)
theorem again_l0 {x2:List Rec} (hx:RecsOk x2):∀(d i:Nat) (v:Int) (s:St),120 - i=d→i≤120→v=(i:Int)→Inv s (120+i)→∃s',P_law10_SiteAgain_l0 x2 v s.L s.K s.L s.K s.M s.G s.M s.G=some (.inl (tupA s'))∧Inv s' 240:=by
 have hml:=hx.1
 unfold maxLen at hml
 intro d
 induction d with
 | zero =>
  intro i v s hd hi hv I
  refine⟨s,?_,I.le (by omega)⟩
  by_cases hlx:i<x2.length
  · rw[P_law10_SiteAgain_l0_eq]
    repeat (first|refine ip (by first|with_reducible rfl | assumption | (simp (disch:=omega) only[ws,wl,wb]<;>omega)|omega) ?_|refine jn (by first|with_reducible rfl | assumption | (simp (disch:=omega) only[ws,wl,wb]<;>omega)|omega) ?_|refine el ?_|refine er ?_)
    rfl
  · rw[P_law10_SiteAgain_l0_eq]
    repeat (first|refine ip (by first|with_reducible rfl | assumption | (simp (disch:=omega) only[ws,wl,wb]<;>omega)|omega) ?_|refine jn (by first|with_reducible rfl | assumption | (simp (disch:=omega) only[ws,wl,wb]<;>omega)|omega) ?_|refine el ?_|refine er ?_)
    rfl
 | succ d ih =>
  intro i v s hd hi hv I
  by_cases hlx:i<x2.length
  rotate_left
  · refine⟨s,?_,I.le (by omega)⟩
    rw[P_law10_SiteAgain_l0_eq]
    repeat (first|refine ip (by first|with_reducible rfl | assumption | (simp (disch:=omega) only[ws,wl,wb]<;>omega)|omega) ?_|refine jn (by first|with_reducible rfl | assumption | (simp (disch:=omega) only[ws,wl,wb]<;>omega)|omega) ?_|refine el ?_|refine er ?_)
    rfl
  have hr:=hx.2 _ (List.getElem_mem hlx)
  obtain⟨q1,q2,_⟩:=do_some I (by omega) hr
  obtain⟨s',r1,r2⟩:=ih (i+1) (iadd .i64 v 1) (doF s x2[i]).2.2 (by omega) (by omega) (by first|with_reducible rfl | assumption | (simp (disch:=omega) only[ws,wl,wb]<;>omega)|omega) (q2.le (by omega))
  refine⟨s',?_,r2⟩
  rw[P_law10_SiteAgain_l0_eq]
  repeat (first|refine ip (by first|with_reducible rfl | assumption | (simp (disch:=omega) only[ws,wl,wb,eqI_self]<;>omega)|omega) ?_|refine jn (by first|with_reducible rfl | assumption | (simp (disch:=omega) only[ws,wl,wb,eqI_self]<;>omega)|omega) ?_|refine(bnd (geti hv hlx)).trans ?_|refine(bnd q1).trans ?_|refine el ?_|refine er ?_)
  exact r1
theorem again_l1 {s:St} {n:Nat} (I:Inv s n):∀(d i:Nat) (v:Int),64 - i=d→i≤64→v=(i:Int)→P_law10_SiteAgain_l1 (tupA s) v=some (.inl ()):=by
 have hl64:=Led.len I.led
 intro d
 induction d with
 | zero =>
  intro i v hd hi hv
  rw[P_law10_SiteAgain_l1_eq]
  repeat (first|refine ip (by first|with_reducible rfl | assumption | (simp (disch:=omega) only[ws,wl,wb]<;>omega)|omega) ?_|refine jn (by first|with_reducible rfl | assumption | (simp (disch:=omega) only[ws,wl,wb]<;>omega)|omega) ?_|refine el ?_|refine er ?_)
  rfl
 | succ d ih =>
  intro i v hd hi hv
  have hi8:iadd .u8 v 1=((i+1:Nat):Int):=by rw[iadd8 (by omega)];omega
  have hg:P_site_Site_Get v s.L s.K s.M s.G=some (getK s.L v):=by
   rw[P_site_Site_Get]
   repeat (first|refine ip (by first|with_reducible rfl | assumption | (simp (disch:=omega) only[ws,wl,wb]<;>omega)|omega) ?_|refine jn (by first|with_reducible rfl | assumption | (simp (disch:=omega) only[ws,wl,wb]<;>omega)|omega) ?_|refine(bnd (get_ok (l:=s.L) (by omega) v)).trans ?_|refine el ?_|refine er ?_)
   rfl
  rw[P_law10_SiteAgain_l1_eq]
  unfold tupA at *
  repeat (first|refine ip (by first|with_reducible rfl | assumption | (simp (disch:=omega) only[ws,wl,wb,eqI_self]<;>omega)|omega) ?_|refine jn (by first|with_reducible rfl | assumption | (simp (disch:=omega) only[ws,wl,wb,eqI_self]<;>omega)|omega) ?_|refine(bnd hg).trans ?_|refine el ?_|refine er ?_)
  exact ih (i+1) _ (by omega) (by omega) hi8
theorem again_l2 {s:St} (hl:s.G.length≤1000):∀(d i:Nat) (v:Int),s.G.length - i=d→i≤s.G.length→v=(i:Int)→P_law10_SiteAgain_l2 (tupA s) v=some (.inl ()):=by
 intro d
 induction d with
 | zero =>
  intro i v hd hi hv
  rw[P_law10_SiteAgain_l2_eq]
  unfold tupA at *
  repeat (first|refine ip (by first|with_reducible rfl | assumption | (simp (disch:=omega) only[ws,wl,wb]<;>omega)|omega) ?_|refine jn (by first|with_reducible rfl | assumption | (simp (disch:=omega) only[ws,wl,wb]<;>omega)|omega) ?_|refine el ?_|refine er ?_)
  rfl
 | succ d ih =>
  intro i v hd hi hv
  have hlt:i<s.G.length:=by omega
  rw[P_law10_SiteAgain_l2_eq]
  unfold tupA at *
  repeat (first|refine ip (by first|with_reducible rfl | assumption | (simp (disch:=omega) only[ws,wl,wb,eqI_self]<;>omega)|omega) ?_|refine jn (by first|with_reducible rfl | assumption | (simp (disch:=omega) only[ws,wl,wb,eqI_self]<;>omega)|omega) ?_|refine(bnd (geti hv hlt)).trans ?_|refine el ?_|refine er ?_)
  exact ih (i+1) _ (by omega) (by omega) (by first|with_reducible rfl | assumption | (simp (disch:=omega) only[ws,wl,wb]<;>omega)|omega)
theorem plain_again (y0 y1:List Rec) (w0:w_t22 y0) (w1:w_t22 y1):P_law10_SiteAgain y0 y1=some true:=by
 obtain⟨s,h1,I,R⟩:=again_p (recs_of w0)
 have hgl:=I.gl
 have hrp:=(replay_ok (x1:=s.G) ⟨by unfold maxLen;omega,R.recs⟩ (by omega)).1 R.ok
 rw[R.run] at hrp
 obtain⟨s',h2,I'⟩:=again_l0 (recs_of w1) _ 0 0 s rfl (by omega) rfl (I.le (by omega))
 have hgl':=I'.gl
 have h3:=again_l1 I' _ 0 0 rfl (by omega) rfl
 have h4:=again_l2 (s:=s') (by omega) _ 0 0 rfl (by omega) rfl
 unfold tupS at hrp
 unfold tupA at h2 h3 h4
 rw[P_law10_SiteAgain]
 repeat (first|refine ip (by first|with_reducible rfl | assumption | (simp (disch:=omega) only[ws,wl,wb,eqI_self]<;>omega)|omega) ?_|refine jn (by first|with_reducible rfl | assumption | (simp (disch:=omega) only[ws,wl,wb,eqI_self]<;>omega)|omega) ?_|refine(bnd alive_ok).trans ?_|refine(bnd h1).trans ?_|refine(bnd (log_ok I (by omega))).trans ?_|refine(bnd hrp).trans ?_|refine(bnd h2).trans ?_|refine(bnd h3).trans ?_|refine(bnd (log_ok I' (by omega))).trans ?_|refine(bnd h4).trans ?_|refine el ?_|refine er ?_)
 rfl
end Go.Ws.L10
