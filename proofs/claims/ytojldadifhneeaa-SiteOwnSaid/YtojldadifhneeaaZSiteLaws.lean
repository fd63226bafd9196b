/-
  SiteLogs, SiteOwn and SiteAlone, plainly.
  Conditions: none.
-/
import Derived.Test.YtojldadifhneeaaZSiteInv
import Derived.Test.YtojldadifhneeaaZSame
import Derived.Test.YtojldadifhneeaaZWf
import Derived.KernelRfl
set_option linter.unusedVariables false
set_option linter.unusedSimpArgs false
namespace Go.Ws.L10
open L7 L8 L9
set_option linter.unusedVariables false
set_option linter.unusedSimpArgs false
set_option maxHeartbeats 1000000
theorem alive_ok:P_law10_alive=some true:=lm_law10_alive.le 80 true (by kernel_rfl)
theorem do_some {s:St} {n:Nat} (I:Inv s n) (hn:n≤999) {r:Rec} (hr:RecOk r):P_site_Site_Do_3 r.1 r.2.1 r.2.2.1 r.2.2.2 s.L s.K s.M s.G=some ((doF s r).1,(doF s r).2.1,(doF s r).2.2.L,(doF s r).2.2.K,(doF s r).2.2.M,(doF s r).2.2.G)∧Inv (doF s r).2.2 (n + 1)∧Step s r (doF s r) :=
  ⟨do_ok (I.wf (by omega)) hr,inv_step I hn hr,do_step I (by omega) hr⟩
abbrev RecsOk (l:List Rec):Prop:=l.length≤maxLen∧∀ r ∈ l,RecOk r
theorem recs_of {l:List Rec} (h:w_t22 l):RecsOk l:=⟨h.1,fun r hr=>by
  obtain ⟨_,_,h3,h4⟩:=h.2 r hr
  exact ⟨h3,h4⟩⟩
theorem played_l0 {x1:List Rec} (hx:RecsOk x1):∀ (d i:Nat) (v:Int) (s:St),120 - i=d→i≤120→v=(i:Int)→Inv s i→∃ s',P_law10_played_l0 x1 v s.L s.K s.M s.G=some (s'.L,s'.K,s'.M,s'.G)∧Inv s' 120:=by
  have hml:=hx.1
  unfold maxLen at hml
  intro d
  induction d with
  | zero =>
    intro i v s hd hi hv I
    refine ⟨s,?_,I.le hi⟩
    by_cases hlx:i<x1.length
    · rw [P_law10_played_l0_eq]
      repeat (first | refine ip (by first | with_reducible rfl | assumption | (simp (disch:=omega) only [ws,wl,wb] <;> omega) | omega) ?_ | refine jn (by first | with_reducible rfl | assumption | (simp (disch:=omega) only [ws,wl,wb] <;> omega) | omega) ?_ | refine el ?_ | refine er ?_)
      rfl
    · rw [P_law10_played_l0_eq]
      repeat (first | refine ip (by first | with_reducible rfl | assumption | (simp (disch:=omega) only [ws,wl,wb] <;> omega) | omega) ?_ | refine jn (by first | with_reducible rfl | assumption | (simp (disch:=omega) only [ws,wl,wb] <;> omega) | omega) ?_ | refine el ?_ | refine er ?_)
      rfl
  | succ d ih =>
    intro i v s hd hi hv I
    by_cases hlx:i<x1.length
    rotate_left
    · refine ⟨s,?_,I.le hi⟩
      rw [P_law10_played_l0_eq]
      repeat (first | refine ip (by first | with_reducible rfl | assumption | (simp (disch:=omega) only [ws,wl,wb] <;> omega) | omega) ?_ | refine jn (by first | with_reducible rfl | assumption | (simp (disch:=omega) only [ws,wl,wb] <;> omega) | omega) ?_ | refine el ?_ | refine er ?_)
      rfl
    have hr:=hx.2 _ (List.getElem_mem hlx)
    obtain ⟨q1,q2,_⟩:=do_some I (by omega) hr
    obtain ⟨s',r1,r2⟩:=ih (i + 1) (iadd .i64 v 1) (doF s x1[i]).2.2 (by omega) (by omega) (by first | with_reducible rfl | assumption | (simp (disch:=omega) only [ws,wl,wb] <;> omega) | omega) q2
    refine ⟨s',?_,r2⟩
    rw [P_law10_played_l0_eq]
    repeat (first | refine ip (by first | with_reducible rfl | assumption | (simp (disch:=omega) only [ws,wl,wb] <;> omega) | omega) ?_ | refine jn (by first | with_reducible rfl | assumption | (simp (disch:=omega) only [ws,wl,wb] <;> omega) | omega) ?_ | refine (bnd (geti hv hlx)).trans ?_ | refine (bnd q1).trans ?_ | refine el ?_ | refine er ?_)
    exact r1
theorem played_ok {x1:List Rec} (hx:RecsOk x1):∃ s,P_law10_played x1=some (s.L,s.K,s.M,s.G)∧Inv s 120:=by
  obtain ⟨s,h1,h2⟩:=played_l0 hx _ 0 0 ⟨[],[],[],[]⟩ rfl (by omega) rfl inv_nil
  refine ⟨s,?_,h2⟩
  rw [P_law10_played]
  repeat (first | refine ip (by first | with_reducible rfl | assumption | (simp (disch:=omega) only [ws,wl,wb] <;> omega) | omega) ?_ | refine jn (by first | with_reducible rfl | assumption | (simp (disch:=omega) only [ws,wl,wb] <;> omega) | omega) ?_ | refine (bnd h1).trans ?_ | refine el ?_ | refine er ?_)
  rfl
theorem Step.log {s:St} {r:Rec} {q:Res} (h:Step s r q):(q.1=0∧q.2.2.G=s.G++[r])∨(q.1 ≠ 0∧q=(q.1,0,s)):=by
  cases h with
  | err r e he=>exact .inr ⟨he,rfl⟩
  | _=>exact .inl ⟨rfl,rfl⟩
theorem clone_ok (l:List Rec) (h:l.length≤1000000):P_slices_Clone_32 l=some ():=by
  rw [P_slices_Clone_32,P_slices_Clone_32_1001]
  repeat (first | refine ip (by first | with_reducible rfl | assumption | (simp (disch:=omega) only [ws,wl,wb] <;> omega) | omega) ?_ | refine jn (by first | with_reducible rfl | assumption | (simp (disch:=omega) only [ws,wl,wb] <;> omega) | omega) ?_ | refine el ?_ | refine er ?_)
  rfl
theorem noconf {K:List Ho} {k t:Int} {b:Bool} (h:Lk K) (hm:(k,t,b) ∈ K):¬ Conf K k t false:=fun ⟨x,hx,h1,h2,h3⟩=>by
  have:=h.2.2 x hx _ hm h1 h2
  rw [this] at h3
  simp at h3
theorem got_mem {K K':List Ho} {k t:Int} {w:Bool} (h:Got K k t w K'):∃ b,(k,t,b) ∈ K'∧(w=true→b=true):=by
  rcases h with ⟨A,b,R,rfl,rfl⟩ | ⟨A,R,rfl,_,_,rfl⟩
  · exact ⟨b || w,by simp,fun h=>by simp [h]⟩
  · exact ⟨w,by simp,fun h=>h⟩
theorem read_ok {s:St} {t k n:Int} {p:Pt} (t0:0≤t) (t1:t<1000) (hk:k<64) (hg:mGet s.M t=some p) (h0:p.1=0) (hc:¬ Conf s.K k t false):doF s (2,t,k,n)=(0,W64 (tot s.L k + tot p.2.1 k),⟨s.L,takeF s.K t k false,s.M,s.G++[(2,t,k,n)]⟩):=by
  have e:stepF s p (2,t,k,n)=(0,W64 (tot s.L k + tot p.2.1 k),⟨s.L,takeF s.K t k false,s.M,s.G⟩):=by
    unfold stepF
    rw [if_pos (.inl rfl)]
    unfold accF
    rw [if_neg (fun h=>h h0),if_neg (fun h=>h hk),if_neg (by simpa using hc),if_neg (by simp)]
  unfold doF
  simp only
  rw [if_neg (by omega),hg]
  simp only
  rw [if_neg (by decide),e]
  rfl
theorem Step.ok_read {s:St} {t k n:Int} {q:Res} (h:Step s (2,t,k,n) q) (hq:q.1=0):∃ p,0≤t∧t<1000∧mGet s.M t=some p∧p.1=0∧0≤k∧k<64∧¬ Conf s.K k t false∧Got s.K k t false (takeF s.K t k false)∧q=(0,W64 (tot s.L k + tot p.2.1 k),⟨s.L,takeF s.K t k false,s.M,s.G++[(2,t,k,n)]⟩):=by
  cases h with
  | err r e he=>exact absurd hq he
  | read t k n p a b c d e f g h=>exact ⟨p,a,b,c,d,e,f,g,h,rfl⟩
theorem Step.bad {s:St} {r:Rec} {q:Res} (h:Step s r q) (hq:q.1 ≠ 0):q=(q.1,0,s):=by
  rcases h.log with ⟨h,_⟩ | ⟨_,h⟩
  · exact absurd h hq
  · exact h
theorem Step.ok_add {s:St} {t k n:Int} {q:Res} (h:Step s (3,t,k,n) q) (hq:q.1=0):∃ p,0≤t∧t<1000∧mGet s.M t=some p∧p.1=0∧0≤k∧k<64∧¬ Conf s.K k t true∧Got s.K k t true (takeF s.K t k true)∧q=(0,0,⟨s.L,takeF s.K t k true,mPut s.M t (p.1,p.2.1++[(k,n)],p.2.2.1,p.2.2.2),s.G++[(3,t,k,n)]⟩):=by
  cases h with
  | err r e he=>exact absurd hq he
  | add t k n p a b c d e f g h i j=>exact ⟨p,a,b,c,d,e,f,h,i,rfl⟩
theorem recOk {a t k n:Int} (hk:0≤k∧k≤255) (hn:InR n):RecOk (a,t,k,n):=⟨hk,hn⟩
theorem plain_own (y0:List Rec) (t k n:Int) (w0:w_t22 y0) (w1:w_t46 (t,k)) (w2:w_t2 n):P_law10_SiteOwn y0 t k n=some true:=by
  obtain ⟨s,h1,I⟩:=played_ok (recs_of w0)
  obtain ⟨ht,hk⟩:(0≤t∧t≤255)∧(0≤k∧k≤255):=w1
  have hn:InR n:=w2
  have hct:conv .i64 t=t:=conv64 (by omega)
  obtain ⟨a1,a2,a3⟩:=do_some I (by omega) (recOk (a:=2) (t:=t) hk (n:=0) (by decide))
  generalize hq:doF s (2,t,k,0)=q at a1 a2 a3
  rw [P_law10_SiteOwn]
  simp only [hct,P_do4,P_do5]
  by_cases h0:q.1=0
  rotate_left
  · have hb:=a3.bad h0
    have h2:q.2.1=0:=by rw [hb]
    repeat (first | refine ip (by first | with_reducible rfl | assumption | (simp (disch:=omega) only [ws,wl,wb] <;> omega) | omega) ?_ | refine jn (by first | with_reducible rfl | assumption | (simp (disch:=omega) only [ws,wl,wb] <;> omega) | omega) ?_ | refine (bnd alive_ok).trans ?_ | refine (bnd h1).trans ?_ | refine (bnd a1).trans ?_ | refine el ?_ | refine er ?_)
    rw [h2]; rfl
  obtain ⟨p,t0,t1,hg,hp0,hk0,h64,hc,hgot,rfl⟩:=a3.ok_read h0
  obtain ⟨b,hbm,_⟩:=got_mem hgot
  simp only at a1 a2
  obtain ⟨b1,b2,b3⟩:=do_some a2 (by omega) (recOk (a:=3) (t:=t) hk hn)
  generalize hq2:doF _ (3,t,k,n)=q2 at b1 b2 b3
  by_cases h2:q2.1=0
  · obtain ⟨p2,_,_,hg2,hp2,_,_,hc2,hgot2,rfl⟩:=b3.ok_add h2
    simp only at hg2
    rw [hg] at hg2
    cases hg2
    obtain ⟨b',hbm',_⟩:=got_mem hgot2
    simp only at b1 b2 hbm' hq2
    obtain ⟨c1,c2,c3⟩:=do_some b2 (by omega) (recOk (a:=2) (t:=t) hk (n:=0) (by decide))
    have hr:=read_ok (p:=(p.1,p.2.1++[(k,n)],p.2.2.1,p.2.2.2)) (n:=0) (s:=⟨s.L,takeF (takeF s.K t k false) t k true,mPut s.M t (p.1,p.2.1++[(k,n)],p.2.2.1,p.2.2.2),s.G++[(2,t,k,0)]++[(3,t,k,n)]⟩) t0 t1 h64 (by simp only; rw [mGet_put,if_pos rfl]) hp0 (noconf b2.lk hbm')
    rw [hr] at c1
    simp only at c1
    have e:iadd .i64 (W64 (tot s.L k + tot p.2.1 k)) n=W64 (tot s.L k + tot (p.2.1++[(k,n)]) k):=by
      rw [tot_app,tot_cons,if_pos rfl,tot_nil]
      refine (w64_addl _ _).trans ?_
      congr 1; omega
    repeat (first | refine ip (by first | with_reducible rfl | assumption | (simp (disch:=omega) only [ws,wl,wb] <;> omega) | omega) ?_ | refine jn (by first | with_reducible rfl | assumption | (simp (disch:=omega) only [ws,wl,wb] <;> omega) | omega) ?_ | refine (bnd alive_ok).trans ?_ | refine (bnd h1).trans ?_ | refine (bnd a1).trans ?_ | refine (bnd b1).trans ?_ | refine (bnd c1).trans ?_ | refine el ?_ | refine er ?_)
    rw [e,eqI_self]
  · have hb:=b3.bad h2
    rw [hb] at b2
    simp only at b2
    obtain ⟨c1,c2,c3⟩:=do_some b2 (by omega) (recOk (a:=2) (t:=t) hk (n:=0) (by decide))
    have hr:=read_ok (n:=0) (s:=⟨s.L,takeF s.K t k false,s.M,s.G++[(2,t,k,0)]⟩) t0 t1 h64 hg hp0 (noconf b2.lk hbm)
    rw [hr] at c1
    simp only at c1
    rw [hb] at b1
    simp only at b1
    repeat (first | refine ip (by first | with_reducible rfl | assumption | (simp (disch:=omega) only [ws,wl,wb] <;> omega) | omega) ?_ | refine jn (by first | with_reducible rfl | assumption | (simp (disch:=omega) only [ws,wl,wb] <;> omega) | omega) ?_ | refine (bnd alive_ok).trans ?_ | refine (bnd h1).trans ?_ | refine (bnd a1).trans ?_ | refine (bnd b1).trans ?_ | refine (bnd c1).trans ?_ | refine el ?_ | refine er ?_)
    rw [eqI_self]
end Go.Ws.L10
