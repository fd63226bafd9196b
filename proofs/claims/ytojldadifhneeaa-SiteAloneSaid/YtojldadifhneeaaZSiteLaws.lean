/-
  SiteLogs, SiteOwn and SiteAlone, plainly.
  Conditions: none.
-/
import Derived.Test.YtojldadifhneeaaZSiteInv
import Derived.Test.YtojldadifhneeaaZSame
import Derived.Test.YtojldadifhneeaaZWf
import Derived.KernelRfl
set_option linter.unusedVariables false
set_option linter.unusedSimpArgs false
namespace Go.Ws.L10
open L7 L8 L9
set_option linter.unusedVariables false
set_option linter.unusedSimpArgs false
set_option maxHeartbeats 1000000
theorem alive_ok:P_law10_alive=some true:=lm_law10_alive.le 80 true (by kernel_rfl)
theorem do_some {s:St} {n:Nat} (I:Inv s n) (hn:n≤999) {r:Rec} (hr:RecOk r):P_site_Site_Do_3 r.1 r.2.1 r.2.2.1 r.2.2.2 s.L s.K s.M s.G=some ((doF s r).1,(doF s r).2.1,(doF s r).2.2.L,(doF s r).2.2.K,(doF s r).2.2.M,(doF s r).2.2.G)∧Inv (doF s r).2.2 (n+1)∧Step s r (doF s r) :=
 ⟨do_ok (I.wf (by omega)) hr,inv_step I hn hr,do_step I (by omega) hr⟩
abbrev RecsOk (l:List Rec):Prop:=l.length≤maxLen∧∀r∈l,RecOk r
theorem recs_of {l:List Rec} (h:w_t22 l):RecsOk l:=⟨h.1,fun r hr=>by
 obtain⟨_,_,h3,h4⟩:=h.2 r hr
 exact⟨h3,h4⟩⟩
theorem played_l0 {x1:List Rec} (hx:RecsOk x1):∀(d i:Nat) (v:Int) (s:St),120 - i=d→i≤120→v=(i:Int)→Inv s i→∃s',P_law10_played_l0 x1 v s.L s.K s.M s.G=some (s'.L,s'.K,s'.M,s'.G)∧Inv s' 120:=by
 have hml:=hx.1
 unfold maxLen at hml
 intro d
 induction d with
 | zero =>
  intro i v s hd hi hv I
  refine⟨s,?_,I.le hi⟩
  by_cases hlx:i<x1.length
  · rw[P_law10_played_l0_eq]
    repeat (first|refine ip (by first|with_reducible rfl | assumption | (simp (disch:=omega) only[ws,wl,wb]<;>omega)|omega) ?_|refine jn (by first|with_reducible rfl | assumption | (simp (disch:=omega) only[ws,wl,wb]<;>omega)|omega) ?_|refine el ?_|refine er ?_)
    rfl
  · rw[P_law10_played_l0_eq]
    repeat (first|refine ip (by first|with_reducible rfl | assumption | (simp (disch:=omega) only[ws,wl,wb]<;>omega)|omega) ?_|refine jn (by first|with_reducible rfl | assumption | (simp (disch:=omega) only[ws,wl,wb]<;>omega)|omega) ?_|refine el ?_|refine er ?_)
    rfl
 | succ d ih =>
  intro i v s hd hi hv I
  by_cases hlx:i<x1.length
  rotate_left
  · refine⟨s,?_,I.le hi⟩
    rw[P_law10_played_l0_eq]
    repeat (first|refine ip (by first|with_reducible rfl | assumption | (simp (disch:=omega) only[ws,wl,wb]<;>omega)|omega) ?_|refine jn (by first|with_reducible rfl | assumption | (simp (disch:=omega) only[ws,wl,wb]<;>omega)|omega) ?_|refine el ?_|refine er ?_)
    rfl
  have hr:=hx.2 _ (List.getElem_mem hlx)
  obtain⟨q1,q2,_⟩:=do_some I (by omega) hr
  obtain⟨s',r1,r2⟩:=ih (i+1) (iadd .i64 v 1) (doF s x1[i]).2.2 (by omega) (by omega) (by first|with_reducible rfl | assumption | (simp (disch:=omega) only[ws,wl,wb]<;>omega)|omega) q2
  refine⟨s',?_,r2⟩
  rw[P_law10_played_l0_eq]
  repeat (first|refine ip (by first|with_reducible rfl | assumption | (simp (disch:=omega) only[ws,wl,wb]<;>omega)|omega) ?_|refine jn (by first|with_reducible rfl | assumption | (simp (disch:=omega) only[ws,wl,wb]<;>omega)|omega) ?_|refine(bnd (geti hv hlx)).trans ?_|refine(bnd q1).trans ?_|refine el ?_|refine er ?_)
  exact r1
theorem played_ok {x1:List Rec} (hx:RecsOk x1):∃s,P_law10_played x1=some (s.L,s.K,s.M,s.G)∧Inv s 120:=by
 obtain⟨s,h1,h2⟩:=played_l0 hx _ 0 0 ⟨[],[],[],[]⟩ rfl (by omega) rfl inv_nil
 refine⟨s,?_,h2⟩
 rw[P_law10_played]
 repeat (first|refine ip (by first|with_reducible rfl | assumption | (simp (disch:=omega) only[ws,wl,wb]<;>omega)|omega) ?_|refine jn (by first|with_reducible rfl | assumption | (simp (disch:=omega) only[ws,wl,wb]<;>omega)|omega) ?_|refine(bnd h1).trans ?_|refine el ?_|refine er ?_)
 rfl
theorem clone_ok (l:List Rec) (h:l.length≤1000000):P_slices_Clone_32 l=some ():=by
 rw[P_slices_Clone_32,P_slices_Clone_32_1001]
 repeat (first|refine ip (by first|with_reducible rfl | assumption | (simp (disch:=omega) only[ws,wl,wb]<;>omega)|omega) ?_|refine jn (by first|with_reducible rfl | assumption | (simp (disch:=omega) only[ws,wl,wb]<;>omega)|omega) ?_|refine el ?_|refine er ?_)
 rfl
theorem got_mem {K K':List Ho} {k t:Int} {w:Bool} (h:Got K k t w K'):∃b,(k,t,b)∈K'∧(w=true→b=true):=by
 rcases h with⟨A,b,R,rfl,rfl⟩ | ⟨A,R,rfl,_,_,rfl⟩
 · exact⟨b || w,by simp,fun h=>by simp [h]⟩
 · exact⟨w,by simp,fun h=>h⟩
theorem read_ok {s:St} {t k n:Int} {p:Pt} (t0:0≤t) (t1:t<1000) (hk:k<64) (hg:mGet s.M t=some p) (h0:p.1=0) (hc:¬Conf s.K k t false):doF s (2,t,k,n)=(0,W64 (tot s.L k+tot p.2.1 k),⟨s.L,takeF s.K t k false,s.M,s.G++[(2,t,k,n)]⟩):=by
 have e:stepF s p (2,t,k,n)=(0,W64 (tot s.L k+tot p.2.1 k),⟨s.L,takeF s.K t k false,s.M,s.G⟩):=by
  unfold stepF
  rw[if_pos (.inl rfl)]
  unfold accF
  rw[if_neg (fun h=>h h0),if_neg (fun h=>h hk),if_neg (by simpa using hc),if_neg (by simp)]
 unfold doF
 simp only
 rw[if_neg (by omega),hg]
 simp only
 rw[if_neg (by decide),e]
 rfl
theorem Step.ok_add {s:St} {t k n:Int} {q:Res} (h:Step s (3,t,k,n) q) (hq:q.1=0):∃p,0≤t∧t<1000∧mGet s.M t=some p∧p.1=0∧0≤k∧k<64∧¬Conf s.K k t true∧Got s.K k t true (takeF s.K t k true)∧q=(0,0,⟨s.L,takeF s.K t k true,mPut s.M t (p.1,p.2.1++[(k,n)],p.2.2.1,p.2.2.2),s.G++[(3,t,k,n)]⟩):=by
 cases h with
 | err r e he=>exact absurd hq he
 | add t k n p a b c d e f g h i j=>exact⟨p,a,b,c,d,e,f,h,i,rfl⟩
theorem recOk {a t k n:Int} (hk:0≤k∧k≤255) (hn:InR n):RecOk (a,t,k,n):=⟨hk,hn⟩
theorem part_ok {s:St} {n:Nat} (I:Inv s n) (t:Int):P_site_Site_Part t s.L s.K s.M s.G=some (match mGet s.M t with | some p=>(p.1,p.2.2.1,p.2.2.2,p.2.1,true) | none=>(0,false,0,[],false)):=by
 rw[P_site_Site_Part]
 cases hg:mGet s.M t with
 | none =>
  have hh:¬mHas s.M t=true:=by rw[has_f hg];simp
  repeat (first|refine ip (by first|with_reducible rfl | assumption | (simp (disch:=omega) only[ws,wl,wb]<;>omega)|omega) ?_|refine jn (by first|with_reducible rfl | assumption | (simp (disch:=omega) only[ws,wl,wb]<;>omega)|omega) ?_|refine(bnd (L9.clone_ok [] (by simp))).trans ?_|refine el ?_|refine er ?_)
  rfl
 | some p =>
  have hh:=has_t hg
  have:=(I.pt t p hg).1.1.2.1
  repeat (first|refine ip (by first|with_reducible rfl | assumption | (simp (disch:=omega) only[ws,wl,wb]<;>omega)|omega) ?_|refine jn (by first|with_reducible rfl | assumption | (simp (disch:=omega) only[ws,wl,wb]<;>omega)|omega) ?_|refine(bnd hg).trans ?_|refine(bnd (L9.clone_ok p.2.1 (by omega))).trans ?_|refine el ?_|refine er ?_)
  rfl
theorem conf_no {s:St} {a t k n:Int} {p:Pt} (ha:a=2∨a=3) (t0:0≤t) (t1:t<1000) (hk:k<64) (hg:mGet s.M t=some p) (h0:p.1=0) (hc:Conf s.K k t (decide (a=3))):doF s (a,t,k,n)=(9,0,s):=by
 have e:stepF s p (a,t,k,n)=(9,0,s):=by
  unfold stepF
  rw[if_pos ha]
  unfold accF
  rw[if_neg (fun h=>h h0),if_neg (fun h=>h hk),if_pos hc]
 unfold doF
 simp only
 rw[if_neg (by omega),hg]
 simp only
 rw[if_neg (by omega),e,if_neg (by simp)]
theorem abort_ok {s:St} {t k:Int} {p:Pt} (t0:0≤t) (t1:t<1000) (hg:mGet s.M t=some p) (h0:p.1=0):doF s (6,t,k,2)=(0,0,⟨ofL (s.L++dec p.2.1 p.2.2.1 2),freeL s.K t,mPut s.M t (3,p.2.1,p.2.2.1,2),s.G++[(6,t,k,2)]⟩):=by
 have e:stepF s p (6,t,k,2)=(0,0,⟨ofL (s.L++dec p.2.1 p.2.2.1 2),freeL s.K t,mPut s.M t (3,p.2.1,p.2.2.1,2),s.G⟩):=by
  unfold stepF
  rw[if_neg (by simp)]
  unfold endF
  dsimp only
  rw[if_neg (by decide),if_neg (by decide),if_pos (.inr rfl),if_pos ⟨by omega,fun h=>by omega⟩]
 unfold doF
 simp only
 rw[if_neg (by omega),hg]
 simp only
 rw[if_neg (by decide),e,if_pos rfl]
theorem plain_alone (y0:List Rec) (a b k:Int) (w0:w_t22 y0) (w1:w_t60 (a,b,k)):P_law10_SiteAlone y0 a b k=some true:=by
 obtain⟨s,h1,I⟩:=played_ok (recs_of w0)
 obtain⟨ha,hb,hk⟩:(0≤a∧a≤255)∧(0≤b∧b≤255)∧(0≤k∧k≤255):=w1
 have hca:conv .i64 a=a:=conv64 (by omega)
 have hcb:conv .i64 b=b:=conv64 (by omega)
 have pa:=part_ok I a
 have pb:=part_ok I b
 rw[P_law10_SiteAlone]
 simp only[hca,hcb,P_do4,P_do5,P_do6,P_do7]
 cases hga:mGet s.M a with
 | none =>
  rw[hga] at pa
  repeat (first|refine ip (by first|with_reducible rfl | assumption | (simp (disch:=omega) only[ws,wl,wb]<;>omega)|omega) ?_|refine jn (by first|with_reducible rfl | assumption | (simp (disch:=omega) only[ws,wl,wb]<;>omega)|omega) ?_|refine(bnd alive_ok).trans ?_|refine(bnd h1).trans ?_|refine(bnd pa).trans ?_|refine(bnd pb).trans ?_|refine el ?_|refine er ?_)
  rfl
 | some p =>
 cases hgb:mGet s.M b with
 | none =>
  rw[hgb] at pb
  rw[hga] at pa
  repeat (first|refine ip (by first|with_reducible rfl | assumption | (simp (disch:=omega) only[ws,wl,wb]<;>omega)|omega) ?_|refine jn (by first|with_reducible rfl | assumption | (simp (disch:=omega) only[ws,wl,wb]<;>omega)|omega) ?_|refine(bnd alive_ok).trans ?_|refine(bnd h1).trans ?_|refine(bnd pa).trans ?_|refine(bnd pb).trans ?_|refine el ?_|refine er ?_)
  rfl
 | some q =>
 rw[hgb] at pb
 rw[hga] at pa
 simp only at pa pb
 by_cases hab:a=b
 · repeat (first|refine ip (by first|with_reducible rfl | assumption | (simp (disch:=omega) only[ws,wl,wb]<;>omega)|omega) ?_|refine jn (by first|with_reducible rfl | assumption | (simp (disch:=omega) only[ws,wl,wb]<;>omega)|omega) ?_|refine(bnd alive_ok).trans ?_|refine(bnd h1).trans ?_|refine(bnd pa).trans ?_|refine(bnd pb).trans ?_|refine el ?_|refine er ?_)
   rfl
 by_cases hp:p.1=0
 rotate_left
 · repeat (first|refine ip (by first|with_reducible rfl | assumption | (simp (disch:=omega) only[ws,wl,wb]<;>omega)|omega) ?_|refine jn (by first|with_reducible rfl | assumption | (simp (disch:=omega) only[ws,wl,wb]<;>omega)|omega) ?_|refine(bnd alive_ok).trans ?_|refine(bnd h1).trans ?_|refine(bnd pa).trans ?_|refine(bnd pb).trans ?_|refine el ?_|refine er ?_)
   rfl
 by_cases hq:q.1=0
 rotate_left
 · repeat (first|refine ip (by first|with_reducible rfl | assumption | (simp (disch:=omega) only[ws,wl,wb]<;>omega)|omega) ?_|refine jn (by first|with_reducible rfl | assumption | (simp (disch:=omega) only[ws,wl,wb]<;>omega)|omega) ?_|refine(bnd alive_ok).trans ?_|refine(bnd h1).trans ?_|refine(bnd pa).trans ?_|refine(bnd pb).trans ?_|refine el ?_|refine er ?_)
   rfl
 obtain⟨a1,a2,a3⟩:=do_some I (by omega) (recOk (a:=3) (t:=a) hk (n:=1) (by decide))
 generalize hq1:doF s (3,a,k,1)=q1 at a1 a2 a3
 by_cases h0:q1.1=0
 rotate_left
 · repeat (first|refine ip (by first|with_reducible rfl | assumption | (simp (disch:=omega) only[ws,wl,wb]<;>omega)|omega) ?_|refine jn (by first|with_reducible rfl | assumption | (simp (disch:=omega) only[ws,wl,wb]<;>omega)|omega) ?_|refine(bnd alive_ok).trans ?_|refine(bnd h1).trans ?_|refine(bnd pa).trans ?_|refine(bnd pb).trans ?_|refine(bnd a1).trans ?_|refine el ?_|refine er ?_)
   rfl
 obtain⟨p',t0,t1,hg',hp',hk0,h64,hc,hgot,rfl⟩:=a3.ok_add h0
 rw[hga] at hg'
 cases hg'
 obtain⟨w,hw,hwt⟩:=got_mem hgot
 have hwt:=hwt rfl
 subst hwt
 simp only at a1 a2
 have hb1:b<1000:=(I.pt b q hgb).2.2
 have conf:∀w,Conf (takeF s.K a k true) k b w:=fun w=>⟨_,hw,rfl,hab,.inr rfl⟩
 obtain⟨s1,hs1⟩:∃s1:St,s1=⟨s.L,takeF s.K a k true,mPut s.M a (p.1,p.2.1++[(k,1)],p.2.2.1,p.2.2.2),s.G++[(3,a,k,1)]⟩:=⟨_,rfl⟩
 rw[← hs1] at a2
 have gb:mGet s1.M b=some q:=by rw[hs1];simp only;rw[mGet_put,if_neg (by omega)];exact hgb
 have ga:mGet s1.M a=some (p.1,p.2.1++[(k,1)],p.2.2.1,p.2.2.2):=by rw[hs1];simp only;rw[mGet_put,if_pos rfl]
 have cf:∀w,Conf s1.K k b w:=by rw[hs1];exact conf
 have hm1:(k,a,true)∈s1.K:=by rw[hs1];exact hw
 have b1:=(do_some a2 (by omega) (recOk (a:=2) (t:=b) hk (n:=0) (by decide))).1
 rw[conf_no (.inl rfl) hb.1 hb1 h64 gb hq (cf _)] at b1
 have c1:=(do_some a2 (by omega) (recOk (a:=3) (t:=b) hk (n:=1) (by decide))).1
 rw[conf_no (.inr rfl) hb.1 hb1 h64 gb hq (cf _)] at c1
 obtain⟨d1,d2,_⟩:=do_some a2 (by omega) (recOk (a:=6) (t:=a) (k:=0) (n:=2) (by decide) (by decide))
 rw[abort_ok t0 t1 ga hp] at d1 d2
 simp only at b1 c1 d1 d2
 have nc:¬Conf (freeL s1.K a) k b false:=fun ⟨x,hx,x1,x2,x3⟩=>by
  obtain⟨y1,y2⟩:=freeL_mem.1 hx
  have h1:=a2.lk.2.2 x y1 _ hm1 x1 y2
  rw[h1] at x3
  simp at x3
 have e1:=(do_some d2 (by omega) (recOk (a:=2) (t:=b) hk (n:=0) (by decide))).1
 rw[read_ok hb.1 hb1 h64 (p:=q) (by simp only;rw[mGet_put,if_neg (by omega)];exact gb) hq nc] at e1
 simp only at e1
 rw[hs1] at b1 c1 d1 e1
 simp only at b1 c1 d1 e1
 repeat (first|refine ip (by first|with_reducible rfl | assumption | (simp (disch:=omega) only[ws,wl,wb]<;>omega)|omega) ?_|refine jn (by first|with_reducible rfl | assumption | (simp (disch:=omega) only[ws,wl,wb]<;>omega)|omega) ?_|refine(bnd alive_ok).trans ?_|refine(bnd h1).trans ?_|refine(bnd pa).trans ?_|refine(bnd pb).trans ?_|refine(bnd a1).trans ?_|refine(bnd b1).trans ?_|refine(bnd c1).trans ?_|refine(bnd d1).trans ?_|refine(bnd e1).trans ?_|refine el ?_|refine er ?_)
 rfl
end Go.Ws.L10
