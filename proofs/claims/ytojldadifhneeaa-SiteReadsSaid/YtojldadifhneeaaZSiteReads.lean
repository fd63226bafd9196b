/-
  SiteReads, plainly.
  Conditions: none.
-/
import Derived.Test.YtojldadifhneeaaZSiteLaws
set_option linter.unusedVariables false
set_option linter.unusedSimpArgs false
namespace Go.Ws.L10
open L7 L8 L9
set_option linter.unusedVariables false
set_option linter.unusedSimpArgs false
set_option maxHeartbeats 1000000
def Stable (s:St) (a k:Int) (p:Pt) (u:Int):Prop:=mGet s.M a=some p∧(∃ b,(k,a,b) ∈ s.K)∧sumK s.L k=u
theorem got_keep' {K K':List Ho} {k t j a:Int} {w b:Bool} (h:Got K j t w K') (hx:(k,a,b) ∈ K):∃ b',(k,a,b') ∈ K':=by
  rcases got_keep h hx with h | ⟨h1,h2,_,h4⟩
  · exact ⟨b,h⟩
  · simp only at h1 h2
    subst h1 h2
    exact ⟨w,h4⟩
theorem tot_zero_of {s:St} {n:Nat} (I:Inv s n) {a k t:Int} {p':Pt} (hta:t ≠ a) (hh:∃ b,(k,a,b) ∈ s.K) (hg:mGet s.M t=some p') (h1:p'.1=0∨p'.1=1) (hc:p'.2.2.1=false):tot p'.2.1 k=0:=by
  obtain ⟨b,hb⟩:=hh
  refine tot_none fun d hd he=>?_
  have:=I.lk.2.2 _ (I.own t p' hg h1 hc d hd) _ hb he hta
  simp at this
theorem stable_step {s:St} {n:Nat} (I:Inv s n) {a k u:Int} {p:Pt} (hk:0≤k∧k<64) (S:Stable s a k p u) {r:Rec} {q:Res} (h:Step s r q) (h1:r.2.1=a→r.1=2) (h2:r.1=6→∀ p',mGet s.M r.2.1=some p'→p'.2.2.1=false):Stable q.2.2 a k p u:=by
  obtain ⟨S1,⟨b,S2⟩,S3⟩:=S
  have fr:∀ t:Int,t ≠ a→∃ b,(k,a,b) ∈ freeL s.K t:=fun t ht=>⟨b,freeL_mem.2 ⟨S2,fun h=>ht h.symm⟩⟩
  cases h with
  | err r e he=>exact ⟨S1,⟨b,S2⟩,S3⟩
  | begin t j x t0 t1 hg =>
    have hta:t ≠ a:=fun h=>by subst h; rw [S1] at hg; cases hg
    exact ⟨by simp only; rw [mGet_put,if_neg (by omega)]; exact S1,⟨b,S2⟩,S3⟩
  | read t j x p' t0 t1 hg h0 hk0 h64 hc hgot=>exact ⟨S1,got_keep' hgot S2,S3⟩
  | add t j x p' t0 t1 hg h0 hk0 h64 hx hc hgot h5 =>
    have hta:t ≠ a:=fun h=>by have:=h1 h; simp at this
    exact ⟨by simp only; rw [mGet_put,if_neg (by omega)]; exact S1,got_keep' hgot S2,S3⟩
  | vote t j x p' t0 t1 hg h0 =>
    have hta:t ≠ a:=fun h=>by have:=h1 h; simp at this
    refine ⟨by simp only; rw [mGet_put,if_neg (by omega)]; exact S1,?_,S3⟩
    simp only
    split
    · exact fr t hta
    · exact ⟨b,S2⟩
  | loc t j x p' t0 t1 hg hp1 hf =>
    have hta:t ≠ a:=fun h=>by have:=h1 h; simp at this
    refine ⟨by simp only; rw [mGet_put,if_neg (by omega)]; exact S1,fr t hta,?_⟩
    have hz:=tot_zero_of I hta ⟨b,S2⟩ hg (.inr hp1) hf
    rw [← S3]
    simp only
    rw [ofL_sum _ _ hk.1 hk.2]
    unfold sumK
    rw [tot_app,hz,Int.add_zero]
  | dec1 t j x p' t0 t1 hg hx h3 hp1 =>
    have hta:t ≠ a:=fun h=>by have:=h1 h; simp at this
    refine ⟨by simp only; rw [mGet_put,if_neg (by omega)]; exact S1,fr t hta,?_⟩
    have hf:=h2 rfl p' hg
    rw [← S3]
    simp only
    rw [ofL_sum _ _ hk.1 hk.2,hf]
    unfold sumK
    rw [tot_app]
    rcases hx with rfl | rfl
    · have e3:dec p'.2.1 false 1=p'.2.1:=by unfold dec; rw [if_pos rfl,if_neg (by simp)]
      rw [e3,tot_zero_of I hta ⟨b,S2⟩ hg (.inr (hp1 rfl)) hf,Int.add_zero]
    · have e3:dec p'.2.1 false 2=[]:=by unfold dec; rw [if_neg (by omega),if_neg (by simp)]
      rw [e3,tot_nil,Int.add_zero]
  | dec2 t j x p' t0 t1 hg hx h3 ho =>
    have hta:t ≠ a:=fun h=>by have:=h1 h; simp at this
    exact ⟨by simp only; rw [mGet_put,if_neg (by omega)]; exact S1,fr t hta,S3⟩
theorem reads_l0 {x2:List Rec} (hx:RecsOk x2) {t x4:Int} (ht:0≤t∧t≤255) {x7:Int × Int × Dl × List Ho × List (Int × Pt) × List Rec} {k u:Int} {p:Pt} (hk:0≤k∧k<64):∀ (d i:Nat) (v:Int) (s:St),120 - i=d→i≤120→v=(i:Int)→Inv s (121 + i)→Stable s t k p u→∃ s',P_law10_SiteReads_l0 x2 t x4 x7 v s.L s.K s.M s.G=some (s'.L,s'.K,s'.M,s'.G)∧Inv s' 241∧Stable s' t k p u:=by
  have hml:=hx.1
  unfold maxLen at hml
  have hct:conv .i64 t=t:=conv64 (by omega)
  intro d
  induction d with
  | zero =>
    intro i v s hd hi hv I S
    refine ⟨s,?_,I.le (by omega),S⟩
    by_cases hlx:i<x2.length
    · rw [P_law10_SiteReads_l0_eq]
      repeat (first | refine ip (by first | with_reducible rfl | assumption | (simp (disch:=omega) only [ws,wl,wb] <;> omega) | omega) ?_ | refine jn (by first | with_reducible rfl | assumption | (simp (disch:=omega) only [ws,wl,wb] <;> omega) | omega) ?_ | refine el ?_ | refine er ?_)
      rfl
    · rw [P_law10_SiteReads_l0_eq]
      repeat (first | refine ip (by first | with_reducible rfl | assumption | (simp (disch:=omega) only [ws,wl,wb] <;> omega) | omega) ?_ | refine jn (by first | with_reducible rfl | assumption | (simp (disch:=omega) only [ws,wl,wb] <;> omega) | omega) ?_ | refine el ?_ | refine er ?_)
      rfl
  | succ d ih =>
    intro i v s hd hi hv I S
    by_cases hlx:i<x2.length
    rotate_left
    · refine ⟨s,?_,I.le (by omega),S⟩
      rw [P_law10_SiteReads_l0_eq]
      repeat (first | refine ip (by first | with_reducible rfl | assumption | (simp (disch:=omega) only [ws,wl,wb] <;> omega) | omega) ?_ | refine jn (by first | with_reducible rfl | assumption | (simp (disch:=omega) only [ws,wl,wb] <;> omega) | omega) ?_ | refine el ?_ | refine er ?_)
      rfl
    have hr:=hx.2 _ (List.getElem_mem hlx)
    have skip:∃ s',P_law10_SiteReads_l0 x2 t x4 x7 (iadd .i64 v 1) s.L s.K s.M s.G=some (s'.L,s'.K,s'.M,s'.G)∧Inv s' 241∧Stable s' t k p u:=ih (i + 1) (iadd .i64 v 1) s (by omega) (by omega) (by first | with_reducible rfl | assumption | (simp (disch:=omega) only [ws,wl,wb] <;> omega) | omega) (I.le (by omega)) S
    obtain ⟨q1,q2,q3⟩:=do_some I (by omega) hr
    have go:(x2[i].2.1=t→x2[i].1=2)→(x2[i].1=6→∀ p',mGet s.M x2[i].2.1=some p'→p'.2.2.1=false)→∃ s',P_law10_SiteReads_l0 x2 t x4 x7 (iadd .i64 v 1) (doF s x2[i]).2.2.L (doF s x2[i]).2.2.K (doF s x2[i]).2.2.M (doF s x2[i]).2.2.G=some (s'.L,s'.K,s'.M,s'.G)∧Inv s' 241∧Stable s' t k p u:=fun h1 h2=>ih (i + 1) (iadd .i64 v 1) (doF s x2[i]).2.2 (by omega) (by omega) (by first | with_reducible rfl | assumption | (simp (disch:=omega) only [ws,wl,wb] <;> omega) | omega) q2 (stable_step I hk S q3 h1 h2)
    obtain ⟨pv,hp,hpv⟩:∃ pv,P_site_Site_Part x2[i].2.1 s.L s.K s.M s.G=some pv∧∀ p',mGet s.M x2[i].2.1=some p'→pv.2.1=p'.2.2.1:=⟨_,part_ok I _,fun p' h=>by rw [h]⟩
    by_cases ht2:x2[i].2.1=t
    · by_cases h2:x2[i].1=2
      · obtain ⟨s',r1,r2⟩:=go (fun _=>h2) (fun h=>by omega)
        refine ⟨s',?_,r2⟩
        rw [P_law10_SiteReads_l0_eq,hct]
        repeat (first | refine ip (by first | with_reducible rfl | assumption | (simp (disch:=omega) only [ws,wl,wb] <;> omega) | omega) ?_ | refine jn (by first | with_reducible rfl | assumption | (simp (disch:=omega) only [ws,wl,wb] <;> omega) | omega) ?_ | refine (bnd (geti hv hlx)).trans ?_ | refine (bnd hp).trans ?_ | refine (bnd q1).trans ?_ | refine el ?_ | refine er ?_)
        exact r1
      · obtain ⟨s',r1,r2⟩:=skip
        refine ⟨s',?_,r2⟩
        rw [P_law10_SiteReads_l0_eq,hct]
        repeat (first | refine ip (by first | with_reducible rfl | assumption | (simp (disch:=omega) only [ws,wl,wb] <;> omega) | omega) ?_ | refine jn (by first | with_reducible rfl | assumption | (simp (disch:=omega) only [ws,wl,wb] <;> omega) | omega) ?_ | refine (bnd (geti hv hlx)).trans ?_ | refine (bnd hp).trans ?_ | refine el ?_ | refine er ?_)
        exact r1
    by_cases h6:x2[i].1=6
    rotate_left
    · obtain ⟨s',r1,r2⟩:=go (fun h=>absurd h ht2) (fun h=>absurd h h6)
      refine ⟨s',?_,r2⟩
      rw [P_law10_SiteReads_l0_eq,hct]
      repeat (first | refine ip (by first | with_reducible rfl | assumption | (simp (disch:=omega) only [ws,wl,wb] <;> omega) | omega) ?_ | refine jn (by first | with_reducible rfl | assumption | (simp (disch:=omega) only [ws,wl,wb] <;> omega) | omega) ?_ | refine (bnd (geti hv hlx)).trans ?_ | refine (bnd hp).trans ?_ | refine (bnd q1).trans ?_ | refine el ?_ | refine er ?_)
      exact r1
    cases hl:pv.2.1
    · have hl':¬ pv.2.1=true:=by rw [hl]; simp
      obtain ⟨s',r1,r2⟩:=go (fun h=>absurd h ht2) (fun h p' hg=>by rw [← hpv p' hg]; exact hl)
      refine ⟨s',?_,r2⟩
      rw [P_law10_SiteReads_l0_eq,hct]
      repeat (first | refine ip (by first | with_reducible rfl | assumption | (simp (disch:=omega) only [ws,wl,wb] <;> omega) | omega) ?_ | refine jn (by first | with_reducible rfl | assumption | (simp (disch:=omega) only [ws,wl,wb] <;> omega) | omega) ?_ | refine (bnd (geti hv hlx)).trans ?_ | refine (bnd hp).trans ?_ | refine (bnd q1).trans ?_ | refine el ?_ | refine er ?_)
      exact r1
    · obtain ⟨s',r1,r2⟩:=skip
      refine ⟨s',?_,r2⟩
      rw [P_law10_SiteReads_l0_eq,hct]
      repeat (first | refine ip (by first | with_reducible rfl | assumption | (simp (disch:=omega) only [ws,wl,wb] <;> omega) | omega) ?_ | refine jn (by first | with_reducible rfl | assumption | (simp (disch:=omega) only [ws,wl,wb] <;> omega) | omega) ?_ | refine (bnd (geti hv hlx)).trans ?_ | refine (bnd hp).trans ?_ | refine el ?_ | refine er ?_)
      exact r1
theorem plain_reads (y0 y1:List Rec) (t k:Int) (w0:w_t22 y0) (w1:w_t22 y1) (w2:w_t46 (t,k)):P_law10_SiteReads y0 y1 t k=some true:=by
  obtain ⟨s,h1,I⟩:=played_ok (recs_of w0)
  obtain ⟨ht,hk⟩:(0≤t∧t≤255)∧(0≤k∧k≤255):=w2
  have hct:conv .i64 t=t:=conv64 (by omega)
  obtain ⟨a1,a2,a3⟩:=do_some I (by omega) (recOk (a:=2) (t:=t) hk (n:=0) (by decide))
  generalize hq:doF s (2,t,k,0)=q at a1 a2 a3
  rw [P_law10_SiteReads]
  simp only [hct]
  by_cases h0:q.1=0
  rotate_left
  · repeat (first | refine ip (by first | with_reducible rfl | assumption | (simp (disch:=omega) only [ws,wl,wb] <;> omega) | omega) ?_ | refine jn (by first | with_reducible rfl | assumption | (simp (disch:=omega) only [ws,wl,wb] <;> omega) | omega) ?_ | refine (bnd alive_ok).trans ?_ | refine (bnd h1).trans ?_ | refine (bnd a1).trans ?_ | refine el ?_ | refine er ?_)
    rfl
  obtain ⟨p,t0,t1,hg,hp0,hk0,h64,hc,hgot,rfl⟩:=a3.ok_read h0
  obtain ⟨b,hbm,_⟩:=got_mem hgot
  simp only at a1 a2
  obtain ⟨s',r1,r2,S1,⟨b',S2⟩,S3⟩:=reads_l0 (recs_of w1) ht (x4:=k) (x7:=(0,W64 (tot s.L k + tot p.2.1 k),s.L,takeF s.K t k false,s.M,s.G++[(2,t,k,0)])) (p:=p) (u:=sumK s.L k) ⟨hk0,h64⟩ _ 0 0 _ rfl (by omega) rfl a2 ⟨hg,⟨b,hbm⟩,rfl⟩
  have c1:=(do_some r2 (by omega) (recOk (a:=2) (t:=t) hk (n:=0) (by decide))).1
  rw [read_ok t0 t1 h64 S1 hp0 (noconf r2.lk S2)] at c1
  simp only at c1 r1
  have e:W64 (tot s'.L k + tot p.2.1 k)=W64 (tot s.L k + tot p.2.1 k):=by
    have:=w64_inj S3
    exact w64_congr (by omega)
  repeat (first | refine ip (by first | with_reducible rfl | assumption | (simp (disch:=omega) only [ws,wl,wb] <;> omega) | omega) ?_ | refine jn (by first | with_reducible rfl | assumption | (simp (disch:=omega) only [ws,wl,wb] <;> omega) | omega) ?_ | refine (bnd alive_ok).trans ?_ | refine (bnd h1).trans ?_ | refine (bnd a1).trans ?_ | refine (bnd r1).trans ?_ | refine (bnd c1).trans ?_ | refine el ?_ | refine er ?_)
  rw [e,eqI_self]
end Go.Ws.L10
