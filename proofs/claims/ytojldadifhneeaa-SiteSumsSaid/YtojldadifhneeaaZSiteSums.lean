/-
  SiteSums, plainly.
  Conditions: none.
-/
import Derived.Test.YtojldadifhneeaaZSiteLaws
set_option linter.unusedVariables false
set_option linter.unusedSimpArgs false
namespace Go.Ws.L10
open L7 L8 L9
set_option linter.unusedVariables false
set_option linter.unusedSimpArgs false
set_option maxHeartbeats 1000000
section
variable {s:Int} {l:List (Int × Int)} {c:Bool} {o:Int}
theorem effect_ok (hl:l.length≤1000) (hr:Rt s l c o):P_part_Effect s l c o=some (eff s l c o):=by
  have r1:=(right_t hr).1
  have h4:=hr.2.2.2
  have p1:=(opp_ok (l:=l) hl).2
  have cl:=L9.clone_ok l (by omega)
  have ol:=oppL_len l
  have cc:=concat_ok (a:=l) (b:=oppL l) hl (by omega)
  by_cases h1:o=1
  · have he:eff s l c o=l:=by unfold eff; rw [if_pos h1]
    rw [he,P_part_Effect]
    have h3:s=3:=by omega
    repeat (first | refine ip (by first | with_reducible rfl | assumption | (simp (disch:=omega) only [ws,wl,wb] <;> omega) | omega) ?_ | refine jn (by first | with_reducible rfl | assumption | (simp (disch:=omega) only [ws,wl,wb] <;> omega) | omega) ?_ | refine (bnd r1).trans ?_ | refine (bnd cl).trans ?_ | refine el ?_ | refine er ?_)
    rfl
  by_cases h2:s=1
  · cases c
    · have he:eff s l false o=[]:=by unfold eff; rw [if_neg h1,if_neg (by simp),if_neg (by simp)]
      rw [he,P_part_Effect]
      repeat (first | refine ip (by first | with_reducible rfl | assumption | (simp (disch:=omega) only [ws,wl,wb] <;> omega) | omega) ?_ | refine jn (by first | with_reducible rfl | assumption | (simp (disch:=omega) only [ws,wl,wb] <;> omega) | omega) ?_ | refine (bnd r1).trans ?_ | refine el ?_ | refine er ?_)
      rfl
    · have he:eff s l true o=l:=by unfold eff; rw [if_neg h1,if_pos ⟨h2,rfl⟩]
      rw [he,P_part_Effect]
      repeat (first | refine ip (by first | with_reducible rfl | assumption | (simp (disch:=omega) only [ws,wl,wb] <;> omega) | omega) ?_ | refine jn (by first | with_reducible rfl | assumption | (simp (disch:=omega) only [ws,wl,wb] <;> omega) | omega) ?_ | refine (bnd r1).trans ?_ | refine (bnd cl).trans ?_ | refine el ?_ | refine er ?_)
      rfl
  by_cases h3:s=3
  · cases c
    · have he:eff s l false o=[]:=by unfold eff; rw [if_neg h1,if_neg (by simp),if_neg (by simp)]
      rw [he,P_part_Effect]
      repeat (first | refine ip (by first | with_reducible rfl | assumption | (simp (disch:=omega) only [ws,wl,wb] <;> omega) | omega) ?_ | refine jn (by first | with_reducible rfl | assumption | (simp (disch:=omega) only [ws,wl,wb] <;> omega) | omega) ?_ | refine (bnd r1).trans ?_ | refine el ?_ | refine er ?_)
      rfl
    · have he:eff s l true o=l++oppL l:=by unfold eff; rw [if_neg h1,if_neg (fun h=>h2 h.1),if_pos ⟨h3,rfl⟩]
      rw [he,P_part_Effect]
      repeat (first | refine ip (by first | with_reducible rfl | assumption | (simp (disch:=omega) only [ws,wl,wb] <;> omega) | omega) ?_ | refine jn (by first | with_reducible rfl | assumption | (simp (disch:=omega) only [ws,wl,wb] <;> omega) | omega) ?_ | refine (bnd r1).trans ?_ | refine (bnd p1).trans ?_ | refine (bnd cc).trans ?_ | refine el ?_ | refine er ?_)
      rfl
  · have he:eff s l c o=[]:=by unfold eff; rw [if_neg h1,if_neg (fun h=>h2 h.1),if_neg (fun h=>h3 h.1)]
    rw [he,P_part_Effect]
    repeat (first | refine ip (by first | with_reducible rfl | assumption | (simp (disch:=omega) only [ws,wl,wb] <;> omega) | omega) ?_ | refine jn (by first | with_reducible rfl | assumption | (simp (disch:=omega) only [ws,wl,wb] <;> omega) | omega) ?_ | refine (bnd r1).trans ?_ | refine el ?_ | refine er ?_)
    rfl
end
def sumTo (g:Int→Int):Nat→Int
  | 0=>0
  | n + 1=>sumTo g n + g n
theorem sumTo_congr {g h:Int→Int}:∀ {n:Nat},(∀ i:Nat,i<n→g i=h i)→sumTo g n=sumTo h n
  | 0,_=>rfl
  | n + 1,hh=>by rw [sumTo,sumTo,sumTo_congr (n:=n) fun i hi=>hh i (by omega),hh n (by omega)]
theorem sumTo_mod {g h:Int→Int} {m:Int}:∀ {n:Nat},(∀ i:Nat,i<n→g i % m=h i % m)→sumTo g n % m=sumTo h n % m
  | 0,_=>rfl
  | n + 1,hh=>by
    have h1:=sumTo_mod (m:=m) (n:=n) fun i hi=>hh i (by omega)
    have h2:=hh n (by omega)
    rw [sumTo,sumTo,Int.add_emod,h1,h2,← Int.add_emod]
theorem sumTo_zero:∀ (n:Nat),sumTo (fun _=>0) n=0
  | 0=>rfl
  | n + 1=>by rw [sumTo,sumTo_zero n]; rfl
theorem sumTo_upd (g:Int→Int) (a x:Int) (ha:0≤a) (hg:g a=0):∀ n:Nat,sumTo (fun t=>if t=a then x else g t) n=sumTo g n + (if a<(n:Int) then x else 0)
  | 0=>by rw [sumTo,sumTo,if_neg (by omega)]; rfl
  | n + 1=>by
    rw [sumTo,sumTo,sumTo_upd g a x ha hg n]
    by_cases h:(n:Int)=a
    · rw [if_pos h,if_neg (by omega),if_pos (by omega),h,hg,Int.add_zero]
    · rw [if_neg h]
      by_cases h2:a<(n:Int)
      · rw [if_pos h2,if_pos (by omega)]; omega
      · rw [if_neg h2,if_neg (by omega)]; omega
def valM (f:Pt→Int) (M:List (Int × Pt)) (t:Int):Int:=match mGet M t with | some p=>f p | none=>0
theorem valM_some {f:Pt→Int} {M:List (Int × Pt)} {t:Int} {p:Pt} (h:mGet M t=some p):valM f M t=f p:=by unfold valM; rw [h]
theorem valM_none {f:Pt→Int} {M:List (Int × Pt)} {t:Int} (h:mGet M t=none):valM f M t=0:=by unfold valM; rw [h]
theorem sum_all (f:Pt→Int) (n:Nat):∀ {M:List (Int × Pt)},(M.map (·.1)).Nodup→(∀ t p,mGet M t=some p→0≤t∧t<(n:Int))→sumTo (valM f M) n=(M.map fun x=>f x.2).sum
  | [],_,_=>by
    rw [sumTo_congr (h:=fun _=>0) fun i _=>valM_none rfl,sumTo_zero]; rfl
  | (a,v) :: M,hd,hr=>by
    rw [List.map_cons,List.nodup_cons] at hd
    have hna:mGet M a=none:=get_key.2 hd.1
    have h0:=hr a v (by simp only [mGet,if_true])
    have hr':∀ t p,mGet M t=some p→0≤t∧t<(n:Int):=fun t p h=>hr t p (by
      simp only [mGet]
      rw [if_neg (fun e=>by subst e; rw [hna] at h; cases h)]
      exact h)
    have e:∀ i:Nat,i<n→valM f ((a,v) :: M) i=(fun t=>if t=a then f v else valM f M t) i:=fun i _=>by
      simp only [valM,mGet]
      by_cases h:(i:Int)=a
      · rw [if_pos h,if_pos h]
      · rw [if_neg h,if_neg h]
    rw [sumTo_congr (h:=fun t=>if t=a then f v else valM f M t) e,sumTo_upd _ _ _ h0.1 (valM_none hna),if_pos h0.2,sum_all f n hd.2 hr',List.map_cons,List.sum_cons,Int.add_comm]
theorem tot_effM (k:Int):∀ M:List (Int × Pt),tot (effM M) k=(M.map fun x=>tot (effP x.2) k).sum
  | []=>rfl
  | x :: M=>by rw [effM_cons,tot_app,tot_effM k M,List.map_cons,List.sum_cons]
def comK (k:Int) (p:Pt):Int:=if p.2.2.2=1 then tot p.2.1 k else 0
theorem eff_len {p:Pt} (h:PtOk p):(effP p).length≤100:=by
  have h2:=h.1.2.1
  have ol:=oppL_len p.2.1
  unfold effP eff
  split
  · omega
  · split
    · omega
    · split
      · rw [List.length_append]; omega
      · simp
theorem sums_l0 {s:St} {n:Nat} (I:Inv s n):∀ (d i:Nat) (dd:Bool) (v:Int) (al co:Dl),1000 - i=d→i≤1000→v=(i:Int)→(∀ k,tot al k=sumTo (valM (fun p=>tot (effP p) k) s.M) i)→(∀ k,tot co k=sumTo (valM (comK k) s.M) i)→al.length≤100 * i→co.length≤50 * i→(dd=true→∀ t:Nat,t<i→∀ p,mGet s.M t=some p→p.1=3) →
    ∃ dd' al' co',P_law10_SiteSums_l0 (s.L,s.K,s.M,s.G) dd v al co=some (dd',al',co')∧(∀ k,tot al' k=sumTo (valM (fun p=>tot (effP p) k) s.M) 1000)∧(∀ k,tot co' k=sumTo (valM (comK k) s.M) 1000)∧al'.length≤100000∧co'.length≤100000∧(dd'=true→∀ t:Nat,t<1000→∀ p,mGet s.M t=some p→p.1=3):=by
  intro d
  induction d with
  | zero =>
    intro i dd v al co hd hi hv h1 h2 h3 h4 h5
    obtain rfl:i=1000:=by omega
    refine ⟨dd,al,co,?_,h1,h2,by omega,by omega,h5⟩
    rw [P_law10_SiteSums_l0_eq]
    repeat (first | refine ip (by first | with_reducible rfl | assumption | (simp (disch:=omega) only [ws,wl,wb] <;> omega) | omega) ?_ | refine jn (by first | with_reducible rfl | assumption | (simp (disch:=omega) only [ws,wl,wb] <;> omega) | omega) ?_ | refine el ?_ | refine er ?_)
    rfl
  | succ d ih =>
    intro i dd v al co hd hi hv h1 h2 h3 h4 h5
    have hp:=part_ok I v
    cases hg:mGet s.M v with
    | none =>
      rw [hg] at hp
      simp only at hp
      have hgi:mGet s.M (i:Int)=none:=by rw [← hv]; exact hg
      obtain ⟨dd',al',co',r1,r2⟩:=ih (i + 1) dd (iadd .i64 v 1) al co (by omega) (by omega) (by first | with_reducible rfl | assumption | (simp (disch:=omega) only [ws,wl,wb] <;> omega) | omega) (fun k=>by rw [sumTo,← h1 k,valM_none hgi,Int.add_zero]) (fun k=>by rw [sumTo,← h2 k,valM_none hgi,Int.add_zero]) (by omega) (by omega) (fun hdd t ht p hpt=>by
        by_cases e:t=i
        · subst e; rw [hgi] at hpt; cases hpt
        · exact h5 hdd t (by omega) p hpt)
      refine ⟨dd',al',co',?_,r2⟩
      rw [P_law10_SiteSums_l0_eq]
      repeat (first | refine ip (by first | with_reducible rfl | assumption | (simp (disch:=omega) only [ws,wl,wb,Bool.false_eq_true,not_false_eq_true] <;> omega) | omega) ?_ | refine jn (by first | with_reducible rfl | assumption | (simp (disch:=omega) only [ws,wl,wb,Bool.false_eq_true,not_false_eq_true] <;> omega) | omega) ?_ | refine (bnd hp).trans ?_ | refine el ?_ | refine er ?_)
      exact r1
    | some p =>
      rw [hg] at hp
      simp only at hp
      have hgi:mGet s.M (i:Int)=some p:=by rw [← hv]; exact hg
      have hP:=(I.pt v p hg).1
      have hpl:=hP.1.2.1
      have hel:=eff_len hP
      have he:P_part_Effect p.1 p.2.1 p.2.2.1 p.2.2.2=some (effP p):=effect_ok (by omega) hP.1
      have key:∀ (dd2:Bool) (co2:Dl),(dd2=true→dd=true∧p.1=3)→(∀ k,tot co2 k=tot co k + comK k p)→co2.length≤co.length + 50→∃ dd' al' co',P_law10_SiteSums_l0 (s.L,s.K,s.M,s.G) dd2 (iadd .i64 v 1) (al++effP p) co2=some (dd',al',co')∧(∀ k,tot al' k=sumTo (valM (fun p=>tot (effP p) k) s.M) 1000)∧(∀ k,tot co' k=sumTo (valM (comK k) s.M) 1000)∧al'.length≤100000∧co'.length≤100000∧(dd'=true→∀ t:Nat,t<1000→∀ p,mGet s.M t=some p→p.1=3):=by
        intro dd2 co2 hd2 hc2 hl2
        refine ih (i + 1) dd2 (iadd .i64 v 1) (al++effP p) co2 (by omega) (by omega) (by first | with_reducible rfl | assumption | (simp (disch:=omega) only [ws,wl,wb] <;> omega) | omega) (fun k=>by rw [sumTo,← h1 k,valM_some hgi,tot_app]) (fun k=>by rw [sumTo,← h2 k,valM_some hgi,hc2 k]) (by rw [List.length_append]; omega) (by omega) (fun hdd t ht p' hpt=>?_)
        by_cases e:t=i
        · subst e; rw [hgi] at hpt; cases hpt; exact (hd2 hdd).2
        · exact h5 (hd2 hdd).1 t (by omega) p' hpt
      by_cases ho:p.2.2.2=1
      · have hc2:∀ k,tot (co++p.2.1) k=tot co k + comK k p:=fun k=>by unfold comK; rw [if_pos ho,tot_app]
        cases dd with
        | true =>
          obtain ⟨dd',al',co',r1,r2⟩:=key (eqI p.1 3) (co++p.2.1) (fun h=>⟨rfl,eqI_iff.1 h⟩) hc2 (by rw [List.length_append]; omega)
          refine ⟨dd',al',co',?_,r2⟩
          rw [P_law10_SiteSums_l0_eq]
          repeat (first | refine ip (by first | with_reducible rfl | assumption | (simp (disch:=omega) only [ws,wl,wb,List.length_append] <;> omega) | omega) ?_ | refine jn (by first | with_reducible rfl | assumption | (simp (disch:=omega) only [ws,wl,wb,List.length_append] <;> omega) | omega) ?_ | refine (bnd hp).trans ?_ | refine (bnd he).trans ?_ | refine el ?_ | refine er ?_)
          exact r1
        | false =>
          obtain ⟨dd',al',co',r1,r2⟩:=key false (co++p.2.1) (fun h=>(by cases h)) hc2 (by rw [List.length_append]; omega)
          refine ⟨dd',al',co',?_,r2⟩
          rw [P_law10_SiteSums_l0_eq]
          repeat (first | refine ip (by first | with_reducible rfl | assumption | (simp (disch:=omega) only [ws,wl,wb,List.length_append,Bool.false_eq_true,not_false_eq_true] <;> omega) | omega) ?_ | refine jn (by first | with_reducible rfl | assumption | (simp (disch:=omega) only [ws,wl,wb,List.length_append,Bool.false_eq_true,not_false_eq_true] <;> omega) | omega) ?_ | refine (bnd hp).trans ?_ | refine (bnd he).trans ?_ | refine el ?_ | refine er ?_)
          exact r1
      · have hc2:∀ k,tot co k=tot co k + comK k p:=fun k=>by unfold comK; rw [if_neg ho]; omega
        cases dd with
        | true =>
          obtain ⟨dd',al',co',r1,r2⟩:=key (eqI p.1 3) co (fun h=>⟨rfl,eqI_iff.1 h⟩) hc2 (by omega)
          refine ⟨dd',al',co',?_,r2⟩
          rw [P_law10_SiteSums_l0_eq]
          repeat (first | refine ip (by first | with_reducible rfl | assumption | (simp (disch:=omega) only [ws,wl,wb,List.length_append] <;> omega) | omega) ?_ | refine jn (by first | with_reducible rfl | assumption | (simp (disch:=omega) only [ws,wl,wb,List.length_append] <;> omega) | omega) ?_ | refine (bnd hp).trans ?_ | refine (bnd he).trans ?_ | refine el ?_ | refine er ?_)
          exact r1
        | false =>
          obtain ⟨dd',al',co',r1,r2⟩:=key false co (fun h=>(by cases h)) hc2 (by omega)
          refine ⟨dd',al',co',?_,r2⟩
          rw [P_law10_SiteSums_l0_eq]
          repeat (first | refine ip (by first | with_reducible rfl | assumption | (simp (disch:=omega) only [ws,wl,wb,List.length_append,Bool.false_eq_true,not_false_eq_true] <;> omega) | omega) ?_ | refine jn (by first | with_reducible rfl | assumption | (simp (disch:=omega) only [ws,wl,wb,List.length_append,Bool.false_eq_true,not_false_eq_true] <;> omega) | omega) ?_ | refine (bnd hp).trans ?_ | refine (bnd he).trans ?_ | refine el ?_ | refine er ?_)
          exact r1
theorem get_s {s:St} {n:Nat} (I:Inv s n) (k:Int):P_site_Site_Get k s.L s.K s.M s.G=some (sumK s.L k):=by
  have:=Led.len I.led
  rw [P_site_Site_Get]
  repeat (first | refine ip (by first | with_reducible rfl | assumption | (simp (disch:=omega) only [ws,wl,wb] <;> omega) | omega) ?_ | refine jn (by first | with_reducible rfl | assumption | (simp (disch:=omega) only [ws,wl,wb] <;> omega) | omega) ?_ | refine (bnd (get_ok (l:=s.L) (by omega) k)).trans ?_ | refine el ?_ | refine er ?_)
  rw [getK_led I.led]
theorem sums_l1 {s:St} {n:Nat} (I:Inv s n) {al co:Dl} {q:Bool × Dl × Dl} (h1:∀ k,0≤k→k<64→sumK s.L k=sumK al k) (h2:q.1=true→∀ k,0≤k→k<64→sumK s.L k=sumK co k):∀ (d i:Nat) (v:Int),64 - i=d→i≤64→v=(i:Int)→P_law10_SiteSums_l1 (s.L,s.K,s.M,s.G) q (ofL al) (ofL co) v=some (.inl ()):=by
  have la:=ofL_len al
  have lc:=ofL_len co
  intro d
  induction d with
  | zero =>
    intro i v hd hi hv
    rw [P_law10_SiteSums_l1_eq]
    repeat (first | refine ip (by first | with_reducible rfl | assumption | (simp (disch:=omega) only [ws,wl,wb] <;> omega) | omega) ?_ | refine jn (by first | with_reducible rfl | assumption | (simp (disch:=omega) only [ws,wl,wb] <;> omega) | omega) ?_ | refine el ?_ | refine er ?_)
    rfl
  | succ d ih =>
    intro i v hd hi hv
    have hi8:iadd .u8 v 1=((i + 1:Nat):Int):=by rw [iadd8 (by omega)]; omega
    have r:=ih (i + 1) (iadd .u8 v 1) (by omega) (by omega) hi8
    have g1:=get_s I v
    have g2:=rget_ok (l:=ofL al) (by omega) v
    rw [getK_led (ofL_led al),ofL_sum _ _ (by omega) (by omega),← h1 v (by omega) (by omega)] at g2
    have es:=eqI_self (sumK s.L v)
    cases hq:q.1
    · have hq':¬ q.1=true:=by rw [hq]; simp
      rw [P_law10_SiteSums_l1_eq]
      repeat (first | refine ip (by first | with_reducible rfl | assumption | (simp (disch:=omega) only [ws,wl,wb] <;> omega) | omega) ?_ | refine jn (by first | with_reducible rfl | assumption | (simp (disch:=omega) only [ws,wl,wb] <;> omega) | omega) ?_ | refine (bnd g1).trans ?_ | refine (bnd g2).trans ?_ | refine el ?_ | refine er ?_)
      exact r
    · have g3:=rget_ok (l:=ofL co) (by omega) v
      rw [getK_led (ofL_led co),ofL_sum _ _ (by omega) (by omega),← h2 hq v (by omega) (by omega)] at g3
      rw [P_law10_SiteSums_l1_eq]
      refine (if_pos (by first | with_reducible rfl | assumption | (simp (disch:=omega) only [ws,wl,wb] <;> omega) | omega)).trans ?_
      refine (bnd g1).trans ?_
      refine (bnd g2).trans ?_
      refine (if_pos es).trans ?_
      refine (if_pos hq).trans ?_
      refine (bnd g1).trans ?_
      refine (bnd g3).trans ?_
      refine (if_pos es).trans ?_
      exact r
theorem plain_sums (y0:List Rec) (w0:w_t22 y0):P_law10_SiteSums y0=some true:=by
  obtain ⟨s,h1,I⟩:=played_ok (recs_of w0)
  obtain ⟨dd,al,co,r1,r2,r3,r4,r5,r6⟩:=sums_l0 I _ 0 true 0 [] [] rfl (by omega) rfl (fun k=>rfl) (fun k=>rfl) (by simp) (by simp) (fun _ t ht=>by omega)
  have hr:∀ t p,mGet s.M t=some p→0≤t∧t<((1000:Nat):Int):=fun t p h=>by
    have:=(I.pt t p h).2
    omega
  have e1:∀ k,0≤k→k<64→sumK s.L k=sumK al k:=fun k k0 k1=>by
    rw [I.sum k k0 k1]
    unfold sumK
    rw [r2 k,sum_all _ 1000 I.nd hr,tot_effM]
  have e2:dd=true→∀ k,0≤k→k<64→sumK s.L k=sumK co k:=fun hdd k k0 k1=>by
    rw [e1 k k0 k1]
    unfold sumK
    refine w64_congr ?_
    rw [r2 k,r3 k]
    refine sumTo_mod fun i hi=>?_
    cases hg:mGet s.M (i:Int) with
    | none=>rw [valM_none hg,valM_none hg]
    | some p =>
      rw [valM_some hg,valM_some hg]
      have h3:=r6 hdd i hi p hg
      obtain ⟨_,_,_,q4⟩:=(I.pt _ p hg).1.1
      have ho:=tot_opp p.2.1 k
      unfold comK effP eff
      by_cases o1:p.2.2.2=1
      · rw [if_pos o1,if_pos o1]
      · rw [if_neg o1,if_neg o1,if_neg (by omega)]
        split
        · rw [tot_app]; omega
        · rw [tot_nil]
  rw [P_law10_SiteSums]
  repeat (first | refine ip (by first | with_reducible rfl | assumption | (simp (disch:=omega) only [ws,wl,wb] <;> omega) | omega) ?_ | refine jn (by first | with_reducible rfl | assumption | (simp (disch:=omega) only [ws,wl,wb] <;> omega) | omega) ?_ | refine (bnd alive_ok).trans ?_ | refine (bnd h1).trans ?_ | refine (bnd r1).trans ?_ | refine (bnd (of_ok (l:=al) (by omega))).trans ?_ | refine (bnd (of_ok (l:=co) (by omega))).trans ?_ | refine (bnd (sums_l1 I e1 e2 _ 0 0 rfl (by omega) rfl)).trans ?_ | refine el ?_ | refine er ?_)
  rfl
end Go.Ws.L10
