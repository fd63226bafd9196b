/-
  What a log tells of a site's parts.
  Conditions: none.
-/
import Derived.Test.YtipeekdnpocclaaZModel
set_option linter.unusedVariables false
set_option linter.unusedSimpArgs false
namespace Go.Ws.L10
open L7 L8 L9
set_option linter.unusedVariables false
set_option linter.unusedSimpArgs false
set_option linter.unusedSectionVars false
set_option maxHeartbeats 1000000
theorem rU:∀(l:List Rec) (m:List (Int × Int)) (r:Rec),kO m (l++[r])=if r.1=6 then bH (kO m l) r.2.1 r.2.2.2 else kO m l
 | [],m,r=>rfl
 | x::l,m,r=>by simp only[List.cons_append,kO];exact rU l _ r
def yN (c:Int→Bool) (l:List Rec):Dl:=(l.filter fun r=>eqI r.1 3 && c r.2.1).map fun r=>r.2.2
theorem yG (c:Int→Bool) (a b:List Rec):yN c (a++b)=yN c a++yN c b:=by unfold yN;rw[List.filter_append,List.map_append]
theorem zB (c:Int→Bool) (r:Rec):yN c [r]=if r.1=3∧c r.2.1=true then [r.2.2] else []:=by
 unfold yN
 rw[List.filter_cons,List.filter_nil]
 by_cases h:r.1=3
 · rw[cA.2 h,Bool.true_and]
   cases hc:c r.2.1
   · rw[if_neg (by simp),if_neg (by simp)];rfl
   · rw[if_pos rfl,if_pos ⟨h,rfl⟩];rfl
 · rw[eqf fun h2=>h (cA.1 h2),Bool.false_and,if_neg (by simp),if_neg (fun h2=>h h2.1)];rfl
def effC (f:Int × Pt→Dl) (M:List (Int × Pt)):Dl:=M.flatMap f
theorem aEP (f:Int × Pt→Dl):∀{M:List (Int × Pt)} {t:Int} {p:Pt} (q:Pt) (k:Int),bD M t=some p→tot (effC f (bH M t q)) k=tot (effC f M) k - tot (f (t,p)) k+tot (f (t,q)) k
 | [],t,p,q,k,h=>by cases h
 | (u,v)::M,t,p,q,k,h=>by
  simp only[bD] at h
  unfold effC at *
  by_cases e:t=u
  · rw[if_pos e] at h
    cases h
    subst e
    simp only[bH,if_true,List.flatMap_cons,i5]
    omega
  · rw[if_neg e] at h
    have:=aEP f q k h
    unfold effC at this
    simp only[bH,if_neg e,List.flatMap_cons,i5]
    omega
theorem aN7 (f:Int × Pt→Dl):∀{M:List (Int × Pt)} {t:Int} (q:Pt) (k:Int),bD M t=none→tot (effC f (bH M t q)) k=tot (effC f M) k+tot (f (t,q)) k
 | [],t,q,k,h=>by simp [effC,bH,oA]
 | (u,v)::M,t,q,k,h=>by
  simp only[bD] at h
  by_cases e:t=u
  · rw[if_pos e] at h;cases h
  · rw[if_neg e] at h
    have:=aN7 f q k h
    unfold effC at *
    simp only[bH,if_neg e,List.flatMap_cons,i5]
    omega
structure Lg (s:St):Prop where
 sum:∀c k,tot (yN c s.G) k=tot (effC (fun x=>if c x.1 then x.2.2.1 else []) s.M) k
 out:∀t p,bD s.M t=some p→bD (kO [] s.G) t=if p.1=3 then some p.2.2.2 else none
 non:∀t,bD s.M t=none→bD (kO [] s.G) t=none
 has:∀r∈s.G,∃p,bD s.M r.2.1=some p
 key:∀r∈s.G,r.1=3→0≤r.2.2.1∧r.2.2.1<64∧InR r.2.2.2
 bgn:∀t p,bD s.M t=some p→∃r∈s.G,r.2.1=t
theorem lg_nil:Lg ⟨[],[],[],[]⟩:=⟨fun _ _=>rfl,fun _ _ h=>(by cases h),fun _ _=>rfl,fun _ h=>(by cases h),fun _ h=>(by cases h),fun _ _ h=>(by cases h)⟩
section
variable {s:St} {r:Rec}
theorem has_put {M:List (Int × Pt)} {t:Int} {q:Pt} {u:Int} (h:∃p,bD M u=some p):∃p,bD (bH M t q) u=some p:=by
 rw[eD]
 split
 · exact⟨_,rfl⟩
 · exact h
theorem aG0 {s:St} (G:Lg s) {t:Int} {q:Pt} {r:Rec} (hr:r.2.1=t):∀x∈s.G++[r],∃p,bD (bH s.M t q) x.2.1=some p:=by
 intro x hx
 rcases List.mem_append.1 hx with h | h
 · exact has_put (G.has x h)
 · rcases List.mem_singleton.1 h with rfl
   rw[eD,if_pos hr];exact⟨_,rfl⟩
theorem aAN {s:St} (G:Lg s) {r:Rec} (hr:r.1=3→0≤r.2.2.1∧r.2.2.1<64∧InR r.2.2.2):∀x∈s.G++[r],x.1=3→0≤x.2.2.1∧x.2.2.1<64∧InR x.2.2.2:=by
 intro x hx
 rcases List.mem_append.1 hx with h | h
 · exact G.key x h
 · rcases List.mem_singleton.1 h with rfl;exact hr
theorem aGO {s:St} (G:Lg s) {t:Int} {q:Pt} {r:Rec} (hr:r.2.1=t):∀u p,bD (bH s.M t q) u=some p→∃x∈s.G++[r],x.2.1=u:=by
 intro u p hp
 rw[eD] at hp
 split at hp
 · rename_i e;exact⟨r,by simp,hr.trans e.symm⟩
 · obtain⟨x,hx,hu⟩:=G.bgn u p hp;exact⟨x,by simp [hx],hu⟩
theorem aV5 {s:St} (G:Lg s) {L:Dl} {K:List Ho} {t:Int} {p q:Pt} {r:Rec} (hg:bD s.M t=some p) (hr:r.2.1=t) (h3:r.1≠3) (h6:r.1≠6) (hp:p.1≠3) (hq:q.1≠3) (hadd:q.2.1=p.2.1):Lg ⟨L,K,bH s.M t q,s.G++[r]⟩:=by
 have ho:kO [] (s.G++[r])=kO [] s.G:=by rw[rU,if_neg h6]
 refine⟨fun c k=>?_,fun u x hx=>?_,fun u hu=>?_,aG0 G hr,aAN G fun h=>absurd h h3,aGO G hr⟩
 · show tot (yN c (s.G++[r])) k=_
   rw[yG,zB,if_neg (fun h=>h3 h.1),List.append_nil,aEP _ _ _ hg,G.sum c k]
   simp only
   rw[hadd]
   omega
 · show bD (kO [] (s.G++[r])) u=_
   rw[ho]
   have hx':bD (bH s.M t q) u=some x:=hx
   rw[eD] at hx'
   split at hx'
   · rename_i e
     cases hx'
     rw[e,G.out t p hg,if_neg hp,if_neg hq]
   · exact G.out u x hx'
 · show bD (kO [] (s.G++[r])) u=none
   rw[ho]
   have hu':bD (bH s.M t q) u=none:=hu
   rw[eD] at hu'
   split at hu'
   · cases hu'
   · exact G.non u hu'
theorem Lg.step {s:St} {N:Nat} (I:Inv s N) (G:Lg s) {r:Rec} {q:Res} (h:Step s r q):Lg q.2.2:=by
 cases h with
 | err r e he=>exact G
 | begin t k n t0 t1 hg =>
  have ho:kO [] (s.G++[(1,t,k,n)])=kO [] s.G:=by rw[rU,if_neg (by simp)]
  refine⟨fun c k'=>?_,fun u x hx=>?_,fun u hu=>?_,aG0 G rfl,aAN G (fun h=>by simp at h),aGO G rfl⟩
  · show tot (yN c (s.G++[(1,t,k,n)])) k'=_
    rw[yG,zB,if_neg (by simp),List.append_nil,aN7 _ _ _ hg,G.sum c k']
    simp [oA]
  · show bD (kO [] (s.G++[(1,t,k,n)])) u=_
    rw[ho]
    have hx':bD (bH s.M t (0,[],false,0)) u=some x:=hx
    rw[eD] at hx'
    split at hx'
    · rename_i e
      cases hx'
      rw[e,G.non t hg,if_neg (by simp)]
    · exact G.out u x hx'
  · show bD (kO [] (s.G++[(1,t,k,n)])) u=none
    rw[ho]
    have hu':bD (bH s.M t (0,[],false,0)) u=none:=hu
    rw[eD] at hu'
    split at hu'
    · cases hu'
    · exact G.non u hu'
 | read t k n p t0 t1 hg h0 hk0 h64 hc hgot =>
  have ho:kO [] (s.G++[(2,t,k,n)])=kO [] s.G:=by rw[rU,if_neg (by simp)]
  refine⟨fun c k'=>?_,fun u x hx=>(congrArg (bD · u) ho).trans (G.out u x hx),fun u hu=>(congrArg (bD · u) ho).trans (G.non u hu),fun x hx=>?_,aAN G (fun h=>by simp at h),fun u x hx=>?_⟩
  · show tot (yN c (s.G++[(2,t,k,n)])) k'=_
    rw[yG,zB,if_neg (by simp),List.append_nil];exact G.sum c k'
  · rcases List.mem_append.1 hx with h | h
    · exact G.has x h
    · rcases List.mem_singleton.1 h with rfl;exact⟨p,hg⟩
  · obtain⟨y,hy,e⟩:=G.bgn u x hx;exact⟨y,by simp [hy],e⟩
 | add t k n p t0 t1 hg h0 hk0 h64 hx hc hgot h5 =>
  have ho:kO [] (s.G++[(3,t,k,n)])=kO [] s.G:=by rw[rU,if_neg (by simp)]
  have hp:p.1≠3:=by omega
  refine⟨fun c k'=>?_,fun u x hx=>?_,fun u hu=>?_,aG0 G rfl,aAN G (fun _=>⟨hk0,h64,hx⟩),aGO G rfl⟩
  · show tot (yN c (s.G++[(3,t,k,n)])) k'=_
    rw[yG,zB,i5,aEP _ _ _ hg,G.sum c k']
    simp only
    cases hc:c t
    · simp [oA]
    · simp only[if_true,true_and,i5];omega
  · show bD (kO [] (s.G++[(3,t,k,n)])) u=_
    rw[ho]
    have hx':bD (bH s.M t (p.1,p.2.1++[(k,n)],p.2.2.1,p.2.2.2)) u=some x:=hx
    rw[eD] at hx'
    split at hx'
    · rename_i e
      cases hx'
      rw[e,G.out t p hg,if_neg hp]
    · exact G.out u x hx'
  · show bD (kO [] (s.G++[(3,t,k,n)])) u=none
    rw[ho]
    have hu':bD (bH s.M t (p.1,p.2.1++[(k,n)],p.2.2.1,p.2.2.2)) u=none:=hu
    rw[eD] at hu'
    split at hu'
    · cases hu'
    · exact G.non u hu'
 | vote t k n p t0 t1 hg h0=>exact aV5 G hg rfl (by simp) (by simp) (by omega) (by simp only;split<;>omega) rfl
 | loc t k n p t0 t1 hg h1 hf=>exact aV5 G hg rfl (by simp) (by simp) (by omega) (by simp only;omega) rfl
 | dec1 t k n p t0 t1 hg hx h3 h1 =>
  have ho:kO [] (s.G++[(6,t,k,n)])=bH (kO [] s.G) t n:=by rw[rU,if_pos rfl]
  refine⟨fun c k'=>?_,fun u x hx=>?_,fun u hu=>?_,aG0 G rfl,aAN G (fun h=>by simp at h),aGO G rfl⟩
  · show tot (yN c (s.G++[(6,t,k,n)])) k'=_
    rw[yG,zB,if_neg (by simp),List.append_nil,aEP _ _ _ hg,G.sum c k']
    simp only
    omega
  · show bD (kO [] (s.G++[(6,t,k,n)])) u=_
    rw[ho,eD]
    have hx':bD (bH s.M t (3,p.2.1,p.2.2.1,n)) u=some x:=hx
    rw[eD] at hx'
    split at hx'
    · rename_i e
      cases hx'
      rw[if_pos e,if_pos rfl]
    · rename_i e
      rw[if_neg e];exact G.out u x hx'
  · show bD (kO [] (s.G++[(6,t,k,n)])) u=none
    rw[ho,eD]
    have hu':bD (bH s.M t (3,p.2.1,p.2.2.1,n)) u=none:=hu
    rw[eD] at hu'
    split at hu'
    · cases hu'
    · rename_i e
      rw[if_neg e];exact G.non u hu'
 | dec2 t k n p t0 t1 hg hx h3 ho2 =>
  have hmp:bH s.M t p=s.M:=aHQ hg
  have ho:kO [] (s.G++[(6,t,k,n)])=bH (kO [] s.G) t n:=by rw[rU,if_pos rfl]
  have hon:bD (kO [] s.G) t=some n:=by rw[G.out t p hg,if_pos h3,ho2]
  simp only[hmp]
  refine⟨fun c k'=>?_,fun u x hx=>?_,fun u hu=>?_,fun x hx=>?_,aAN G (fun h=>by simp at h),fun u x hx=>?_⟩
  · show tot (yN c (s.G++[(6,t,k,n)])) k'=_
    rw[yG,zB,if_neg (by simp),List.append_nil];exact G.sum c k'
  · show bD (kO [] (s.G++[(6,t,k,n)])) u=_
    rw[ho,eD]
    split
    · rename_i e
      rw[e] at hx
      have:=G.out t x hx
      rw[hon] at this
      exact this
    · exact G.out u x hx
  · show bD (kO [] (s.G++[(6,t,k,n)])) u=none
    rw[ho,eD]
    split
    · rename_i e
      rw[e] at hu
      rw[show bD s.M t=none from hu] at hg;cases hg
    · exact G.non u hu
  · rcases List.mem_append.1 hx with h | h
    · exact G.has x h
    · rcases List.mem_singleton.1 h with rfl;exact⟨p,hg⟩
  · obtain⟨y,hy,e⟩:=G.bgn u x hx;exact⟨y,by simp [hy],e⟩
end
end Go.Ws.L10
