/-
  What a log tells of a site's parts.
  Conditions: none.
-/
import Derived.Test.YtipeekdnpocclaaZModel
set_option linter.unusedVariables false
set_option linter.unusedSimpArgs false
namespace Go.Ws.L10
open L7 L8 L9
set_option linter.unusedVariables false
set_option linter.unusedSimpArgs false
set_option linter.unusedSectionVars false
set_option maxHeartbeats 1000000
theorem uB:∀(l:List Rec) (m:List (Int × Int)) (r:Rec),mJ m (l++[r])=if r.1=6 then bE (mJ m l) r.2.1 r.2.2.2 else mJ m l
 | [],m,r=>rfl
 | x::l,m,r=>by simp only[List.cons_append,mJ];exact uB l _ r
def vE (c:Int→Bool) (l:List Rec):Dl:=(l.filter fun r=>eqI r.1 3 && c r.2.1).map fun r=>r.2.2
theorem tX (c:Int→Bool) (a b:List Rec):vE c (a++b)=vE c a++vE c b:=by unfold vE;rw[List.filter_append,List.map_append]
theorem uL (c:Int→Bool) (r:Rec):vE c [r]=if r.1=3∧c r.2.1=true then [r.2.2] else []:=by
 unfold vE
 rw[List.filter_cons,List.filter_nil]
 by_cases h:r.1=3
 · rw[dB.2 h,Bool.true_and]
   cases hc:c r.2.1
   · rw[if_neg (by simp),if_neg (by simp)];rfl
   · rw[if_pos rfl,if_pos ⟨h,rfl⟩];rfl
 · rw[eqf fun h2=>h (dB.1 h2),Bool.false_and,if_neg (by simp),if_neg (fun h2=>h h2.1)];rfl
def aC7 (f:Int × Pt→Dl) (M:List (Int × Pt)):Dl:=M.flatMap f
theorem zT (f:Int × Pt→Dl):∀{M:List (Int × Pt)} {t:Int} {p:Pt} (q:Pt) (k:Int),bN M t=some p→tot (aC7 f (bE M t q)) k=tot (aC7 f M) k - tot (f (t,p)) k+tot (f (t,q)) k
 | [],t,p,q,k,h=>by cases h
 | (u,v)::M,t,p,q,k,h=>by
  simp only[bN] at h
  unfold aC7 at *
  by_cases e:t=u
  · rw[if_pos e] at h
    cases h
    subst e
    simp only[bE,if_true,List.flatMap_cons,gV]
    omega
  · rw[if_neg e] at h
    have:=zT f q k h
    unfold aC7 at this
    simp only[bE,if_neg e,List.flatMap_cons,gV]
    omega
theorem aG9 (f:Int × Pt→Dl):∀{M:List (Int × Pt)} {t:Int} (q:Pt) (k:Int),bN M t=none→tot (aC7 f (bE M t q)) k=tot (aC7 f M) k+tot (f (t,q)) k
 | [],t,q,k,h=>by simp [aC7,bE,mN]
 | (u,v)::M,t,q,k,h=>by
  simp only[bN] at h
  by_cases e:t=u
  · rw[if_pos e] at h;cases h
  · rw[if_neg e] at h
    have:=aG9 f q k h
    unfold aC7 at *
    simp only[bE,if_neg e,List.flatMap_cons,gV]
    omega
theorem aE9 {f g:Int × Pt→Dl} {k:Int}:∀{M:List (Int × Pt)},(∀x∈M,tot (f x) k % 18446744073709551616=tot (g x) k % 18446744073709551616)→tot (aC7 f M) k % 18446744073709551616=tot (aC7 g M) k % 18446744073709551616
 | [],h=>rfl
 | x::M,h=>by
  have h1:=h x (by simp)
  have h2:=aE9 fun y hy=>h y (List.mem_cons_of_mem _ hy)
  unfold aC7 at *
  simp only[List.flatMap_cons,gV]
  omega
structure Lg (s:St):Prop where
 sum:∀c k,tot (vE c s.G) k=tot (aC7 (fun x=>if c x.1 then x.2.2.1 else []) s.M) k
 out:∀t p,bN s.M t=some p→bN (mJ [] s.G) t=if p.1=3 then some p.2.2.2 else none
 non:∀t,bN s.M t=none→bN (mJ [] s.G) t=none
 has:∀r∈s.G,∃p,bN s.M r.2.1=some p
 key:∀r∈s.G,r.1=3→0≤r.2.2.1∧r.2.2.1<64∧InR r.2.2.2
 bgn:∀t p,bN s.M t=some p→∃r∈s.G,r.2.1=t
theorem lg_nil:Lg ⟨[],[],[],[]⟩:=⟨fun _ _=>rfl,fun _ _ h=>(by cases h),fun _ _=>rfl,fun _ h=>(by cases h),fun _ h=>(by cases h),fun _ _ h=>(by cases h)⟩
section
variable {s:St} {r:Rec}
theorem has_put {M:List (Int × Pt)} {t:Int} {q:Pt} {u:Int} (h:∃p,bN M u=some p):∃p,bN (bE M t q) u=some p:=by
 rw[d6]
 split
 · exact⟨_,rfl⟩
 · exact h
theorem aBV {s:St} (G:Lg s) {t:Int} {q:Pt} {r:Rec} (hr:r.2.1=t):∀x∈s.G++[r],∃p,bN (bE s.M t q) x.2.1=some p:=by
 intro x hx
 rcases List.mem_append.1 hx with h | h
 · exact has_put (G.has x h)
 · rcases List.mem_singleton.1 h with rfl
   rw[d6,if_pos hr];exact⟨_,rfl⟩
theorem vT {s:St} (G:Lg s) {r:Rec} (hr:r.1=3→0≤r.2.2.1∧r.2.2.1<64∧InR r.2.2.2):∀x∈s.G++[r],x.1=3→0≤x.2.2.1∧x.2.2.1<64∧InR x.2.2.2:=by
 intro x hx
 rcases List.mem_append.1 hx with h | h
 · exact G.key x h
 · rcases List.mem_singleton.1 h with rfl;exact hr
theorem aCU {s:St} (G:Lg s) {t:Int} {q:Pt} {r:Rec} (hr:r.2.1=t):∀u p,bN (bE s.M t q) u=some p→∃x∈s.G++[r],x.2.1=u:=by
 intro u p hp
 rw[d6] at hp
 split at hp
 · rename_i e;exact⟨r,by simp,hr.trans e.symm⟩
 · obtain⟨x,hx,hu⟩:=G.bgn u p hp;exact⟨x,by simp [hx],hu⟩
theorem aN9 {s:St} (G:Lg s) {L:Dl} {K:List Ho} {t:Int} {p q:Pt} {r:Rec} (hg:bN s.M t=some p) (hr:r.2.1=t) (h3:r.1≠3) (h6:r.1≠6) (hp:p.1≠3) (hq:q.1≠3) (hadd:q.2.1=p.2.1):Lg ⟨L,K,bE s.M t q,s.G++[r]⟩:=by
 have ho:mJ [] (s.G++[r])=mJ [] s.G:=by rw[uB,if_neg h6]
 refine⟨fun c k=>?_,fun u x hx=>?_,fun u hu=>?_,aBV G hr,vT G fun h=>absurd h h3,aCU G hr⟩
 · show tot (vE c (s.G++[r])) k=_
   rw[tX,uL,if_neg (fun h=>h3 h.1),List.append_nil,zT _ _ _ hg,G.sum c k]
   simp only
   rw[hadd]
   omega
 · show bN (mJ [] (s.G++[r])) u=_
   rw[ho]
   have hx':bN (bE s.M t q) u=some x:=hx
   rw[d6] at hx'
   split at hx'
   · rename_i e
     cases hx'
     rw[e,G.out t p hg,if_neg hp,if_neg hq]
   · exact G.out u x hx'
 · show bN (mJ [] (s.G++[r])) u=none
   rw[ho]
   have hu':bN (bE s.M t q) u=none:=hu
   rw[d6] at hu'
   split at hu'
   · cases hu'
   · exact G.non u hu'
theorem Lg.step {s:St} {N:Nat} (I:Inv s N) (G:Lg s) {r:Rec} {q:Res} (h:Step s r q):Lg q.2.2:=by
 cases h with
 | err r e he=>exact G
 | begin t k n t0 t1 hg =>
  have ho:mJ [] (s.G++[(1,t,k,n)])=mJ [] s.G:=by rw[uB,if_neg (by simp)]
  refine⟨fun c k'=>?_,fun u x hx=>?_,fun u hu=>?_,aBV G rfl,vT G (fun h=>by simp at h),aCU G rfl⟩
  · show tot (vE c (s.G++[(1,t,k,n)])) k'=_
    rw[tX,uL,if_neg (by simp),List.append_nil,aG9 _ _ _ hg,G.sum c k']
    simp [mN]
  · show bN (mJ [] (s.G++[(1,t,k,n)])) u=_
    rw[ho]
    have hx':bN (bE s.M t (0,[],false,0)) u=some x:=hx
    rw[d6] at hx'
    split at hx'
    · rename_i e
      cases hx'
      rw[e,G.non t hg,if_neg (by simp)]
    · exact G.out u x hx'
  · show bN (mJ [] (s.G++[(1,t,k,n)])) u=none
    rw[ho]
    have hu':bN (bE s.M t (0,[],false,0)) u=none:=hu
    rw[d6] at hu'
    split at hu'
    · cases hu'
    · exact G.non u hu'
 | read t k n p t0 t1 hg h0 hk0 h64 hc hgot =>
  have ho:mJ [] (s.G++[(2,t,k,n)])=mJ [] s.G:=by rw[uB,if_neg (by simp)]
  refine⟨fun c k'=>?_,fun u x hx=>(congrArg (bN · u) ho).trans (G.out u x hx),fun u hu=>(congrArg (bN · u) ho).trans (G.non u hu),fun x hx=>?_,vT G (fun h=>by simp at h),fun u x hx=>?_⟩
  · show tot (vE c (s.G++[(2,t,k,n)])) k'=_
    rw[tX,uL,if_neg (by simp),List.append_nil];exact G.sum c k'
  · rcases List.mem_append.1 hx with h | h
    · exact G.has x h
    · rcases List.mem_singleton.1 h with rfl;exact⟨p,hg⟩
  · obtain⟨y,hy,e⟩:=G.bgn u x hx;exact⟨y,by simp [hy],e⟩
 | add t k n p t0 t1 hg h0 hk0 h64 hx hc hgot h5 =>
  have ho:mJ [] (s.G++[(3,t,k,n)])=mJ [] s.G:=by rw[uB,if_neg (by simp)]
  have hp:p.1≠3:=by omega
  refine⟨fun c k'=>?_,fun u x hx=>?_,fun u hu=>?_,aBV G rfl,vT G (fun _=>⟨hk0,h64,hx⟩),aCU G rfl⟩
  · show tot (vE c (s.G++[(3,t,k,n)])) k'=_
    rw[tX,uL,gV,zT _ _ _ hg,G.sum c k']
    simp only
    cases hc:c t
    · simp [mN]
    · simp only[if_true,true_and,gV];omega
  · show bN (mJ [] (s.G++[(3,t,k,n)])) u=_
    rw[ho]
    have hx':bN (bE s.M t (p.1,p.2.1++[(k,n)],p.2.2.1,p.2.2.2)) u=some x:=hx
    rw[d6] at hx'
    split at hx'
    · rename_i e
      cases hx'
      rw[e,G.out t p hg,if_neg hp]
    · exact G.out u x hx'
  · show bN (mJ [] (s.G++[(3,t,k,n)])) u=none
    rw[ho]
    have hu':bN (bE s.M t (p.1,p.2.1++[(k,n)],p.2.2.1,p.2.2.2)) u=none:=hu
    rw[d6] at hu'
    split at hu'
    · cases hu'
    · exact G.non u hu'
 | vote t k n p t0 t1 hg h0=>exact aN9 G hg rfl (by simp) (by simp) (by omega) (by simp only;split<;>omega) rfl
 | loc t k n p t0 t1 hg h1 hf=>exact aN9 G hg rfl (by simp) (by simp) (by omega) (by simp only;omega) rfl
 | dec1 t k n p t0 t1 hg hx h3 h1 =>
  have ho:mJ [] (s.G++[(6,t,k,n)])=bE (mJ [] s.G) t n:=by rw[uB,if_pos rfl]
  refine⟨fun c k'=>?_,fun u x hx=>?_,fun u hu=>?_,aBV G rfl,vT G (fun h=>by simp at h),aCU G rfl⟩
  · show tot (vE c (s.G++[(6,t,k,n)])) k'=_
    rw[tX,uL,if_neg (by simp),List.append_nil,zT _ _ _ hg,G.sum c k']
    simp only
    omega
  · show bN (mJ [] (s.G++[(6,t,k,n)])) u=_
    rw[ho,d6]
    have hx':bN (bE s.M t (3,p.2.1,p.2.2.1,n)) u=some x:=hx
    rw[d6] at hx'
    split at hx'
    · rename_i e
      cases hx'
      rw[if_pos e,if_pos rfl]
    · rename_i e
      rw[if_neg e];exact G.out u x hx'
  · show bN (mJ [] (s.G++[(6,t,k,n)])) u=none
    rw[ho,d6]
    have hu':bN (bE s.M t (3,p.2.1,p.2.2.1,n)) u=none:=hu
    rw[d6] at hu'
    split at hu'
    · cases hu'
    · rename_i e
      rw[if_neg e];exact G.non u hu'
 | dec2 t k n p t0 t1 hg hx h3 ho2 =>
  have hmp:bE s.M t p=s.M:=aBM hg
  have ho:mJ [] (s.G++[(6,t,k,n)])=bE (mJ [] s.G) t n:=by rw[uB,if_pos rfl]
  have hon:bN (mJ [] s.G) t=some n:=by rw[G.out t p hg,if_pos h3,ho2]
  simp only[hmp]
  refine⟨fun c k'=>?_,fun u x hx=>?_,fun u hu=>?_,fun x hx=>?_,vT G (fun h=>by simp at h),fun u x hx=>?_⟩
  · show tot (vE c (s.G++[(6,t,k,n)])) k'=_
    rw[tX,uL,if_neg (by simp),List.append_nil];exact G.sum c k'
  · show bN (mJ [] (s.G++[(6,t,k,n)])) u=_
    rw[ho,d6]
    split
    · rename_i e
      rw[e] at hx
      have:=G.out t x hx
      rw[hon] at this
      exact this
    · exact G.out u x hx
  · show bN (mJ [] (s.G++[(6,t,k,n)])) u=none
    rw[ho,d6]
    split
    · rename_i e
      rw[e] at hu
      rw[show bN s.M t=none from hu] at hg;cases hg
    · exact G.non u hu
  · rcases List.mem_append.1 hx with h | h
    · exact G.has x h
    · rcases List.mem_singleton.1 h with rfl;exact⟨p,hg⟩
  · obtain⟨y,hy,e⟩:=G.bgn u x hx;exact⟨y,by simp [hy],e⟩
end
end Go.Ws.L10
