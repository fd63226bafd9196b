/-
  What a log tells of a site's parts.
  Conditions: none.
-/
import Derived.Test.YtipeekdnpocclaaZModel
set_option linter.unusedVariables false
set_option linter.unusedSimpArgs false
namespace Go.Ws.L10
open L7 L8 L9
set_option linter.unusedVariables false
set_option linter.unusedSimpArgs false
set_option linter.unusedSectionVars false
set_option maxHeartbeats 1000000
theorem sR:∀(l:List Rec) (m:List (Int × Int)) (r:Rec),kK m (l++[r])=if r.1=6 then aR (kK m l) r.2.1 r.2.2.2 else kK m l
 | [],m,r=>rfl
 | x::l,m,r=>by simp only[List.cons_append,kK];exact sR l _ r
def rR (c:Int→Bool) (l:List Rec):Dl:=(l.filter fun r=>eqI r.1 3 && c r.2.1).map fun r=>r.2.2
theorem sL (c:Int→Bool) (a b:List Rec):rR c (a++b)=rR c a++rR c b:=by unfold rR;rw[List.filter_append,List.map_append]
theorem sY (c:Int→Bool) (r:Rec):rR c [r]=if r.1=3∧c r.2.1=true then [r.2.2] else []:=by
 unfold rR
 rw[List.filter_cons,List.filter_nil]
 by_cases h:r.1=3
 · rw[dM.2 h,Bool.true_and]
   cases hc:c r.2.1
   · rw[if_neg (by simp),if_neg (by simp)];rfl
   · rw[if_pos rfl,if_pos ⟨h,rfl⟩];rfl
 · rw[eqf fun h2=>h (dM.1 h2),Bool.false_and,if_neg (by simp),if_neg (fun h2=>h h2.1)];rfl
theorem aN2 {c d:Int→Bool} {l:List Rec} (h:∀r∈l,c r.2.1=d r.2.1):rR c l=rR d l:=by
 unfold rR
 rw[List.filter_congr fun r hr=>by rw[h r hr]]
def aE0 (f:Int × Pt→Dl) (M:List (Int × Pt)):Dl:=M.flatMap f
theorem aAG (f:Int × Pt→Dl):∀{M:List (Int × Pt)} {t:Int} {p:Pt} (q:Pt) (k:Int),bC M t=some p→tot (aE0 f (aR M t q)) k=tot (aE0 f M) k - tot (f (t,p)) k+tot (f (t,q)) k
 | [],t,p,q,k,h=>by cases h
 | (u,v)::M,t,p,q,k,h=>by
  simp only[bC] at h
  unfold aE0 at *
  by_cases e:t=u
  · rw[if_pos e] at h
    cases h
    subst e
    simp only[aR,if_true,List.flatMap_cons,gG]
    omega
  · rw[if_neg e] at h
    have:=aAG f q k h
    unfold aE0 at this
    simp only[aR,if_neg e,List.flatMap_cons,gG]
    omega
theorem aI8 (f:Int × Pt→Dl):∀{M:List (Int × Pt)} {t:Int} (q:Pt) (k:Int),bC M t=none→tot (aE0 f (aR M t q)) k=tot (aE0 f M) k+tot (f (t,q)) k
 | [],t,q,k,h=>by simp [aE0,aR,mS]
 | (u,v)::M,t,q,k,h=>by
  simp only[bC] at h
  by_cases e:t=u
  · rw[if_pos e] at h;cases h
  · rw[if_neg e] at h
    have:=aI8 f q k h
    unfold aE0 at *
    simp only[aR,if_neg e,List.flatMap_cons,gG]
    omega
theorem aH4 {f g:Int × Pt→Dl} {k:Int}:∀{M:List (Int × Pt)},(∀x∈M,tot (f x) k % 18446744073709551616=tot (g x) k % 18446744073709551616)→tot (aE0 f M) k % 18446744073709551616=tot (aE0 g M) k % 18446744073709551616
 | [],h=>rfl
 | x::M,h=>by
  have h1:=h x (by simp)
  have h2:=aH4 fun y hy=>h y (List.mem_cons_of_mem _ hy)
  unfold aE0 at *
  simp only[List.flatMap_cons,gG]
  omega
structure Lg (s:St):Prop where
 sum:∀c k,tot (rR c s.G) k=tot (aE0 (fun x=>if c x.1 then x.2.2.1 else []) s.M) k
 out:∀t p,bC s.M t=some p→bC (kK [] s.G) t=if p.1=3 then some p.2.2.2 else none
 non:∀t,bC s.M t=none→bC (kK [] s.G) t=none
 has:∀r∈s.G,∃p,bC s.M r.2.1=some p
 key:∀r∈s.G,r.1=3→0≤r.2.2.1∧r.2.2.1<64∧InR r.2.2.2
 bgn:∀t p,bC s.M t=some p→∃r∈s.G,r.2.1=t
theorem lg_nil:Lg ⟨[],[],[],[]⟩:=⟨fun _ _=>rfl,fun _ _ h=>(by cases h),fun _ _=>rfl,fun _ h=>(by cases h),fun _ h=>(by cases h),fun _ _ h=>(by cases h)⟩
section
variable {s:St} {r:Rec}
theorem aO4 {M:List (Int × Pt)} {t:Int} {q:Pt} {u:Int} (h:∃p,bC M u=some p):∃p,bC (aR M t q) u=some p:=by
 rw[cX]
 split
 · exact⟨_,rfl⟩
 · exact h
theorem aCW {s:St} (G:Lg s) {t:Int} {q:Pt} {r:Rec} (hr:r.2.1=t):∀x∈s.G++[r],∃p,bC (aR s.M t q) x.2.1=some p:=by
 intro x hx
 rcases List.mem_append.1 hx with h | h
 · exact aO4 (G.has x h)
 · rcases List.mem_singleton.1 h with rfl
   rw[cX,if_pos hr];exact⟨_,rfl⟩
theorem wC {s:St} (G:Lg s) {r:Rec} (hr:r.1=3→0≤r.2.2.1∧r.2.2.1<64∧InR r.2.2.2):∀x∈s.G++[r],x.1=3→0≤x.2.2.1∧x.2.2.1<64∧InR x.2.2.2:=by
 intro x hx
 rcases List.mem_append.1 hx with h | h
 · exact G.key x h
 · rcases List.mem_singleton.1 h with rfl;exact hr
theorem aCN {s:St} (G:Lg s) {t:Int} {q:Pt} {r:Rec} (hr:r.2.1=t):∀u p,bC (aR s.M t q) u=some p→∃x∈s.G++[r],x.2.1=u:=by
 intro u p hp
 rw[cX] at hp
 split at hp
 · rename_i e;exact⟨r,by simp,hr.trans e.symm⟩
 · obtain⟨x,hx,hu⟩:=G.bgn u p hp;exact⟨x,by simp [hx],hu⟩
theorem aPW {s:St} (G:Lg s) {L:Dl} {K:List Ho} {t:Int} {p q:Pt} {r:Rec} (hg:bC s.M t=some p) (hr:r.2.1=t) (h3:r.1≠3) (h6:r.1≠6) (hp:p.1≠3) (hq:q.1≠3) (hadd:q.2.1=p.2.1):Lg ⟨L,K,aR s.M t q,s.G++[r]⟩:=by
 have ho:kK [] (s.G++[r])=kK [] s.G:=by rw[sR,if_neg h6]
 refine⟨fun c k=>?_,fun u x hx=>?_,fun u hu=>?_,aCW G hr,wC G fun h=>absurd h h3,aCN G hr⟩
 · show tot (rR c (s.G++[r])) k=_
   rw[sL,sY,if_neg (fun h=>h3 h.1),List.append_nil,aAG _ _ _ hg,G.sum c k]
   simp only
   rw[hadd]
   omega
 · show bC (kK [] (s.G++[r])) u=_
   rw[ho]
   have hx':bC (aR s.M t q) u=some x:=hx
   rw[cX] at hx'
   split at hx'
   · rename_i e
     cases hx'
     rw[e,G.out t p hg,if_neg hp,if_neg hq]
   · exact G.out u x hx'
 · show bC (kK [] (s.G++[r])) u=none
   rw[ho]
   have hu':bC (aR s.M t q) u=none:=hu
   rw[cX] at hu'
   split at hu'
   · cases hu'
   · exact G.non u hu'
theorem Lg.step {s:St} {N:Nat} (I:Inv s N) (G:Lg s) {r:Rec} {q:Res} (h:Step s r q):Lg q.2.2:=by
 cases h with
 | err r e he=>exact G
 | begin t k n t0 t1 hg =>
  have ho:kK [] (s.G++[(1,t,k,n)])=kK [] s.G:=by rw[sR,if_neg (by simp)]
  refine⟨fun c k'=>?_,fun u x hx=>?_,fun u hu=>?_,aCW G rfl,wC G (fun h=>by simp at h),aCN G rfl⟩
  · show tot (rR c (s.G++[(1,t,k,n)])) k'=_
    rw[sL,sY,if_neg (by simp),List.append_nil,aI8 _ _ _ hg,G.sum c k']
    simp [mS]
  · show bC (kK [] (s.G++[(1,t,k,n)])) u=_
    rw[ho]
    have hx':bC (aR s.M t (0,[],false,0)) u=some x:=hx
    rw[cX] at hx'
    split at hx'
    · rename_i e
      cases hx'
      rw[e,G.non t hg,if_neg (by simp)]
    · exact G.out u x hx'
  · show bC (kK [] (s.G++[(1,t,k,n)])) u=none
    rw[ho]
    have hu':bC (aR s.M t (0,[],false,0)) u=none:=hu
    rw[cX] at hu'
    split at hu'
    · cases hu'
    · exact G.non u hu'
 | read t k n p t0 t1 hg h0 hk0 h64 hc hgot =>
  have ho:kK [] (s.G++[(2,t,k,n)])=kK [] s.G:=by rw[sR,if_neg (by simp)]
  refine⟨fun c k'=>?_,fun u x hx=>(congrArg (bC · u) ho).trans (G.out u x hx),fun u hu=>(congrArg (bC · u) ho).trans (G.non u hu),fun x hx=>?_,wC G (fun h=>by simp at h),fun u x hx=>?_⟩
  · show tot (rR c (s.G++[(2,t,k,n)])) k'=_
    rw[sL,sY,if_neg (by simp),List.append_nil];exact G.sum c k'
  · rcases List.mem_append.1 hx with h | h
    · exact G.has x h
    · rcases List.mem_singleton.1 h with rfl;exact⟨p,hg⟩
  · obtain⟨y,hy,e⟩:=G.bgn u x hx;exact⟨y,by simp [hy],e⟩
 | add t k n p t0 t1 hg h0 hk0 h64 hx hc hgot h5 =>
  have ho:kK [] (s.G++[(3,t,k,n)])=kK [] s.G:=by rw[sR,if_neg (by simp)]
  have hp:p.1≠3:=by omega
  refine⟨fun c k'=>?_,fun u x hx=>?_,fun u hu=>?_,aCW G rfl,wC G (fun _=>⟨hk0,h64,hx⟩),aCN G rfl⟩
  · show tot (rR c (s.G++[(3,t,k,n)])) k'=_
    rw[sL,sY,gG,aAG _ _ _ hg,G.sum c k']
    simp only
    cases hc:c t
    · simp [mS]
    · simp only[if_true,true_and,gG];omega
  · show bC (kK [] (s.G++[(3,t,k,n)])) u=_
    rw[ho]
    have hx':bC (aR s.M t (p.1,p.2.1++[(k,n)],p.2.2.1,p.2.2.2)) u=some x:=hx
    rw[cX] at hx'
    split at hx'
    · rename_i e
      cases hx'
      rw[e,G.out t p hg,if_neg hp]
    · exact G.out u x hx'
  · show bC (kK [] (s.G++[(3,t,k,n)])) u=none
    rw[ho]
    have hu':bC (aR s.M t (p.1,p.2.1++[(k,n)],p.2.2.1,p.2.2.2)) u=none:=hu
    rw[cX] at hu'
    split at hu'
    · cases hu'
    · exact G.non u hu'
 | vote t k n p t0 t1 hg h0=>exact aPW G hg rfl (by simp) (by simp) (by omega) (by simp only;split<;>omega) rfl
 | loc t k n p t0 t1 hg h1 hf=>exact aPW G hg rfl (by simp) (by simp) (by omega) (by simp only;omega) rfl
 | dec1 t k n p t0 t1 hg hx h3 h1 =>
  have ho:kK [] (s.G++[(6,t,k,n)])=aR (kK [] s.G) t n:=by rw[sR,if_pos rfl]
  refine⟨fun c k'=>?_,fun u x hx=>?_,fun u hu=>?_,aCW G rfl,wC G (fun h=>by simp at h),aCN G rfl⟩
  · show tot (rR c (s.G++[(6,t,k,n)])) k'=_
    rw[sL,sY,if_neg (by simp),List.append_nil,aAG _ _ _ hg,G.sum c k']
    simp only
    omega
  · show bC (kK [] (s.G++[(6,t,k,n)])) u=_
    rw[ho,cX]
    have hx':bC (aR s.M t (3,p.2.1,p.2.2.1,n)) u=some x:=hx
    rw[cX] at hx'
    split at hx'
    · rename_i e
      cases hx'
      rw[if_pos e,if_pos rfl]
    · rename_i e
      rw[if_neg e];exact G.out u x hx'
  · show bC (kK [] (s.G++[(6,t,k,n)])) u=none
    rw[ho,cX]
    have hu':bC (aR s.M t (3,p.2.1,p.2.2.1,n)) u=none:=hu
    rw[cX] at hu'
    split at hu'
    · cases hu'
    · rename_i e
      rw[if_neg e];exact G.non u hu'
 | dec2 t k n p t0 t1 hg hx h3 ho2 =>
  have hmp:aR s.M t p=s.M:=aDL hg
  have ho:kK [] (s.G++[(6,t,k,n)])=aR (kK [] s.G) t n:=by rw[sR,if_pos rfl]
  have hon:bC (kK [] s.G) t=some n:=by rw[G.out t p hg,if_pos h3,ho2]
  simp only[hmp]
  refine⟨fun c k'=>?_,fun u x hx=>?_,fun u hu=>?_,fun x hx=>?_,wC G (fun h=>by simp at h),fun u x hx=>?_⟩
  · show tot (rR c (s.G++[(6,t,k,n)])) k'=_
    rw[sL,sY,if_neg (by simp),List.append_nil];exact G.sum c k'
  · show bC (kK [] (s.G++[(6,t,k,n)])) u=_
    rw[ho,cX]
    split
    · rename_i e
      rw[e] at hx
      have:=G.out t x hx
      rw[hon] at this
      exact this
    · exact G.out u x hx
  · show bC (kK [] (s.G++[(6,t,k,n)])) u=none
    rw[ho,cX]
    split
    · rename_i e
      rw[e] at hu
      rw[show bC s.M t=none from hu] at hg;cases hg
    · exact G.non u hu
  · rcases List.mem_append.1 hx with h | h
    · exact G.has x h
    · rcases List.mem_singleton.1 h with rfl;exact⟨p,hg⟩
  · obtain⟨y,hy,e⟩:=G.bgn u x hx;exact⟨y,by simp [hy],e⟩
end
end Go.Ws.L10
