/-
  Disks, plain: what every call makes of one, in both.
  Conditions: none.
-/
import Derived.Test.YtpaekffehfdmgaaGreatDoorZCats
import Derived.KernelRfl
set_option linter.unusedVariables false
set_option linter.unusedSimpArgs false
namespace Go.Ws
set_option linter.unusedVariables false
set_option linter.unusedSimpArgs false
set_option maxHeartbeats 1000000

structure Dk (b:List Int) (s r:Int):Prop where
 by_:gV b
 len:b.length≤200000
 s0:0≤s
 s1:s≤b.length
 r0:b.length≤r
 r1:r≤1048576
section
variable {b:List Int} {s r:Int}
theorem aEN (D:Dk b s r) {n:Nat} {v:Int} (hv:v=(n:Int)) (hn:n≤b.length):kT b s r v=some ()∧iM b s r v=some (b.take n,dG s n,r):=by
 have h1:=D.len
 have e:dO 0 (dG v (nI b.length))=(n:Int):=by rw[aEM,aHJ (by omega),aNU (by omega),hv]
 constructor
 · rw[kT]
   simp only[e,pE]
   repeat (first|refine ip0 ?_|refine jn0 ?_|refine(bnd (gN (b.take n) (by simp;omega))).trans ?_)
   rfl
 · rw[iM]
   simp only[e,pE]
   repeat (first|refine ip0 ?_|refine jn0 ?_|refine(bnd (gN (b.take n) (by simp;omega))).trans ?_)
   rfl
theorem aOS (D:Dk b s r):kT b s r (nI b.length)=some ()∧iM b s r (nI b.length)=some (b,s,r):=by
 have:=aEN D (n:=b.length) (v:=nI b.length) rfl (Nat.le_refl _)
 rw[List.take_length,aHJ D.s1] at this
 exact this
theorem aU8 (D:Dk b s r) {x:List Int} (hx:gV x) (h:x.length≤4000) (hr:b.length+(x.length+7)≤r):jB b s r x=some (b++fr x,s,r,0)∧True:=by
 have o:=aOS D
 have h1:=D.len
 have e:dO 0 (dG (nI b.length) (nI b.length))=(b.length:Int):=by rw[aEM,aHJ (by omega),aNU (by omega)]
 have e2:=aHJ D.s1
 have hf:=wF x
 constructor
 · rw[jB]
   simp only[e,pE,List.take_length,e2]
   repeat (first|refine ip (by first|with_reducible rfl | assumption | (simp (disch:=omega) only[ws,wl,wb,hf]<;>omega)|omega) ?_|refine jn (by first|with_reducible rfl | assumption | (simp (disch:=omega) only[ws,wl,wb,hf]<;>omega)|omega) ?_|refine(bnd o.1).trans ?_|refine(bnd o.2).trans ?_|refine(bnd (frame_ok hx h).1).trans ?_)
   rfl
 · trivial
theorem Dk.more (D:Dk b s r) {x:List Int} (hx:gV x) (h:x.length≤4000) (hr:b.length+(x.length+7)≤r) (hl:b.length+(x.length+7)≤200000):Dk (b++fr x) s r:=by
 have h1:=D.s1
 have hf:=wF x
 exact⟨D.by_.append (aJQ hx h),by rw[List.length_append,hf];exact hl,D.s0,by rw[List.length_append,hf];omega,by rw[List.length_append,hf];omega,D.r1⟩
theorem aSX (D:Dk b s r):j6 b s r=some (b,(b.length:Int),r):=by
 rw[j6]
 repeat (first|refine ip0 ?_|refine jn0 ?_|refine(bnd (aOS D).1).trans ?_|refine(bnd (aOS D).2).trans ?_)
 rfl
theorem Dk.take (D:Dk b s r) {n:Nat} (hn:n≤b.length) {s':Int} (h0:0≤s') (h1:s'≤n):Dk (b.take n) s' r:=by
 have:=D.r0;have:=D.len
 exact⟨D.by_.take n,by rw[List.length_take];omega,h0,by rw[List.length_take];omega,by rw[List.length_take];omega,D.r1⟩
theorem crash_ok (D:Dk b s r) {c n:Nat} {v:Int} (hv:v=(c:Int)) (hc:c≤65535) (hn:(n:Int)=s+(c:Int) % (b.length - s+1)):kX b s r v=some (b.take n,(n:Int),r)∧True:=by
 have h0:=D.s0;have h1:=D.s1;have h2:=D.len
 have hm:=Int.emod_lt_of_pos (c:Int) (show 0<(b.length:Int) - s+1 by omega)
 have hm0:=Int.emod_nonneg (c:Int) (show (b.length:Int) - s+1≠0 by omega)
 have hnl:n≤b.length:=by omega
 have e1:aH .i64 (vS .i64 (nI b.length) s) 1=(b.length:Int) - s+1:=by rw[aEM,aJO (by omega),qW (by omega)]
 have e2:gK .i64 (conv .i64 v) ((b.length:Int) - s+1)=(c:Int) % (b.length - s+1):=by rw[xY (by omega),aBG (by omega),hv]
 have e3:aH .i64 s ((c:Int) % (b.length - s+1))=(n:Int):=by rw[qW (by omega)];omega
 constructor
 · have e4:dO 0 (vS .i64 (nI b.length) s)=vS .i64 (nI b.length) s:=by rw[aEM,aJO (by omega),aNU (by omega)]
   have o:=aEN D (n:=n) rfl hnl
   rw[aHJ (show s≤n by omega)] at o
   have D2:=D.take hnl h0 (show s≤(n:Int) by omega)
   have q:=aSX D2
   have hl:((b.take n).length:Int)=n:=by rw[List.length_take];omega
   rw[hl] at q
   rw[kX]
   simp only[e4,e1,e2,e3]
   repeat (first|refine ip0 ?_|refine jn0 ?_|refine(bnd o.1).trans ?_|refine(bnd o.2).trans ?_|refine(bnd q).trans ?_)
   rfl
 · trivial
theorem aSA (D:Dk b s r):lV b s r=some ((all b).1,((all b).2:Int)):=by
 have h2:=D.len
 rw[lV]
 repeat (first|refine ip0 ?_|refine jn0 ?_|refine(bnd (sum_all D.by_ (by omega))).trans ?_)
 rfl
end
theorem crash_n {b:List Int} {s r:Int} (D:Dk b s r) (c:Nat):∃n:Nat,(n:Int)=s+(c:Int) % (b.length - s+1)∧n≤b.length∧s≤n:=by
 have h0:=D.s0;have h1:=D.s1
 have hm:=Int.emod_lt_of_pos (c:Int) (show 0<(b.length:Int) - s+1 by omega)
 have hm0:=Int.emod_nonneg (c:Int) (show (b.length:Int) - s+1≠0 by omega)
 exact⟨(s+(c:Int) % (b.length - s+1)).toNat,by omega,by omega,by omega⟩
theorem cut_at:∀(L:List (List Int)) (n:Nat),∃w,w≤L.length∧(cat (L.take w)).length≤n∧(w=L.length∨n<(cat (L.take (w+1))).length)
 | [],n=>⟨0,Nat.le_refl _,by simp [cat],.inl rfl⟩
 | l::t,n=>by
  by_cases h:n<(fr l).length
  · exact⟨0,Nat.zero_le _,by simp [cat],.inr (by simp [cat];omega)⟩
  · obtain⟨w,h1,h2,h3⟩:=cut_at t (n - (fr l).length)
    refine⟨w+1,by simp;omega,by simp [cat];omega,?_⟩
    rcases h3 with h3 | h3
    · left;simp [h3]
    · right;simp [cat];omega
end Go.Ws
