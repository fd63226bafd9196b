/-
  cmp_Compare: what the machine makes of it. (Printed by my own program.)
  Conditions: none.
-/
import Derived.Test.YtgaodljkmdafdaaZPre
import Derived.Test.YtgaodljkmdafdaaZPure
import Derived.Test.YtgaodljkmdafdaaZW39
set_option linter.unusedVariables false
set_option linter.unusedSimpArgs false
namespace Go.Ws
open Go.Proofs
set_option linter.unusedSimpArgs false
set_option linter.unusedVariables false
set_option maxRecDepth 1000000
set_option maxHeartbeats 4000000
noncomputable def X35:Ctx:=⟨Try.f35,[],true⟩
theorem ok_cmp_Compare (x1:Int) (x2:Int):Tri Try.prog 35 [(.int .i64 x1),(.int .i64 x2)] [] (.int .i64 (cmp_Compare x1 x2)) []:=by
 obtain⟨r,h⟩:∃r,cmp_Compare x1 x2=r:=⟨_,rfl⟩
 try rw[h]
 unfold cmp_Compare at h
 let u1:List Ans:=[.call ⟨true,[]⟩ (.bool (cmp_isNaN x1)) [],.call ⟨true,[]⟩ (.bool (cmp_isNaN x2)) []]
 let w2:List Prf:=[⟨(ok_cmp_isNaN x2)⟩,⟨(ok_cmp_isNaN x1)⟩]
 by_cases c0:(cmp_isNaN x1)=true
 · rw[if_pos c0] at h
   by_cases c1:(cmp_isNaN x2)=true
   · rw[if_pos c1] at h
     obtain rfl:=h
     exact Tri.of (x:=X35) mixed facts35 (u1++[dt,dt]) ([⟨c1⟩,⟨c0⟩]++w2) (by kernel_rfl)
   rw[if_neg c1] at h;replace c1:=eqf c1
   obtain rfl:=h
   exact Tri.of (x:=X35) mixed facts35 (u1++[dt,df]) ([⟨c1⟩,⟨c0⟩]++w2) (by kernel_rfl)
 rw[if_neg c0] at h;replace c0:=eqf c0
 by_cases c1:(cmp_isNaN x2)=true
 · rw[if_pos c1] at h
   obtain rfl:=h
   exact Tri.of (x:=X35) mixed facts35 (u1++[df,dt]) ([⟨c1⟩,⟨c0⟩]++w2) (by kernel_rfl)
 rw[if_neg c1] at h;replace c1:=eqf c1
 by_cases c2:ltI x1 x2=true
 · rw[if_pos c2] at h
   obtain rfl:=h
   exact Tri.of (x:=X35) mixed facts35 (u1++[df,df,dt]) ([⟨c2⟩,⟨c1⟩,⟨c0⟩]++w2) (by kernel_rfl)
 rw[if_neg c2] at h;replace c2:=eqf c2
 by_cases c3:ltI x2 x1=true
 · rw[if_pos c3] at h
   obtain rfl:=h
   exact Tri.of (x:=X35) mixed facts35 (u1++[df,df,df,dt]) ([⟨c3⟩,⟨c2⟩,⟨c1⟩,⟨c0⟩]++w2) (by kernel_rfl)
 rw[if_neg c3] at h;replace c3:=eqf c3
 obtain rfl:=h
 exact Tri.of (x:=X35) mixed facts35 (u1++[df,df,df,df]) ([⟨c3⟩,⟨c2⟩,⟨c1⟩,⟨c0⟩]++w2) (by kernel_rfl)
end Go.Ws
