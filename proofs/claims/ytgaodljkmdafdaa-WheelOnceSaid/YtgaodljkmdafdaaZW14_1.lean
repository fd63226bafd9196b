/-
  wheel_Stop_1: what the machine makes of it. (Printed by my own program.)
  Conditions: none.
-/
import Derived.Test.YtgaodljkmdafdaaZPre
import Derived.Test.YtgaodljkmdafdaaZPure
import Derived.Test.YtgaodljkmdafdaaZW20
import Derived.Test.YtgaodljkmdafdaaZW24
import Derived.Test.YtgaodljkmdafdaaZW25
import Derived.Test.YtgaodljkmdafdaaZW31
set_option linter.unusedVariables false
set_option linter.unusedSimpArgs false
namespace Go.Ws
open Go.Proofs
set_option linter.unusedSimpArgs false
set_option linter.unusedVariables false
set_option maxRecDepth 1000000
set_option maxHeartbeats 4000000
noncomputable def X14_1:Ctx:=⟨Try.f14,[],false⟩
def A14_1_0:Ans:=.norm 0 ⟨[(4,[]),(5,[])],[⟨.tmp 4,[],none⟩,⟨.cell 0 1,[],some 2⟩],false,[],[]⟩
theorem ok_wheel_Stop_1 (k:Nat) (x1:Int) (x2:Ty1) (x3:Int) (r:Int × Ty1) (h:wheel_Stop_1 k x1 x2 x3=some r):Tri Try.prog 14 [(.agg [(.int .i64 x1),(.sl 2 (List.map e_i64_i64 x2))]),(.int .i64 x3)] [] (.tup [(.agg [(.int .i64 x1),(.ref 2 0 0 0 r.2.length .virt)]),(.int .i64 r.1)]) [(.arr 2 (List.map e_i64_i64 r.2) 0 0 false)]:=by
 unfold wheel_Stop_1 at h
 obtain⟨x4,e0,h⟩:=bsm h
 obtain⟨x5,e1,h⟩:=bsm h
 let u1:List Ans:=[.call ⟨true,[]⟩ (.ref 2 0 0 0 x2.length .virt) [(.arr 2 (List.map e_i64_i64 x2) 0 0 false)],.call ⟨true,[]⟩ (.bool x5) [],.rows (List.map e_i64_i64 x2)]
 let w2:List Prf:=[⟨(ok_wheel_Right k x1 x2 _ e1)⟩,⟨(part_all e_i64_i64 (l:=x2) (n:=x2.length) rfl)⟩,⟨(le_map e_i64_i64 (Nat.le_refl x2.length):0+x2.length≤(List.map e_i64_i64 x2).length)⟩,⟨(ok_slices_Clone k x2 _ e0)⟩]
 by_cases c2:x5=true
 · rw[if_pos c2] at h
   obtain⟨x6,e3,h⟩:=bsm h
   let u3:List Ans:=u1++[df,.call ⟨true,[]⟩ (.int .i64 x6) [],.rows (List.map e_i64_i64 x2)]
   let w4:List Prf:=[⟨(ok_wheel_Wheel_find k x1 x2 x3 _ e3)⟩,⟨(part_all e_i64_i64 (l:=x2) (n:=x2.length) rfl)⟩,⟨(le_map e_i64_i64 (Nat.le_refl x2.length):0+x2.length≤(List.map e_i64_i64 x2).length)⟩,⟨(nF c2)⟩]++w2
   by_cases c4:ltI x6 0=true
   · rw[if_pos c4] at h
     obtain rfl:=osi h
     exact Tri.of (x:=X14_1) mixed facts14 (u3++[dt,A14_1_0,.n x2.length,.rows (List.map e_i64_i64 x2)]) ([⟨(take_all e_i64_i64 (l:=x2) (n:=x2.length) rfl)⟩,⟨(rfl:x2.length=x2.length)⟩,⟨(zle x2.length)⟩,⟨c4⟩]++w4) (by kernel_rfl)
   rw[if_neg c4] at h;replace c4:=eqf c4
   obtain⟨x7,e5,h⟩:=bsm h
   obtain rfl:=osi h
   exact Tri.of (x:=X14_1) mixed facts14 (u3++[df,.call ⟨false,[]⟩ (.ref 2 0 1 0 x7.length .full) [(.arr 2 (List.map e_i64_i64 x7) 1 1 false)],A14_1_0,.n x7.length,.rows (List.map e_i64_i64 x7)]) ([⟨(take_all e_i64_i64 (l:=x7) (n:=x7.length) rfl)⟩,⟨(rfl:x7.length=x7.length)⟩,⟨(zle x7.length)⟩,⟨(ok_slices_Delete k x6 (iadd .i64 x6 1) x2 _ e5)⟩,⟨c4⟩]++w4) (by kernel_rfl)
 rw[if_neg c2] at h;replace c2:=eqf c2
 obtain rfl:=osi h
 exact Tri.of (x:=X14_1) mixed facts14 (u1++[dt,A14_1_0,.n x2.length,.rows (List.map e_i64_i64 x2)]) ([⟨(take_all e_i64_i64 (l:=x2) (n:=x2.length) rfl)⟩,⟨(rfl:x2.length=x2.length)⟩,⟨(zle x2.length)⟩,⟨(nT c2)⟩]++w2) (by kernel_rfl)
end Go.Ws
