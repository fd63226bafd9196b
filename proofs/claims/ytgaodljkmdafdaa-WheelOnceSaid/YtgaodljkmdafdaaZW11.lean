/-
  wheel_Set: what the machine makes of it. (Printed by my own program.)
  Conditions: none.
-/
import Derived.Test.YtgaodljkmdafdaaZPre
import Derived.Test.YtgaodljkmdafdaaZPure
import Derived.Test.YtgaodljkmdafdaaZW14_1
import Derived.Test.YtgaodljkmdafdaaZW20
import Derived.Test.YtgaodljkmdafdaaZW24
import Derived.Test.YtgaodljkmdafdaaZW25
import Derived.Test.YtgaodljkmdafdaaZW26
import Derived.Test.YtgaodljkmdafdaaZW28
set_option linter.unusedVariables false
set_option linter.unusedSimpArgs false
namespace Go.Ws
open Go.Proofs
set_option linter.unusedSimpArgs false
set_option linter.unusedVariables false
set_option maxRecDepth 1000000
set_option maxHeartbeats 4000000
noncomputable def X11:Ctx:=⟨Try.f11,[],true⟩
def A11_0 (x1:Int) (x8:Int × Ty1):Ans:=.call ⟨true,[]⟩ (.tup [(.agg [(.int .i64 x1),(.ref 2 0 0 0 x8.2.length .virt)]),(.int .i64 x8.1)]) [(.arr 2 (List.map e_i64_i64 x8.2) 0 0 false)]
def A11_1 (x3:Int) (x4:Int) (x10:Ty1):Ans:=.call ⟨false,[]⟩ (.ref 2 0 1 0 x10.length .full) [(.arr 2 (List.map e_i64_i64 x10) 1 1 false),(.arr 2 (List.map e_i64_i64 [(x3,x4)]) 0 0 false)]
theorem ok_wheel_Set (k:Nat) (x1:Int) (x2:Ty1) (x3:Int) (x4:Int) (r:Int × Ty1 × Int) (h:wheel_Set k x1 x2 x3 x4=some r):Tri Try.prog 11 [(.agg [(.int .i64 x1),(.sl 2 (List.map e_i64_i64 x2))]),(.int .i64 x3),(.int .i64 x4)] [] (.tup [(.agg [(.int .i64 r.1),(.sl 2 (List.map e_i64_i64 r.2.1))]),(.int .i64 r.2.2)]) []:=by
 unfold wheel_Set at h
 obtain⟨x5,e0,h⟩:=bsm h
 obtain⟨x6,e1,h⟩:=bsm h
 let u1:List Ans:=[.call ⟨true,[]⟩ (.ref 2 0 0 0 x2.length .virt) [(.arr 2 (List.map e_i64_i64 x2) 0 0 false)],.call ⟨true,[]⟩ (.bool x6) [],.rows (List.map e_i64_i64 x2)]
 let w2:List Prf:=[⟨(ok_wheel_Right k x1 x2 _ e1)⟩,⟨(part_all e_i64_i64 (l:=x2) (n:=x2.length) rfl)⟩,⟨(le_map e_i64_i64 (Nat.le_refl x2.length):0+x2.length≤(List.map e_i64_i64 x2).length)⟩,⟨(ok_slices_Clone k x2 _ e0)⟩]
 by_cases c2:x6=true
 · rw[if_pos c2] at h
   by_cases c3:ltI x1 x4=true
   · rw[if_pos c3] at h
     by_cases c4:ltI 1099511627776 x4=true
     · rw[if_pos c4] at h
       obtain rfl:=osi h
       exact Tri.of (x:=X11) mixed facts11 (u1++[df,df,dt,.rows (List.map e_i64_i64 x2)]) ([⟨(part_all e_i64_i64 (l:=x2) (n:=x2.length) rfl)⟩,⟨(le_map e_i64_i64 (Nat.le_refl x2.length):0+x2.length≤(List.map e_i64_i64 x2).length)⟩,⟨c4⟩,⟨(nF c3)⟩,⟨(nF c2)⟩]++w2) (by kernel_rfl)
     rw[if_neg c4] at h;replace c4:=eqf c4
     obtain⟨x7,e5,h⟩:=bsm h
     let u7:List Ans:=u1++[df,df,df,.call ⟨true,[]⟩ (.int .i64 x7) [],.rows (List.map e_i64_i64 x2)]
     let w8:List Prf:=[⟨(ok_wheel_Wheel_find k x1 x2 x3 _ e5)⟩,⟨(part_all e_i64_i64 (l:=x2) (n:=x2.length) rfl)⟩,⟨(le_map e_i64_i64 (Nat.le_refl x2.length):0+x2.length≤(List.map e_i64_i64 x2).length)⟩,⟨c4⟩,⟨(nF c3)⟩,⟨(nF c2)⟩]++w2
     by_cases c6:ltI x7 0=true
     · rw[if_pos c6] at h
       by_cases c7:ltI (nI x2.length) 1000=true
       · rw[if_pos c7] at h
         obtain⟨x8,e8,h⟩:=bsm h
         obtain⟨x9,e9,h⟩:=bsm h
         obtain⟨x10,e10,h⟩:=bsm h
         obtain rfl:=osi h
         exact Tri.of (x:=X11) mixed facts11 (u7++[dt,dt,dt,dt,dt,df,(A11_0 x1 x8),.rows (List.map e_i64_i64 x2),.call ⟨true,[]⟩ (.tup [(.int .i64 x9.1),(.bool x9.2)]) [],.rows (List.map e_i64_i64 x8.2),(A11_1 x3 x4 x10),.rows (List.map e_i64_i64 x10)]) ([⟨(part_all e_i64_i64 (l:=x10) (n:=x10.length) rfl)⟩,⟨(le_map e_i64_i64 (Nat.le_refl x10.length):0+x10.length≤(List.map e_i64_i64 x10).length)⟩,⟨(ok_slices_Insert k x9.1 x8.2 [(x3,x4)] _ e10)⟩,⟨(ok_slices_BinarySearchFunc k x8.2 x3 x4 _ e9)⟩,⟨(part_all e_i64_i64 (l:=x8.2) (n:=x8.2.length) rfl)⟩,⟨(le_map e_i64_i64 (Nat.le_refl x8.2.length):0+x8.2.length≤(List.map e_i64_i64 x8.2).length)⟩,⟨(ok_wheel_Stop_1 k x1 x2 x3 _ e8)⟩,⟨(part_all e_i64_i64 (l:=x2) (n:=x2.length) rfl)⟩,⟨(le_map e_i64_i64 (Nat.le_refl x2.length):0+x2.length≤(List.map e_i64_i64 x2).length)⟩,⟨(nF c7)⟩,⟨c6⟩,⟨c6⟩,⟨c6⟩,⟨c6⟩,⟨c6⟩]++w8) (by kernel_rfl)
       rw[if_neg c7] at h;replace c7:=eqf c7
       obtain rfl:=osi h
       exact Tri.of (x:=X11) mixed facts11 (u7++[dt,dt,dt,dt,dt,dt,.rows (List.map e_i64_i64 x2)]) ([⟨(part_all e_i64_i64 (l:=x2) (n:=x2.length) rfl)⟩,⟨(le_map e_i64_i64 (Nat.le_refl x2.length):0+x2.length≤(List.map e_i64_i64 x2).length)⟩,⟨(nT c7)⟩,⟨c6⟩,⟨c6⟩,⟨c6⟩,⟨c6⟩,⟨c6⟩]++w8) (by kernel_rfl)
     rw[if_neg c6] at h;replace c6:=eqf c6
     obtain⟨x8,e7,h⟩:=bsm h
     obtain⟨x9,e8,h⟩:=bsm h
     obtain⟨x10,e9,h⟩:=bsm h
     obtain rfl:=osi h
     exact Tri.of (x:=X11) mixed facts11 (u7++[df,df,df,df,df,df,(A11_0 x1 x8),.rows (List.map e_i64_i64 x2),.call ⟨true,[]⟩ (.tup [(.int .i64 x9.1),(.bool x9.2)]) [],.rows (List.map e_i64_i64 x8.2),(A11_1 x3 x4 x10),.rows (List.map e_i64_i64 x10)]) ([⟨(part_all e_i64_i64 (l:=x10) (n:=x10.length) rfl)⟩,⟨(le_map e_i64_i64 (Nat.le_refl x10.length):0+x10.length≤(List.map e_i64_i64 x10).length)⟩,⟨(ok_slices_Insert k x9.1 x8.2 [(x3,x4)] _ e9)⟩,⟨(ok_slices_BinarySearchFunc k x8.2 x3 x4 _ e8)⟩,⟨(part_all e_i64_i64 (l:=x8.2) (n:=x8.2.length) rfl)⟩,⟨(le_map e_i64_i64 (Nat.le_refl x8.2.length):0+x8.2.length≤(List.map e_i64_i64 x8.2).length)⟩,⟨(ok_wheel_Stop_1 k x1 x2 x3 _ e7)⟩,⟨(part_all e_i64_i64 (l:=x2) (n:=x2.length) rfl)⟩,⟨(le_map e_i64_i64 (Nat.le_refl x2.length):0+x2.length≤(List.map e_i64_i64 x2).length)⟩,⟨rF⟩,⟨c6⟩,⟨c6⟩,⟨c6⟩,⟨c6⟩,⟨c6⟩]++w8) (by kernel_rfl)
   rw[if_neg c3] at h;replace c3:=eqf c3
   obtain rfl:=osi h
   exact Tri.of (x:=X11) mixed facts11 (u1++[df,dt,.rows (List.map e_i64_i64 x2)]) ([⟨(part_all e_i64_i64 (l:=x2) (n:=x2.length) rfl)⟩,⟨(le_map e_i64_i64 (Nat.le_refl x2.length):0+x2.length≤(List.map e_i64_i64 x2).length)⟩,⟨(nT c3)⟩,⟨(nF c2)⟩]++w2) (by kernel_rfl)
 rw[if_neg c2] at h;replace c2:=eqf c2
 obtain rfl:=osi h
 exact Tri.of (x:=X11) mixed facts11 (u1++[dt,.rows (List.map e_i64_i64 x2)]) ([⟨(part_all e_i64_i64 (l:=x2) (n:=x2.length) rfl)⟩,⟨(le_map e_i64_i64 (Nat.le_refl x2.length):0+x2.length≤(List.map e_i64_i64 x2).length)⟩,⟨(nT c2)⟩]++w2) (by kernel_rfl)
end Go.Ws
