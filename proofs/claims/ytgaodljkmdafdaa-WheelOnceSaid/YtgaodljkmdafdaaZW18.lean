/-
  wheel_Next: what the machine makes of it. (Printed by my own program.)
  Conditions: none.
-/
import Derived.Test.YtgaodljkmdafdaaZPre
import Derived.Test.YtgaodljkmdafdaaZPure
import Derived.Test.YtgaodljkmdafdaaZW20
set_option linter.unusedVariables false
set_option linter.unusedSimpArgs false
namespace Go.Ws
open Go.Proofs
set_option linter.unusedSimpArgs false
set_option linter.unusedVariables false
set_option maxRecDepth 1000000
set_option maxHeartbeats 4000000
noncomputable def X18:Ctx:=⟨Try.f18,[],true⟩
theorem ok_wheel_Next (k:Nat) (x1:Int) (x2:Ty1) (r:Int × Bool) (h:wheel_Next k x1 x2=some r):Tri Try.prog 18 [(.agg [(.int .i64 x1),(.sl 2 (List.map e_i64_i64 x2))])] [] (.tup [(.int .i64 r.1),(.bool r.2)]) []:=by
 unfold wheel_Next at h
 obtain⟨x3,e0,h⟩:=bsm h
 let u1:List Ans:=[.call ⟨true,[]⟩ (.bool x3) []]
 let w2:List Prf:=[⟨(ok_wheel_Right k x1 x2 _ e0)⟩]
 by_cases c1:x3=true
 · rw[if_pos c1] at h
   let u3:List Ans:=u1++[df,df,df,.n x2.length,df,df]
   let w4:List Prf:=[⟨(nF c1)⟩,⟨(nF c1)⟩,⟨(len_map e_i64_i64 x2)⟩,⟨(nF c1)⟩,⟨(nF c1)⟩,⟨(nF c1)⟩]++w2
   by_cases c2:eqI (nI x2.length) 0=true
   · rw[if_pos c2] at h
     obtain rfl:=osi h
     exact Tri.of (x:=X18) mixed facts18 (u3++[dt]) ([⟨c2⟩]++w4) (by kernel_rfl)
   rw[if_neg c2] at h;replace c2:=eqf c2
   by_cases c3:inI 0 x2.length=true
   · rw[if_pos c3] at h
     obtain⟨x4,e4,h⟩:=bsm h
     obtain rfl:=osi h
     exact Tri.of (x:=X18) mixed facts18 (u3++[df,.n x2.length,.row [(.int .i64 x4.2)]]) ([⟨(cells_map (e:=e_i64_i64) e4 2 1 1 (by decide))⟩,⟨c3⟩,⟨(len_map e_i64_i64 x2)⟩,⟨c2⟩]++w4) (by kernel_rfl)
   rw[if_neg c3] at h;replace c3:=eqf c3
   cases h
 rw[if_neg c1] at h;replace c1:=eqf c1
 obtain rfl:=osi h
 exact Tri.of (x:=X18) mixed facts18 (u1++[dt,dt,dt,dt,dt,dt]) ([⟨rT⟩,⟨(nT c1)⟩,⟨(nT c1)⟩,⟨(nT c1)⟩,⟨(nT c1)⟩,⟨(nT c1)⟩]++w2) (by kernel_rfl)
end Go.Ws
