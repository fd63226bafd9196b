/-
  wheel_Wheel_find_1: what the machine makes of it. (Printed by my own program.)
  Conditions: none.
-/
import Derived.Test.YtgaodljkmdafdaaZPre
import Derived.Test.YtgaodljkmdafdaaZPure
set_option linter.unusedVariables false
set_option linter.unusedSimpArgs false
namespace Go.Ws
open Go.Proofs
set_option linter.unusedSimpArgs false
set_option linter.unusedVariables false
set_option maxRecDepth 1000000
set_option maxHeartbeats 4000000
noncomputable def X33 (x3:Int):Ctx:=⟨Try.f33,[(.row [(.int .i64 x3)])],false⟩
theorem ok_wheel_Wheel_find_1 (x1:Int) (x2:Int) (x3:Int):Tri Try.prog 33 [(.agg [(.int .i64 x1),(.int .i64 x2)]),(.hp 0 0)] [(.row [(.int .i64 x3)])] (.bool (eqI x1 x3)) [(.row [(.int .i64 x3)])]:=by
 obtain⟨r,h⟩:∃r,wheel_Wheel_find_1 x1 x2 x3=r:=⟨_,rfl⟩
 try rw[h]
 unfold wheel_Wheel_find_1 at h
 obtain rfl:=h
 exact Tri.of (x:=(X33 x3)) mixed facts33 [.norm 0 ⟨[(3,[])],[],false,[],[]⟩] [] (by kernel_rfl)
end Go.Ws
