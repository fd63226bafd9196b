/-
  wheel_Wheel_find: what the machine makes of it. (Printed by my own program.)
  Conditions: none.
-/
import Derived.Test.YtgaodljkmdafdaaZPre
import Derived.Test.YtgaodljkmdafdaaZPure
import Derived.Test.YtgaodljkmdafdaaZW32
set_option linter.unusedVariables false
set_option linter.unusedSimpArgs false
namespace Go.Ws
open Go.Proofs
set_option linter.unusedSimpArgs false
set_option linter.unusedVariables false
set_option maxRecDepth 1000000
set_option maxHeartbeats 4000000
noncomputable def X25:Ctx:=⟨Try.f25,[],true⟩
theorem ok_wheel_Wheel_find (k:Nat) (x1:Int) (x2:Ty1) (x3:Int) (r:Int) (h:wheel_Wheel_find k x1 x2 x3=some r):Tri Try.prog 25 [(.agg [(.int .i64 x1),(.sl 2 (List.map e_i64_i64 x2))]),(.int .i64 x3)] [] (.int .i64 r) []:=by
 unfold wheel_Wheel_find at h
 obtain⟨x4,e0,h⟩:=bsm h
 obtain rfl:=osi h
 exact Tri.of (x:=X25) mixed facts25 [.call ⟨true,[]⟩ (.int .i64 x4) [(.row [(.int .i64 x3)])]] [⟨(ok_slices_IndexFunc k x2 x3 _ e0)⟩] (by kernel_rfl)
end Go.Ws
