/-
  cmp_isNaN: what the machine makes of it. (Printed by my own program.)
  Conditions: none.
-/
import Derived.Test.YtgaodljkmdafdaaZPre
import Derived.Test.YtgaodljkmdafdaaZPure
set_option linter.unusedVariables false
set_option linter.unusedSimpArgs false
namespace Go.Ws
open Go.Proofs
set_option linter.unusedSimpArgs false
set_option linter.unusedVariables false
set_option maxRecDepth 1000000
set_option maxHeartbeats 4000000
noncomputable def X39:Ctx:=⟨Try.f39,[],true⟩
theorem ok_cmp_isNaN (x1:Int):Tri Try.prog 39 [(.int .i64 x1)] [] (.bool (cmp_isNaN x1)) []:=by
 obtain⟨r,h⟩:∃r,cmp_isNaN x1=r:=⟨_,rfl⟩
 try rw[h]
 unfold cmp_isNaN at h
 obtain rfl:=h
 exact Tri.of (x:=X39) mixed facts39 [] [] (by kernel_rfl)
end Go.Ws
