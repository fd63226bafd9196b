/-
  slices_Clone: what the machine makes of it. (Printed by my own program.)
  Conditions: none.
-/
import Derived.Test.YtgaodljkmdafdaaZPre
import Derived.Test.YtgaodljkmdafdaaZPure
import Derived.Test.YtgaodljkmdafdaaZW24_1001
import Derived.Test.YtgaodljkmdafdaaZW24_1002
set_option linter.unusedVariables false
set_option linter.unusedSimpArgs false
namespace Go.Ws
open Go.Proofs
set_option linter.unusedSimpArgs false
set_option linter.unusedVariables false
set_option maxRecDepth 1000000
set_option maxHeartbeats 4000000
theorem ok_slices_Clone (k:Nat) (x1:Ty1) (r:Unit) (h:slices_Clone k x1=some r):Tri Try.prog 24 [(.sl 2 (List.map e_i64_i64 x1))] [] (.ref 2 0 0 0 x1.length .virt) [(.arr 2 (List.map e_i64_i64 x1) 0 0 false)]:=by
 refine Tri.slOf (ok_slices_Clone_1001 k x1 r h) fun h0=>?_
 have hx:x1=[]:=by simpa using h0
 subst hx
 exact ok_slices_Clone_1002
end Go.Ws
