/-
  slices_Clone_1: what the machine makes of it. (Printed by my own program.)
  Conditions: none.
-/
import Derived.Test.YtgaodljkmdafdaaZPre
import Derived.Test.YtgaodljkmdafdaaZPure
import Derived.Test.YtgaodljkmdafdaaZB2
import Derived.Test.YtgaodljkmdafdaaZW24
set_option linter.unusedVariables false
set_option linter.unusedSimpArgs false
namespace Go.Ws
open Go.Proofs
set_option linter.unusedSimpArgs false
set_option linter.unusedVariables false
set_option maxRecDepth 1000000
set_option maxHeartbeats 4000000
theorem ok_slices_Clone_1 (k:Nat) (x1:Ty1) (r:Unit) (h:slices_Clone_1 k x1=some r):Tri Try.prog 24 [(.sl 2 (List.map e_i64_i64 x1))] [] (.sl 2 (List.map e_i64_i64 x1)) []:=Tri.freeze (ok_slices_Clone k x1 r h) (by simp)
end Go.Ws
