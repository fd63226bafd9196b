/-
  slices_Delete: what the machine makes of it. (Printed by my own program.)
  Conditions: none.
-/
import Derived.Test.YtgaodljkmdafdaaZPre
import Derived.Test.YtgaodljkmdafdaaZPure
import Derived.Test.YtgaodljkmdafdaaZDel31
set_option linter.unusedVariables false
set_option linter.unusedSimpArgs false
namespace Go.Ws
open Go.Proofs
set_option linter.unusedSimpArgs false
set_option linter.unusedVariables false
set_option maxRecDepth 1000000
set_option maxHeartbeats 4000000
theorem ok_slices_Delete (k:Nat) (x1:Int) (x2:Int) (x3:Ty1) (r:Ty1) (h:slices_Delete k x1 x2 x3=some r):Tri Try.prog 31 [(.ref 2 0 0 0 x3.length .virt),(.int .i64 x1),(.int .i64 x2)] [(.arr 2 (List.map e_i64_i64 x3) 0 0 false)] (.ref 2 0 1 0 r.length .full) [(.arr 2 (List.map e_i64_i64 r) 1 1 false)]:=del_ok31 _ h
end Go.Ws
