/-
  slices_Insert: what the machine makes of it. (Printed by my own program.)
  Conditions: none.
-/
import Derived.Test.YtgaodljkmdafdaaZPre
import Derived.Test.YtgaodljkmdafdaaZPure
import Derived.Test.YtgaodljkmdafdaaZIns28
set_option linter.unusedVariables false
set_option linter.unusedSimpArgs false
namespace Go.Ws
open Go.Proofs
set_option linter.unusedSimpArgs false
set_option linter.unusedVariables false
set_option maxRecDepth 1000000
set_option maxHeartbeats 4000000
theorem ok_slices_Insert (k:Nat) (x1:Int) (x2:Ty1) (x3:Ty1) (r:Ty1) (h:slices_Insert k x1 x2 x3=some r):Tri Try.prog 28 [(.ref 2 0 0 0 x2.length .virt),(.int .i64 x1),(.ref 2 1 0 0 x3.length .full)] [(.arr 2 (List.map e_i64_i64 x2) 0 0 false),(.arr 2 (List.map e_i64_i64 x3) 0 0 false)] (.ref 2 0 1 0 r.length .full) [(.arr 2 (List.map e_i64_i64 r) 1 1 false),(.arr 2 (List.map e_i64_i64 x3) 0 0 false)]:=ins_ok28 _ h rfl
end Go.Ws
