/-
  slices_Delete_1: what the machine makes of it. (Printed by my own program.)
  Conditions: none.
-/
import Derived.Test.YtlgkcajgkahmgaaZPre
import Derived.Test.YtlgkcajgkahmgaaZPure
import Derived.Test.YtlgkcajgkahmgaaZDel28
set_option linter.unusedVariables false
set_option linter.unusedSimpArgs false
namespace Go.Ws
open Go.Proofs
set_option linter.unusedSimpArgs false
set_option linter.unusedVariables false
set_option maxRecDepth 1000000
set_option maxHeartbeats 4000000
theorem ok_slices_Delete_1 (k : Nat) (x1 : Int) (x2 : Int) (x3 : List (Int × Int)) (r : List (Int × Int)) (h : slices_Delete_1 k x1 x2 x3 = some r) : Tri Try.prog 28 [(.ref 2 0 1 0 x3.length .full), (.int .i64 x1), (.int .i64 x2)] [(.arr 2 (List.map e_u8_i64 x3) 1 1 false)] (.ref 2 0 2 0 r.length .full) [(.arr 2 (List.map e_u8_i64 r) 2 2 false)] := del_ok28 _ h
end Go.Ws
