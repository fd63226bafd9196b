/-
  sum_Sum: what the machine makes of it. (Printed by my own program.)
  Conditions: none.
-/
import Derived.Test.YtaddlnmhjlmneaaZPre
import Derived.Test.YtaddlnmhjlmneaaZPure
import Derived.Test.YtaddlnmhjlmneaaZSumI
set_option linter.unusedVariables false
set_option linter.unusedSimpArgs false
namespace Go.Ws
open Go.Proofs
set_option linter.unusedSimpArgs false
set_option linter.unusedVariables false
set_option maxRecDepth 1000000
set_option maxHeartbeats 4000000
theorem ok_sum_Sum (k : Nat) (x1 : List Int) (r : Int) (h : sum_Sum k x1 = some r) : Tri Try.prog 32 [(.sl 1 (List.map e_u8 x1))] [] (.int .u32 r) [] := sum_tri h
end Go.Ws
