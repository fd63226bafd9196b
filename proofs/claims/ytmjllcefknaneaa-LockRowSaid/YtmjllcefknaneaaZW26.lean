/-
  slices_Insert: what the machine makes of it. (Printed by my own program.)
  Conditions: none.
-/
import Derived.Test.YtmjllcefknaneaaZPre
import Derived.Test.YtmjllcefknaneaaZPure
import Derived.Test.YtmjllcefknaneaaZIns26
set_option linter.unusedVariables false
set_option linter.unusedSimpArgs false
namespace Go.Ws
open Go.Proofs
set_option linter.unusedSimpArgs false
set_option linter.unusedVariables false
set_option maxRecDepth 1000000
set_option maxHeartbeats 4000000
theorem ok_slices_Insert (k : Nat) (x1 : Int) (x2 : List (Int × Int × Bool)) (x3 : List (Int × Int × Bool)) (r : List (Int × Int × Bool)) (h : slices_Insert k x1 x2 x3 = some r) : Tri Try.prog 26 [(.ref 3 0 0 0 x2.length .virt), (.int .i64 x1), (.ref 3 1 0 0 x3.length .full)] [(.arr 3 (List.map e_u8_i64_b x2) 0 0 false), (.arr 3 (List.map e_u8_i64_b x3) 0 0 false)] (.ref 3 0 1 0 r.length .full) [(.arr 3 (List.map e_u8_i64_b r) 1 1 false), (.arr 3 (List.map e_u8_i64_b x3) 0 0 false)] := ins_ok26 _ h rfl
end Go.Ws
