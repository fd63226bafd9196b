/-
  part_opposites: what the machine makes of it. (Printed by my own program.)
  Conditions: none.
-/
import Derived.Test.YtnokdedppgmliaaZPre
import Derived.Test.YtnokdedppgmliaaZPure
import Derived.Test.YtnokdedppgmliaaZOppI
set_option linter.unusedVariables false
set_option linter.unusedSimpArgs false
namespace Go.Ws
open Go.Proofs
set_option linter.unusedSimpArgs false
set_option linter.unusedVariables false
set_option maxRecDepth 1000000
set_option maxHeartbeats 4000000
theorem ok_part_opposites (k : Nat) (x1 : List (Int × Int)) (r : List (Int × Int)) (h : part_opposites k x1 = some r) : Tri Try.prog 31 [(.sl 2 (List.map e_u8_i64 x1))] [] (.sl 2 (List.map e_u8_i64 r)) [] := Tri.freeze (opp_tri h) (by simp)
end Go.Ws
