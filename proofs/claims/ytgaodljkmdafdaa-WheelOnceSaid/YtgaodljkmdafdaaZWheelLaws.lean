/-
  WheelCalls, WheelRow, plainly.
  Conditions: none.
-/
import Derived.Test.YtgaodljkmdafdaaZWheel
set_option linter.unusedVariables false
set_option linter.unusedSimpArgs false
namespace Go.Ws
set_option linter.unusedVariables false
set_option linter.unusedSimpArgs false
set_option maxHeartbeats 1000000
set_option maxRecDepth 100000

theorem alive_ok:P_law06_alive=some true:=lm_law06_alive.le 60 true (by kernel_rfl)
theorem wh0:Wh 0 []:=⟨by omega,by simp,List.Pairwise.nil,fun _ h=>(by cases h)⟩
end Go.Ws
