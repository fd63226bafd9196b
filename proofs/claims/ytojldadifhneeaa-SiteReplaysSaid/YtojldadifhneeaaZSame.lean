/-
  Functions alike under whatever number.
  Conditions: none.
-/
import Derived.Test.YtojldadifhneeaaZPlain
import Derived.KernelRfl
set_option linter.unusedVariables false
set_option linter.unusedSimpArgs false
namespace Go.Ws.L10
set_option linter.unusedVariables false
theorem P_do8:@qW=@dR:=by kernel_rfl
theorem P_log1:@pJ=@mG:=by kernel_rfl
end Go.Ws.L10
