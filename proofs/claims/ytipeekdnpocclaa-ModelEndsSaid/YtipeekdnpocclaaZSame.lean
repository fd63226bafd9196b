/-
  Functions alike under whatever number.
  Conditions: none.
-/
import Derived.Test.YtipeekdnpocclaaZPlain
import Derived.KernelRfl
set_option linter.unusedVariables false
set_option linter.unusedSimpArgs false
namespace Go.Ws.L10
set_option linter.unusedVariables false
theorem P_do4:@oM=@cA:=by kernel_rfl
end Go.Ws.L10
