/-
  Functions alike under whatever number.
  Conditions: none.
-/
import Derived.Test.YtojldadifhneeaaZPlain
import Derived.KernelRfl
set_option linter.unusedVariables false
set_option linter.unusedSimpArgs false
namespace Go.Ws.L10
set_option linter.unusedVariables false
theorem P_part3:@oC=@jX:=by kernel_rfl
theorem P_log1:@yF=@mC:=by kernel_rfl
theorem P_same1:@aAL=@tL:=by kernel_rfl
end Go.Ws.L10
