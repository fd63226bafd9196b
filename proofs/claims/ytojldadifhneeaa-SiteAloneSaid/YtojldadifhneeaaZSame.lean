/-
  Functions alike under whatever number.
  Conditions: none.
-/
import Derived.Test.YtojldadifhneeaaZPlain
import Derived.KernelRfl
set_option linter.unusedVariables false
set_option linter.unusedSimpArgs false
namespace Go.Ws.L10
set_option linter.unusedVariables false
theorem P_do4:@P_site_Site_Do_4=@P_site_Site_Do_3:=by kernel_rfl
theorem P_do5:@P_site_Site_Do_5=@P_site_Site_Do_3:=by kernel_rfl
theorem P_do6:@P_site_Site_Do_6=@P_site_Site_Do_3:=by kernel_rfl
theorem P_do7:@P_site_Site_Do_7=@P_site_Site_Do_3:=by kernel_rfl
end Go.Ws.L10
