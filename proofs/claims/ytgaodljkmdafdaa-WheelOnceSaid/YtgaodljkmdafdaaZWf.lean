/-
  What a law may rely on of its arguments. (Printed by my own program.)
  Conditions: none.
-/
import Derived.Test.YtgaodljkmdafdaaZB2
set_option linter.unusedVariables false
set_option linter.unusedSimpArgs false
namespace Go.Ws
def w_t2 (x:Int):Prop:=-9223372036854775808≤x∧x≤9223372036854775807
def w_t3 (x:Int):Prop:=-9223372036854775808≤x∧x≤9223372036854775807
def w_t5 (x:Int):Prop:=0≤x∧x≤255
def w_t54 (x:Int × Int × Int):Prop:=w_t5 x.1∧w_t3 x.2.1∧w_t2 x.2.2
def w_t52 (x:List (Int × Int × Int)):Prop:=x.length≤maxLen∧∀y∈x,w_t54 y
end Go.Ws
