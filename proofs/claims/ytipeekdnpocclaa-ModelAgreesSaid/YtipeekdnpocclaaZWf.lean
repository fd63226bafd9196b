/-
  What a law may rely on of its arguments. (Printed by my own program.)
  Conditions: none.
-/
import Derived.Test.YtipeekdnpocclaaZB2
set_option linter.unusedVariables false
set_option linter.unusedSimpArgs false
namespace Go.Ws
def w_t3 (x:Int):Prop:=-9223372036854775808≤x∧x≤9223372036854775807
def w_t5 (x:Int):Prop:=0≤x∧x≤255
def w_t46 (x:Int × Int):Prop:=w_t3 x.1∧w_t3 x.2
def w_t31 (x:List (Int × Int)):Prop:=x.length≤maxLen∧∀y∈x,w_t46 y
def w_t48 (x:List (List (Int × Int))):Prop:=x.length≤maxLen∧∀y∈x,w_t31 y
end Go.Ws
