/-
  What a law may rely on of its arguments. (Printed by my own program.)
  Conditions: none.
-/
import Derived.Test.YtpaekffehfdmgaaGreatDoorZB2
set_option linter.unusedVariables false
set_option linter.unusedSimpArgs false
namespace Go.Ws
def w_t5 (x:Int):Prop:=0≤x∧x≤255
def w_t2 (x:Int):Prop:=-9223372036854775808≤x∧x≤9223372036854775807
def w_t4 (x:Bool):Prop:=True
def w_t31 (x:Int × Int × Int × Int × Bool):Prop:=w_t5 x.1∧w_t5 x.2.1∧w_t5 x.2.2.1∧w_t2 x.2.2.2.1∧w_t4 x.2.2.2.2
def w_t22 (x:List (Int × Int × Int × Int × Bool)):Prop:=x.length≤maxLen∧∀y∈x,w_t31 y
def w_t23 (x:Int):Prop:=0≤x∧x≤65535
end Go.Ws
