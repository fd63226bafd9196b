/-
  What a law may rely on of its arguments. (Printed by my own program.)
  Conditions: none.
-/
import Derived.Test.YtpaekffehfdmgaaGreatDoorZB2
set_option linter.unusedVariables false
set_option linter.unusedSimpArgs false
namespace Go.Ws
def aFE (x:Int):Prop:=0≤x∧x≤65535
def w_t54 (x:List Int):Prop:=x.length≤maxLen∧∀y∈x,aFE y
def w_t5 (x:Int):Prop:=0≤x∧x≤255
def w_t27 (x:List Int):Prop:=x.length≤maxLen∧∀y∈x,w_t5 y
end Go.Ws
