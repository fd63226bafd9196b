/-
  What part.opposites computes, in plain Lean.
  Conditions: none.
-/
import Derived.Test.YtpaekffehfdmgaaGreatDoorZB2
set_option linter.unusedVariables false
set_option linter.unusedSimpArgs false
namespace Go.Ws
def aC (x:Int × Int):List AV:=[(.int .u8 x.1),(.int .i64 x.2)]
def w7 (x:List (Int × Int)):List (Int × Int):=x.reverse.map fun d=>(d.1,ineg .i64 d.2)
def oppP (x:List (Int × Int)):Option (List (Int × Int)):=if x.length*16≤140737488355328 then some (w7 x) else none
end Go.Ws
