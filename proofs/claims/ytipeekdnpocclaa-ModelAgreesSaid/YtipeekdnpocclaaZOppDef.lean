/-
  What part.opposites computes, in plain Lean.
  Conditions: none.
-/
import Derived.Test.YtipeekdnpocclaaZB2
set_option linter.unusedVariables false
set_option linter.unusedSimpArgs false
namespace Go.Ws
def aA (x:Int × Int):List AV:=[(.int .u8 x.1),(.int .i64 x.2)]
def oppL (x:List (Int × Int)):List (Int × Int):=x.reverse.map fun d=>(d.1,ineg .i64 d.2)
def oppP (x:List (Int × Int)):Option (List (Int × Int)):=if x.length*16≤140737488355328 then some (oppL x) else none
end Go.Ws
