/-
  What a law may rely on of its arguments. (Printed by my own program.)
  Conditions: none.
-/
import Derived.Test.YtbgikhebodociaaZB2
set_option linter.unusedVariables false
set_option linter.unusedSimpArgs false
namespace Go.Ws
def w_t5 (x : Int) : Prop := 0 ≤ x ∧ x ≤ 255
def w_t9 (x : ByteArray) : Prop := x.size ≤ maxLen
def w_t43 (x : Int) : Prop := 0 ≤ x ∧ x ≤ 65535
def w_t45 (x : Int × ByteArray × Int) : Prop := w_t5 x.1 ∧ w_t9 x.2.1 ∧ w_t43 x.2.2
def w_t35 (x : List (Int × ByteArray × Int)) : Prop := x.length ≤ maxLen ∧ ∀ y ∈ x, w_t45 y
end Go.Ws
