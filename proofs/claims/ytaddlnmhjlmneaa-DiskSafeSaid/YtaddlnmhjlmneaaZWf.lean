/-
  What a law may rely on of its arguments. (Printed by my own program.)
  Conditions: none.
-/
import Derived.Test.YtaddlnmhjlmneaaZB2
set_option linter.unusedVariables false
set_option linter.unusedSimpArgs false
namespace Go.Ws
def w_t5 (x : Int) : Prop := 0 ≤ x ∧ x ≤ 255
def w_t22 (x : List Int) : Prop := x.length ≤ maxLen ∧ ∀ y ∈ x, w_t5 y
def w_t3 (x : Int) : Prop := -9223372036854775808 ≤ x ∧ x ≤ 9223372036854775807
def w_t24 (x : (List Int) × Int × Int) : Prop := w_t22 x.1 ∧ w_t3 x.2.1 ∧ w_t3 x.2.2
def w_t25 (x : Int) : Prop := 0 ≤ x ∧ x ≤ 65535
def w_t34 (x : List (List Int)) : Prop := x.length ≤ maxLen ∧ ∀ y ∈ x, w_t22 y
def w_t50 (x : Int × Int) : Prop := w_t25 x.1 ∧ w_t25 x.2
end Go.Ws
