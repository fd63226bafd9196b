/-
  What a law may rely on of its arguments. (Printed by my own program.)
  Conditions: none.
-/
import Derived.Test.YtmpoiddaolpjgaaZB2
set_option linter.unusedVariables false
set_option linter.unusedSimpArgs false
namespace Go.Ws
def w_t5 (x : Int) : Prop := 0 ≤ x ∧ x ≤ 255
def w_t22 (x : List Int) : Prop := x.length ≤ maxLen ∧ ∀ y ∈ x, w_t5 y
def w_t36 (x : List (List Int)) : Prop := x.length ≤ maxLen ∧ ∀ y ∈ x, w_t22 y
def w_t40 (x : Int) : Prop := 0 ≤ x ∧ x ≤ 65535
end Go.Ws
