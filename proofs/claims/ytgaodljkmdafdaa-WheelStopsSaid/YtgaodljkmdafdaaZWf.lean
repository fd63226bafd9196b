/-
  What a law may rely on of its arguments. (Printed by my own program.)
  Conditions: none.
-/
import Derived.Test.YtgaodljkmdafdaaZB2
set_option linter.unusedVariables false
set_option linter.unusedSimpArgs false
namespace Go.Ws
def w_t2 (x : Int) : Prop := -9223372036854775808 ≤ x ∧ x ≤ 9223372036854775807
def w_t3 (x : Int) : Prop := -9223372036854775808 ≤ x ∧ x ≤ 9223372036854775807
def w_t46 (x : Int × Int) : Prop := w_t3 x.1 ∧ w_t2 x.2
def w_t22 (x : List (Int × Int)) : Prop := x.length ≤ maxLen ∧ ∀ y ∈ x, w_t46 y
def w_t24 (x : Int × (List (Int × Int))) : Prop := w_t2 x.1 ∧ w_t22 x.2
def w_t5 (x : Int) : Prop := 0 ≤ x ∧ x ≤ 255
def w_t54 (x : Int × Int × Int) : Prop := w_t5 x.1 ∧ w_t3 x.2.1 ∧ w_t2 x.2.2
def w_t52 (x : List (Int × Int × Int)) : Prop := x.length ≤ maxLen ∧ ∀ y ∈ x, w_t54 y
def w_t57 (x : Int) : Prop := 0 ≤ x ∧ x ≤ 65535
def w_t56 (x : List Int) : Prop := x.length ≤ maxLen ∧ ∀ y ∈ x, w_t57 y
def w_t60 (x : Int × Int) : Prop := w_t57 x.1 ∧ w_t57 x.2
end Go.Ws
