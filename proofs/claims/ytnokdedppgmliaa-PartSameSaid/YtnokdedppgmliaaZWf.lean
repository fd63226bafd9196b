/-
  What a law may rely on of its arguments. (Printed by my own program.)
  Conditions: none.
-/
import Derived.Test.YtnokdedppgmliaaZB2
set_option linter.unusedVariables false
set_option linter.unusedSimpArgs false
namespace Go.Ws
def w_t3 (x : Int) : Prop := -9223372036854775808 ≤ x ∧ x ≤ 9223372036854775807
def w_t5 (x : Int) : Prop := 0 ≤ x ∧ x ≤ 255
def w_t2 (x : Int) : Prop := -9223372036854775808 ≤ x ∧ x ≤ 9223372036854775807
def w_t26 (x : Int × Int) : Prop := w_t5 x.1 ∧ w_t2 x.2
def w_t22 (x : List (Int × Int)) : Prop := x.length ≤ maxLen ∧ ∀ y ∈ x, w_t26 y
def w_t4 (x : Bool) : Prop := True
def w_t24 (x : Int × (List (Int × Int)) × Bool × Int) : Prop := w_t3 x.1 ∧ w_t22 x.2.1 ∧ w_t4 x.2.2.1 ∧ w_t3 x.2.2.2
def w_t28 (x : Int × Int × Int × Bool × Int) : Prop := w_t5 x.1 ∧ w_t26 (x.2.1, x.2.2.1) ∧ w_t4 x.2.2.2.1 ∧ w_t3 x.2.2.2.2
def w_t40 (x : List (Int × Int × Int × Bool × Int)) : Prop := x.length ≤ maxLen ∧ ∀ y ∈ x, w_t28 y
end Go.Ws
