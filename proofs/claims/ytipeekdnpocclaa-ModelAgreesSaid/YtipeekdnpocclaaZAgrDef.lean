/-
  When outcomes agree.
  Conditions: none.
-/
import Derived.Test.YtipeekdnpocclaaZB2
set_option linter.unusedVariables false
set_option linter.unusedSimpArgs false
namespace Go.Ws
def dL (L:List (Int × Int)):Bool:=L.all fun x=>L.all fun y=>!(decide (x.1=y.1)) || (decide (x.2=0) || (decide (y.2=0) || decide (x.2=y.2)))
theorem pX {L:List (Int × Int)}:dL L=true↔∀x∈L,∀y∈L,x.1=y.1→x.2≠0→y.2≠0→x.2=y.2:=by
 unfold dL
 simp only[List.all_eq_true,Bool.or_eq_true,Bool.not_eq_true',decide_eq_true_eq,decide_eq_false_iff_not]
 constructor
 · intro h x hx y hy h1 h2 h3
   rcases h x hx y hy with h | h | h | h
   · exact absurd h1 h
   · exact absurd h h2
   · exact absurd h h3
   · exact h
 · intro h x hx y hy
   by_cases h1:x.1=y.1
   · by_cases h2:x.2=0
     · exact .inr (.inl h2)
     · by_cases h3:y.2=0
       · exact .inr (.inr (.inl h3))
       · exact .inr (.inr (.inr (h x hx y hy h1 h2 h3)))
   · exact .inl h1
def wB (X:List (List (Int × Int))):Option Bool:=if X.length≤100000 then some (dL X.flatten) else none
end Go.Ws
