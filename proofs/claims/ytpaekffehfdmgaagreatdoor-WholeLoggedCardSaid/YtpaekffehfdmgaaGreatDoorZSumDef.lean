/-
  What sum.Sum computes, in plain Lean.
  Conditions: none.
-/
import Derived.Test.YtpaekffehfdmgaaGreatDoorZB1
import Derived.Laws.Entries
set_option linter.unusedVariables false
set_option linter.unusedSimpArgs false
namespace Go.Ws
set_option linter.unusedVariables false

def addB (p:Int × Int) (c:Int):Int × Int:=((p.1+c) % 4294967296,(p.2+(p.1+c)) % 4294967296)
def xS (f:Nat→Int) (p:Int × Int):Nat→Int × Int
 | 0=>p
 | j+1=>addB (xS f p j) (f j)
def sumT (f:Nat→Int) (L:Nat) (p:Int × Int) (k:Nat):Int × Int :=
 ((xS (fun j=>f (k*3000+j)) p (min 3000 (L - k*3000))).1.tmod 65521,(xS (fun j=>f (k*3000+j)) p (min 3000 (L - k*3000))).2.tmod 65521)
def aE0 (f:Nat→Int) (L:Nat) (pre:List Nat):Int × Int:=pre.foldl (sumT f L) (1,0)
theorem aHC (f:Nat→Int) (L:Nat) (pre:List Nat) (k:Nat):aE0 f L (pre++[k])=sumT f L (aE0 f L pre) k:=by simp [aE0]

def sumV (f:Nat→Int) (L:Nat):Int:=bits BinOp.or IntKind.u32 ((aE0 f L (List.range ((L+2999) / 3000))).2*65536 % 4294967296) (aE0 f L (List.range ((L+2999) / 3000))).1


def aKS (l:List Int):Int:=sumV (fun j=>l.getD j 0) l.length

def sumP (l:List Int):Option Int:=if l.length≤140737488351232∧∀x∈l,0≤x∧x<256 then some (aKS l) else none

end Go.Ws
