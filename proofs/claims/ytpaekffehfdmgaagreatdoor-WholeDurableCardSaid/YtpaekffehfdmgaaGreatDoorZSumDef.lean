/-
  What sum.Sum computes, in plain Lean.
  Conditions: none.
-/
import Derived.Test.YtpaekffehfdmgaaGreatDoorZB1
import Derived.Laws.Entries
set_option linter.unusedVariables false
set_option linter.unusedSimpArgs false
namespace Go.Ws
set_option linter.unusedVariables false

def addB (p:Int × Int) (c:Int):Int × Int:=((p.1+c) % 4294967296,(p.2+(p.1+c)) % 4294967296)
def sumJ (f:Nat→Int) (p:Int × Int):Nat→Int × Int
 | 0=>p
 | j+1=>addB (sumJ f p j) (f j)
def sumT (f:Nat→Int) (L:Nat) (p:Int × Int) (k:Nat):Int × Int :=
 ((sumJ (fun j=>f (k*3000+j)) p (min 3000 (L - k*3000))).1.tmod 65521,(sumJ (fun j=>f (k*3000+j)) p (min 3000 (L - k*3000))).2.tmod 65521)
def aA7 (f:Nat→Int) (L:Nat) (pre:List Nat):Int × Int:=pre.foldl (sumT f L) (1,0)
theorem aGF (f:Nat→Int) (L:Nat) (pre:List Nat) (k:Nat):aA7 f L (pre++[k])=sumT f L (aA7 f L pre) k:=by simp [aA7]

def sumV (f:Nat→Int) (L:Nat):Int:=bits BinOp.or IntKind.u32 ((aA7 f L (List.range ((L+2999) / 3000))).2*65536 % 4294967296) (aA7 f L (List.range ((L+2999) / 3000))).1


def aIN (l:List Int):Int:=sumV (fun j=>l.getD j 0) l.length

def sumP (l:List Int):Option Int:=if l.length≤140737488351232∧∀x∈l,0≤x∧x<256 then some (aIN l) else none

end Go.Ws
