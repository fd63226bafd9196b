/-
  The functions as plain Lean functions. (Printed by my own program.)
  Conditions: none.
-/
import Derived.Test.YtipeekdnpocclaaZB2
import Derived.Test.YtipeekdnpocclaaZOppDef
import Derived.Test.YtipeekdnpocclaaZAgrDef
set_option linter.unusedVariables false
set_option linter.unusedSimpArgs false
namespace Go.Ws
abbrev aG:=List (Int × Int)
abbrev Ty11:=Int × Int × Bool
abbrev aC9:=Sum (Unit) (Bool)
abbrev Ty9:=Int × Int × Int × Int
abbrev Ty8:=List Ty11
abbrev Ty7:=List Ty9
abbrev Ty6:=Int × aG × Bool × Int
abbrev Ty4:=Int × Ty6
abbrev Ty2:=List Ty4
abbrev Ty1:=Sum (aG × Ty8 × Ty2 × Ty7) (Unit)
abbrev Ty0:=Sum (aG × Ty8 × Ty2 × Ty7) (Ty1)
set_option linter.unusedVariables false
def aJ:Ty7:=[(1,1,0,0),(3,1,0,5),(4,1,0,1),(5,1,0,0),(6,1,0,2)]
def aEI:Unit:=()
def iT (k:Nat) (x1:Ty8):Option Unit:=(if dF (x1.length*24)=true then (some ()) else none)
def pR:Unit:=()
def nB (k:Nat) (x1:Ty8):Option Unit:=iT k x1
def gY (x1:Int) (x2:Int):Bool:=(if ltI x2 64=true then (if ltI x1 0=true then false else ltI x1 1000) else false)
def g4 (x1:Int):Bool:=(!eqI x1 x1)
def bA (x1:Int) (x2:Int):Int:=(if (g4 x1)=true then (if (g4 x2)=true then 0 else (-1)) else (if (g4 x2)=true then 1 else (if ltI x1 x2=true then (-1) else (if ltI x2 x1=true then 1 else 0))))
def eE (x1:Int):Bool:=(!eqI x1 x1)
def dI (x1:Int) (x2:Int):Int:=(if (eE x1)=true then (if (eE x2)=true then 0 else (-1)) else (if (eE x2)=true then 1 else (if ltI x1 x2=true then (-1) else (if ltI x2 x1=true then 1 else 0))))
def jX:Nat→(List Int)→Int→Option (Sum (Unit) (Int))
 | 0,_,_=>none
 | k+1,x1,cZ=>(if ltI cZ (nI x1.length)=true then (if inI cZ x1.length=true then ((x1[tN cZ]?).bind fun pS=>(if eqI pS 0=true then (jX k x1 (aH .i64 cZ 1)) else (some (.inr pS)))) else none) else (some (.inl ())))
def aB1 (k:Nat) (x1:List Int):Option Int:=((jX k x1 0).bind (fun q=>Sum.elim (fun x3=>(some 0)) (fun x3=>(some x3)) q))
def mS (k:Nat) (x1:Int) (x2:Int) (x3:Bool) (x4:Int) (x5:Int) (x6:Bool):Option Int:=((aB1 k [(bA x1 x4),(dI x2 x5)]).bind fun x7=>(some x7))
def eD:Nat→Ty8→Int→Option aC9
 | 0,_,_=>none
 | k+1,x1,bD=>(if ltI bD (nI x1.length)=true then (if inI bD x1.length=true then ((x1[tN bD]?).bind fun dK=>(if (gY dK.2.1 dK.1)=true then (if eqI bD 0=true then (eD k x1 (aH .i64 bD 1)) else (if inI (qT .i64 bD 1) x1.length=true then ((x1[tN (qT .i64 bD 1)]?).bind fun gK=>((mS k gK.1 gK.2.1 gK.2.2 dK.1 dK.2.1 dK.2.2).bind fun u6=>(if ltI u6 0=true then (if eqI gK.1 dK.1=true then (if gK.2.2=true then (some (.inr false)) else (if dK.2.2=true then (some (.inr false)) else (eD k x1 (aH .i64 bD 1)))) else (eD k x1 (aH .i64 bD 1))) else (some (.inr false))))) else none)) else (some (.inr false)))) else none) else (some (.inl ())))
def pY (k:Nat) (x1:Ty8):Option Bool:=((eD k x1 0).bind (fun q=>Sum.elim (fun x3=>(some true)) (fun x3=>(some x3)) q))
def aU:Nat→Ty8→Int→Int→Bool→Int→Int→Option (Int)
 | 0,_,_,_,_,_,_=>none
 | k+1,x1,x2,x3,x4,bV,cD=>(if ltI bV cD=true then (if inI (conv .i64 (rA .u64 (conv .u64 (aH .i64 bV cD)) 1)) x1.length=true then ((x1[tN (conv .i64 (rA .u64 (conv .u64 (aH .i64 bV cD)) 1))]?).bind fun kF=>((mS k kF.1 kF.2.1 kF.2.2 x2 x3 x4).bind fun vA=>(if ltI vA 0=true then (aU k x1 x2 x3 x4 (aH .i64 (conv .i64 (rA .u64 (conv .u64 (aH .i64 bV cD)) 1)) 1) cD) else (aU k x1 x2 x3 x4 bV (conv .i64 (rA .u64 (conv .u64 (aH .i64 bV cD)) 1)))))) else none) else (some bV))
def fD (k:Nat) (x1:Ty8) (x2:Int) (x3:Int) (x4:Bool):Option (Int × Bool):=((aU k x1 x2 x3 x4 0 (nI x1.length)).bind (fun x6=>(if ltI x6 (nI x1.length)=true then (if inI x6 x1.length=true then ((x1[tN x6]?).bind fun x7=>((mS k x7.1 x7.2.1 x7.2.2 x2 x3 x4).bind fun x8=>(some (x6,eqI x8 0)))) else none) else (some (x6,false)))))
def nX (k:Nat) (x1:Int) (x2:Ty8) (x3:Ty8):Option Ty8:=aC2 24 x1 x2 x3
def eU:Nat→Ty8→Int→Int→Bool→Int→Option (Sum (Unit) (Ty8 × Int))
 | 0,_,_,_,_,_=>none
 | k+1,x1,x2,x3,x4,cE=>(if ltI cE (nI x1.length)=true then (if inI cE x1.length=true then ((x1[tN cE]?).bind fun iO=>(if eqI iO.1 x3=true then (if eqI iO.2.1 x2=true then (eU k x1 x2 x3 x4 (aH .i64 cE 1)) else (if x4=true then (some (.inr (x1,9))) else (if iO.2.2=true then (some (.inr (x1,9))) else (eU k x1 x2 x3 x4 (aH .i64 cE 1))))) else (eU k x1 x2 x3 x4 (aH .i64 cE 1)))) else none) else (some (.inl ())))
def rW (k:Nat) (x1:Ty8) (x2:Int) (x3:Int) (x4:Bool):Option (Ty8 × Int):=((nB k x1).bind fun x5=>((pY k x1).bind fun x6=>(if x6=true then (if (gY x2 x3)=true then ((eU k x1 x2 x3 x4 0).bind (fun q=>Sum.elim (fun x8=>((fD k x1 x3 x2 x4).bind fun x9=>(if x9.2=true then (if inI x9.1 x1.length=true then ((x1[tN x9.1]?).bind fun x10=>(if x10.2.2=true then (some ((List.set x1 (tN x9.1) (x10.1,x10.2.1,true)),0)) else (some ((List.set x1 (tN x9.1) (x10.1,x10.2.1,x4)),0)))) else none) else ((nX k x9.1 x1 [(x3,x2,x4)]).bind fun x10=>(some (x10,0)))))) (fun x8=>(some x8)) q)) else (some (x1,2))) else (some (x1,2)))))
def gF (k:Nat) (x1:aG):Option Unit:=(if dF (x1.length*16)=true then (some ()) else none)
def mY:Unit:=()
def gB (k:Nat) (x1:aG):Option Unit:=gF k x1
def mD (k:Nat) (x1:Int) (x2:aG) (x3:Bool) (x4:Int):Option Unit:=((gB k x2).bind fun x5=>(some ()))
def g6 (x1:Int) (x2:Int):Bool:=(!ltI x1 64)
def cK:Nat→aG→Int→Option (Sum (Unit) (Int))
 | 0,_,_=>none
 | k+1,x1,cN=>(if ltI cN (nI x1.length)=true then (if inI cN x1.length=true then ((x1[tN cN]?).bind fun kG=>(if (g6 kG.1 kG.2)=true then (some (.inr cN)) else (cK k x1 (aH .i64 cN 1)))) else none) else (some (.inl ())))
def jE (k:Nat) (x1:aG):Option Int:=((cK k x1 0).bind (fun q=>Sum.elim (fun x3=>(some (-1))) (fun x3=>(some x3)) q))
def g7 (k:Nat) (x1:aG):Option Bool:=((jE k x1).bind fun x2=>(some (!ltI x2 0)))
def lI (k:Nat) (x1:Int) (x2:aG) (x3:Bool) (x4:Int):Option Bool:=(if ltI x1 0=true then (some false) else (if ltI 3 x1=true then (some false) else (if ltI 50 (nI x2.length)=true then (some false) else ((g7 k x2).bind fun x5=>(if x5=true then (some false) else (if eqI x4 1=true then (if eqI x1 3=true then (some true) else (if eqI x4 0=true then (if x3=true then (some (eqI x1 1)) else (some true)) else (some false))) else (if eqI x1 3=true then (some (eqI x4 2)) else (if eqI x4 0=true then (if x3=true then (some (eqI x1 1)) else (some true)) else (some false)))))))))
def uZ (k:Nat) (x1:Int) (x2:aG) (x3:Bool) (x4:Int) (x5:Int) (x6:Int):Option (Int × aG × Bool × Int × Int):=((mD k x1 x2 x3 x4).bind fun x7=>((lI k x1 x2 x3 x4).bind fun x8=>(if x8=true then (if (g6 x5 x6)=true then (some (x1,x2,x3,x4,2)) else (if eqI x1 0=true then (if ltI (nI x2.length) 50=true then (if dF (((x2++[(x5,x6)]).length)*16)=true then (some (x1,(x2++[(x5,x6)]),x3,x4,0)) else none) else (some (x1,x2,x3,x4,6))) else (some (x1,x2,x3,x4,13)))) else (some (x1,x2,x3,x4,2)))))
def fN:Nat→aG→Int→Int→Option (Sum (Unit) (Int))
 | 0,_,_,_=>none
 | k+1,x1,x2,dA=>(if ltI dA (nI x1.length)=true then (if inI dA x1.length=true then ((x1[tN dA]?).bind fun oD=>(if eqI oD.1 x2=true then (some (.inr oD.2)) else (fN k x1 x2 (aH .i64 dA 1)))) else none) else (some (.inl ())))
def pZ (k:Nat) (x1:aG) (x2:Int):Option Int:=((fN k x1 x2 0).bind (fun q=>Sum.elim (fun x4=>(some 0)) (fun x4=>(some x4)) q))
def g9 (k:Nat) (x1:Int) (x2:aG) (x3:Bool) (x4:Int):Option Ty6:=((gB k x2).bind fun x5=>(some (x1,x2,x3,x4)))
def rY (k:Nat) (x1:Int) (x2:aG) (x3:Bool) (x4:Int) (x5:Bool):Option (Int × aG × Bool × Int × Int):=((g9 k x1 x2 x3 x4).bind fun x6=>((lI k x6.1 x6.2.1 x6.2.2.1 x6.2.2.2).bind fun x7=>(if x7=true then (if eqI x6.1 0=true then (if x5=true then (some (1,x6.2.1,x6.2.2.1,x6.2.2.2,0)) else (some (2,x6.2.1,x6.2.2.1,x6.2.2.2,0))) else (some (x6.1,x6.2.1,x6.2.2.1,x6.2.2.2,13))) else (some (x6.1,x6.2.1,x6.2.2.1,x6.2.2.2,2)))))
def gG (k:Nat) (x1:aG):Option Unit:=(if dF (x1.length*16)=true then (some ()) else none)
def mQ:Unit:=()
def lX (k:Nat) (x1:aG):Option Unit:=gG k x1
def dM:Nat→aG→Int→Option aC9
 | 0,_,_=>none
 | k+1,x1,bK=>(if ltI bK (nI x1.length)=true then (if inI bK x1.length=true then ((x1[tN bK]?).bind fun lF=>(if ltI lF.1 64=true then (if eqI lF.2 0=true then (some (.inr false)) else (if ltI 0 bK=true then (if inI (qT .i64 bK 1) x1.length=true then ((x1[tN (qT .i64 bK 1)]?).bind fun vB=>(if ltI vB.1 lF.1=true then (dM k x1 (aH .i64 bK 1)) else (some (.inr false)))) else none) else (dM k x1 (aH .i64 bK 1)))) else (some (.inr false)))) else none) else (some (.inl ())))
def nD (k:Nat) (x1:aG):Option Bool:=((dM k x1 0).bind (fun q=>Sum.elim (fun x3=>(some true)) (fun x3=>(some x3)) q))
def vE (x1:Int) (x2:Int):Unit:=()
def b7:Nat→aG→Int→Option (Sum (Unit) (Int))
 | 0,_,_=>none
 | k+1,x1,bW=>(if ltI bW (nI x1.length)=true then (if inI bW x1.length=true then ((x1[tN bW]?).bind fun mG=>(if ltI mG.1 64=true then (b7 k x1 (aH .i64 bW 1)) else (some (.inr bW)))) else none) else (some (.inl ())))
def hU (k:Nat) (x1:aG):Option Int:=((b7 k x1 0).bind (fun q=>Sum.elim (fun x3=>(some (-1))) (fun x3=>(some x3)) q))
def f4 (k:Nat) (x1:aG):Option Bool:=((hU k x1).bind fun x2=>(some (!ltI x2 0)))
def tT (x1:Int) (x2:Int) (x3:Int):Unit:=()
def aR:Nat→aG→Int→Int→Int→Option (Int)
 | 0,_,_,_,_=>none
 | k+1,x1,x2,bX,cF=>(if ltI bX cF=true then (if inI (conv .i64 (rA .u64 (conv .u64 (aH .i64 bX cF)) 1)) x1.length=true then ((x1[tN (conv .i64 (rA .u64 (conv .u64 (aH .i64 bX cF)) 1))]?).bind fun oE=>(if ltI (bA oE.1 x2) 0=true then (aR k x1 x2 (aH .i64 (conv .i64 (rA .u64 (conv .u64 (aH .i64 bX cF)) 1)) 1) cF) else (aR k x1 x2 bX (conv .i64 (rA .u64 (conv .u64 (aH .i64 bX cF)) 1))))) else none) else (some bX))
def eA (k:Nat) (x1:aG) (x2:Int):Option (Int × Bool):=((aR k x1 x2 0 (nI x1.length)).bind (fun x4=>(if ltI x4 (nI x1.length)=true then (if inI x4 x1.length=true then ((x1[tN x4]?).bind fun x5=>(some (x4,eqI (bA x5.1 x2) 0))) else none) else (some (x4,false)))))
def oT (k:Nat) (x1:aG) (x2:Int):Option (Int × Bool):=((eA k x1 x2).bind fun x3=>(some (x3.1,x3.2)))
def nW (k:Nat) (x1:Int) (x2:Int) (x3:aG):Option aG:=delP x1 x2 x3
def lC (k:Nat) (x1:Int) (x2:aG) (x3:aG):Option aG:=aC2 16 x1 x2 x3
def lW (k:Nat) (x1:Int) (x2:Int) (x3:aG):Option aG:=delP x1 x2 x3
def dV:Nat→aG→Int→aG→Option (aG)
 | 0,_,_,_=>none
 | k+1,x2,bY,aS=>(if ltI bY (nI x2.length)=true then (if inI bY x2.length=true then ((x2[tN bY]?).bind fun bF=>((oT k aS bF.1).bind fun aP=>(if aP.2=true then (if inI aP.1 aS.length=true then ((aS[tN aP.1]?).bind fun aQ=>(((List.set aS (tN aP.1) (aQ.1,aH .i64 aQ.2 bF.2))[tN aP.1]?).bind fun bL=>(if eqI bL.2 0=true then ((nW k aP.1 (aH .i64 aP.1 1) (List.set aS (tN aP.1) (aQ.1,aH .i64 aQ.2 bF.2))).bind fun gA=>(dV k x2 (aH .i64 bY 1) gA)) else (dV k x2 (aH .i64 bY 1) (List.set aS (tN aP.1) (aQ.1,aH .i64 aQ.2 bF.2)))))) else none) else ((lC k aP.1 aS [(bF.1,0)]).bind fun aQ=>(if inI aP.1 aQ.length=true then ((aQ[tN aP.1]?).bind fun bL=>(((List.set aQ (tN aP.1) (bL.1,aH .i64 bL.2 bF.2))[tN aP.1]?).bind fun gA=>(if eqI gA.2 0=true then ((lW k aP.1 (aH .i64 aP.1 1) (List.set aQ (tN aP.1) (bL.1,aH .i64 bL.2 bF.2))).bind fun kH=>(dV k x2 (aH .i64 bY 1) kH)) else (dV k x2 (aH .i64 bY 1) (List.set aQ (tN aP.1) (bL.1,aH .i64 bL.2 bF.2)))))) else none))))) else none) else (some aS))
def kN (k:Nat) (x1:aG) (x2:aG):Option (aG × Int):=((lX k x1).bind fun x3=>((nD k x1).bind fun x4=>(if x4=true then ((f4 k x2).bind fun x5=>(if x5=true then (some (x1,2)) else ((dV k x2 0 x1).bind (fun x7=>(some (x7,0)))))) else (some (x1,2)))))
def wI (x1:Int) (x2:Int) (x3:Bool) (x4:Int):Unit:=()
def bN:Nat→Ty8→Int→Int→Option (Sum (Unit) (Int))
 | 0,_,_,_=>none
 | k+1,x1,x2,cO=>(if ltI cO (nI x1.length)=true then (if inI cO x1.length=true then ((x1[tN cO]?).bind fun l9=>(if eqI l9.2.1 x2=true then (some (.inr cO)) else (bN k x1 x2 (aH .i64 cO 1)))) else none) else (some (.inl ())))
def g5 (k:Nat) (x1:Ty8) (x2:Int):Option Int:=((bN k x1 x2 0).bind (fun q=>Sum.elim (fun x4=>(some (-1))) (fun x4=>(some x4)) q))
def bU:Nat→Ty8→Int→Int→Int→Ty8→Option (Int × Ty8)
 | 0,_,_,_,_,_=>none
 | k+1,x1,x2,cP,b9,cQ=>(if ltI cP (nI x1.length)=true then (if inI cP x1.length=true then ((cQ[tN cP]?).bind fun gL=>(if eqI gL.2.1 x2=true then (bU k x1 x2 (aH .i64 cP 1) b9 cQ) else (if inI b9 x1.length=true then ((cQ[tN b9]?).bind fun aKI=>(bU k x1 x2 (aH .i64 cP 1) (aH .i64 b9 1) (List.set cQ (tN b9) gL))) else none))) else none) else (some (b9,cQ)))
def iU (k:Nat) (x1:Ty8) (x2:Int):Option (Nat × Ty8):=((g5 k x1 x2).bind fun x3=>(if eqI x3 (-1)=true then (some (x1.length,x1)) else ((bU k x1 x2 (aH .i64 x3 1) x3 x1).bind (fun x5=>(if isZ x1.length=true then none else (if rC x1.length x5.2.length=true then (if leI x5.1 x1.length=true then (if isZ (x1.length - (tN x5.1))=true then (if leI x5.1 x5.2.length=true then (some (tN x5.1,x5.2)) else none) else (if rC (tN x5.1+(x1.length - (tN x5.1))) x5.2.length=true then (if rC (tN x5.1) x5.2.length=true then (if rC x1.length ((((List.take (tN x5.1) x5.2)++(List.replicate (x1.length - (tN x5.1)) (0,0,false)))++(List.drop (tN x5.1+(x1.length - (tN x5.1))) x5.2)).length)=true then (if leI x5.1 ((((List.take (tN x5.1) x5.2)++(List.replicate (x1.length - (tN x5.1)) (0,0,false)))++(List.drop (tN x5.1+(x1.length - (tN x5.1))) x5.2)).length)=true then (some (tN x5.1,(((List.take (tN x5.1) x5.2)++(List.replicate (x1.length - (tN x5.1)) (0,0,false)))++(List.drop (tN x5.1+(x1.length - (tN x5.1))) x5.2)))) else none) else none) else none) else none)) else none) else none))))))
def nC (k:Nat) (x1:Ty8) (x2:Int):Option Ty8:=((nB k x1).bind fun x3=>((iU k x1 x2).bind fun x4=>(if rC x4.1 x4.2.length=true then (some (List.take x4.1 x4.2)) else none)))
def qC (k:Nat) (x1:Int) (x2:aG) (x3:Bool) (x4:Int):Option (Int × aG × Bool × Int × aG × Int):=((g9 k x1 x2 x3 x4).bind fun x5=>((lI k x5.1 x5.2.1 x5.2.2.1 x5.2.2.2).bind fun x6=>(if x6=true then (if eqI x5.1 1=true then (if x5.2.2.1=true then (some (x5.1,x5.2.1,x5.2.2.1,x5.2.2.2,[],8)) else ((gB k x5.2.1).bind fun x7=>(some (x5.1,x5.2.1,true,x5.2.2.2,x5.2.1,0)))) else (some (x5.1,x5.2.1,x5.2.2.1,x5.2.2.2,[],13))) else (some (x5.1,x5.2.1,x5.2.2.1,x5.2.2.2,[],2)))))
def lE (k:Nat) (x1:aG):Option aG:=oppP x1
def mP (k:Nat) (x1:Int) (x2:aG) (x3:Bool) (x4:Int) (x5:Int):Option (Int × aG × Bool × Int × aG × Int):=((g9 k x1 x2 x3 x4).bind fun x6=>((lI k x6.1 x6.2.1 x6.2.2.1 x6.2.2.2).bind fun x7=>(if x7=true then (if eqI x5 1=true then (if eqI x6.2.2.2 x5=true then (some (x6.1,x6.2.1,x6.2.2.1,x6.2.2.2,[],0)) else (if eqI x6.1 3=true then (some (x6.1,x6.2.1,x6.2.2.1,x6.2.2.2,[],13)) else (if eqI x6.1 1=true then (if eqB (eqI x5 1) x6.2.2.1=true then (some (3,x6.2.1,x6.2.2.1,x5,[],0)) else (if x6.2.2.1=true then ((lE k x6.2.1).bind fun x8=>(some (3,x6.2.1,x6.2.2.1,x5,x8,0))) else ((gB k x6.2.1).bind fun x8=>(some (3,x6.2.1,x6.2.2.1,x5,x6.2.1,0))))) else (some (x6.1,x6.2.1,x6.2.2.1,x6.2.2.2,[],13))))) else (if eqI x5 2=true then (if eqI x6.2.2.2 x5=true then (some (x6.1,x6.2.1,x6.2.2.1,x6.2.2.2,[],0)) else (if eqI x6.1 3=true then (some (x6.1,x6.2.1,x6.2.2.1,x6.2.2.2,[],13)) else (if eqB (eqI x5 1) x6.2.2.1=true then (some (3,x6.2.1,x6.2.2.1,x5,[],0)) else (if x6.2.2.1=true then ((lE k x6.2.1).bind fun x8=>(some (3,x6.2.1,x6.2.2.1,x5,x8,0))) else ((gB k x6.2.1).bind fun x8=>(some (3,x6.2.1,x6.2.2.1,x5,x6.2.1,0))))))) else (some (x6.1,x6.2.1,x6.2.2.1,x6.2.2.2,[],2)))) else (some (x6.1,x6.2.1,x6.2.2.1,x6.2.2.2,[],2)))))
def p9 (x1:aG) (x2:Ty8) (x3:Ty2) (x4:Ty7):Unit:=()
def bI:Nat→aG→Int→Int→Int→Int→aG→Ty8→Ty2→Ty7→(Ty8 × Int)→Int→Int→Option (Int)
 | 0,_,_,_,_,_,_,_,_,_,_,_,_=>none
 | k+1,x2,x5,x6,x7,x8,x9,x10,x11,x12,x13,cM,bZ=>(if ltI bZ (nI x2.length)=true then (if inI bZ x2.length=true then ((x2[tN bZ]?).bind fun mH=>(if eqI mH.1 x7=true then (bI k x2 x5 x6 x7 x8 x9 x10 x11 x12 x13 (aH .i64 cM mH.2) (aH .i64 bZ 1)) else (bI k x2 x5 x6 x7 x8 x9 x10 x11 x12 x13 cM (aH .i64 bZ 1)))) else none) else (some cM))
def gC (k:Nat) (x1:Int) (x2:aG) (x3:Bool) (x4:Int) (x5:Int) (x6:Int) (x7:Int) (x8:Int) (x9:aG) (x10:Ty8) (x11:Ty2) (x12:Ty7):Option (Ty8 × Ty2 × Int × Int):=(if eqI x1 0=true then ((rW k x10 x6 x7 (eqI x5 3)).bind fun x13=>(if eqI x13.2 0=true then (if eqI x5 3=true then ((uZ k x1 x2 x3 x4 x7 x8).bind fun x14=>(if eqI x14.2.2.2.2 0=true then (if mN x11 x6=true then ((bG x11 x6).bind fun x15=>(some (x13.1,(aZ x11 x6 (x14.1,x14.2.1,x14.2.2.1,x14.2.2.2.1)),0,0))) else (some (x13.1,(aZ x11 x6 (x14.1,x14.2.1,x14.2.2.1,x14.2.2.2.1)),0,0))) else (some (x10,x11,x14.2.2.2.2,0)))) else ((pZ k x9 x7).bind fun x14=>((bI k x2 x5 x6 x7 x8 x9 x10 x11 x12 x13 x14 0).bind (fun x16=>(some (x13.1,x11,0,x16)))))) else (some (x10,x11,x13.2,0)))) else (some (x10,x11,13,0)))
def jV (k:Nat) (x1:Int) (x2:aG) (x3:Bool) (x4:Int) (x5:Int) (x6:Int) (x7:Int) (x8:Int) (x9:aG) (x10:Ty8) (x11:Ty2) (x12:Ty7):Option (aG × Ty8 × Ty2 × Int):=(if eqI x5 4=true then ((rY k x1 x2 x3 x4 (!eqI x8 0)).bind fun x13=>(if eqI x13.2.2.2.2 0=true then ((kN k x9 []).bind fun x14=>(if eqI x13.1 2=true then ((nC k x10 x6).bind fun x15=>(some (x14.1,x15,(aZ x11 x6 (x13.1,x13.2.1,x13.2.2.1,x13.2.2.2.1)),0))) else (some (x14.1,x10,(aZ x11 x6 (x13.1,x13.2.1,x13.2.2.1,x13.2.2.2.1)),0)))) else (some (x9,x10,x11,x13.2.2.2.2)))) else (if eqI x5 5=true then ((qC k x1 x2 x3 x4).bind fun x13=>(if eqI x13.2.2.2.2.2 0=true then ((kN k x9 x13.2.2.2.2.1).bind fun x14=>((nC k x10 x6).bind fun x15=>(some (x14.1,x15,(aZ x11 x6 (x13.1,x13.2.1,x13.2.2.1,x13.2.2.2.1)),0)))) else (some (x9,x10,x11,x13.2.2.2.2.2)))) else (if eqI x8 1=true then ((mP k x1 x2 x3 x4 x8).bind fun x13=>(if eqI x13.2.2.2.2.2 0=true then ((kN k x9 x13.2.2.2.2.1).bind fun x14=>((nC k x10 x6).bind fun x15=>(some (x14.1,x15,(aZ x11 x6 (x13.1,x13.2.1,x13.2.2.1,x13.2.2.2.1)),0)))) else (some (x9,x10,x11,x13.2.2.2.2.2)))) else (if eqI x8 2=true then ((mP k x1 x2 x3 x4 x8).bind fun x13=>(if eqI x13.2.2.2.2.2 0=true then ((kN k x9 x13.2.2.2.2.1).bind fun x14=>((nC k x10 x6).bind fun x15=>(some (x14.1,x15,(aZ x11 x6 (x13.1,x13.2.1,x13.2.2.1,x13.2.2.2.1)),0)))) else (some (x9,x10,x11,x13.2.2.2.2.2)))) else (some (x9,x10,x11,2))))))
def hX (k:Nat) (x1:Int) (x2:aG) (x3:Bool) (x4:Int) (x5:Int) (x6:Int) (x7:Int) (x8:Int) (x9:aG) (x10:Ty8) (x11:Ty2) (x12:Ty7):Option (Int × Int × Ty8 × Ty2 × aG):=(if eqI x5 1=true then (some (0,0,x10,(aZ x11 x6 (x1,x2,x3,x4)),x9)) else (if eqI x5 2=true then ((gC k x1 x2 x3 x4 x5 x6 x7 x8 x9 x10 x11 x12).bind fun x13=>(some (x13.2.2.2,x13.2.2.1,x13.1,x13.2.1,x9))) else (if eqI x5 3=true then ((gC k x1 x2 x3 x4 x5 x6 x7 x8 x9 x10 x11 x12).bind fun x13=>(some (x13.2.2.2,x13.2.2.1,x13.1,x13.2.1,x9))) else ((jV k x1 x2 x3 x4 x5 x6 x7 x8 x9 x10 x11 x12).bind fun x13=>(some (0,x13.2.2.2,x13.2.1,x13.2.2.1,x13.1))))))
def jJ (k:Nat) (x1:Int) (x2:Int) (x3:Int) (x4:Int) (x5:aG) (x6:Ty8) (x7:Ty2) (x8:Ty7):Option (Int × Int × aG × Ty8 × Ty2 × Ty7):=(if ltI x1 1=true then (some (2,0,x5,x6,x7,x8)) else (if ltI 6 x1=true then (some (2,0,x5,x6,x7,x8)) else (if ltI x2 0=true then (some (2,0,x5,x6,x7,x8)) else (if ltI x2 1000=true then (if mN x7 x2=true then ((bG x7 x2).bind fun x9=>(if eqB true (eqI x1 1)=true then (some (8,0,x5,x6,x7,x8)) else ((hX k x9.1 x9.2.1 x9.2.2.1 x9.2.2.2 x1 x2 x3 x4 x5 x6 x7 x8).bind fun x10=>(if eqI x10.2.1 0=true then (if dF (((x8++[(x1,x2,x3,x4)]).length)*32)=true then (some (0,x10.1,x10.2.2.2.2,x10.2.2.1,x10.2.2.2.1,(x8++[(x1,x2,x3,x4)]))) else none) else (some (x10.2.1,0,x10.2.2.2.2,x10.2.2.1,x10.2.2.2.1,x8)))))) else (if eqB false (eqI x1 1)=true then (some (7,0,x5,x6,x7,x8)) else ((hX k 0 [] false 0 x1 x2 x3 x4 x5 x6 x7 x8).bind fun x9=>(if eqI x9.2.1 0=true then (if dF (((x8++[(x1,x2,x3,x4)]).length)*32)=true then (some (0,x9.1,x9.2.2.2.2,x9.2.2.1,x9.2.2.2.1,(x8++[(x1,x2,x3,x4)]))) else none) else (some (x9.2.1,0,x9.2.2.2.2,x9.2.2.1,x9.2.2.2.1,x8)))))) else (some (2,0,x5,x6,x7,x8))))))
def eK:Nat→Ty7→Int→aG→Ty8→Ty2→Ty7→Option Ty0
 | 0,_,_,_,_,_,_=>none
 | k+1,x1,dB,eB,eC,dX,dY=>(if ltI dB (nI x1.length)=true then (if inI dB x1.length=true then ((x1[tN dB]?).bind fun hO=>((jJ k hO.1 hO.2.1 hO.2.2.1 hO.2.2.2 eB eC dX dY).bind fun dC=>(if eqI dC.1 0=true then (eK k x1 (aH .i64 dB 1) dC.2.2.1 dC.2.2.2.1 dC.2.2.2.2.1 dC.2.2.2.2.2) else (some (.inr (.inr ())))))) else none) else (some (.inl (eB,eC,dX,dY))))
def oV (k:Nat) (x1:Ty7):Option Ty1:=((eK k x1 0 [] [] ([]:Ty2) []).bind (fun q=>Sum.elim (fun x3=>(some (.inl (x3.1,x3.2.1,x3.2.2.1,x3.2.2.2)))) (fun x3=>(some x3)) q))
def eN:Nat→Ty7→Int→aG→Option (aG)
 | 0,_,_,_=>none
 | k+1,x1,dR,dW=>(if ltI dR (nI x1.length)=true then (if inI dR x1.length=true then ((x1[tN dR]?).bind fun iG=>(if eqI iG.1 6=true then (eN k x1 (aH .i64 dR 1) (aZ dW iG.2.1 iG.2.2.2)) else (eN k x1 (aH .i64 dR 1) dW))) else none) else (some dW))
def kL (k:Nat) (x1:Ty7):Option (Sum (aG) (Unit)):=((oV k x1).bind (fun q=>Sum.elim (fun x3=>((eN k x1 0 ([]:aG)).bind (fun x5=>(some (.inl x5))))) (fun x3=>(some (.inr ()))) q))
def fL:Nat→Ty7→Int→Option (Unit)
 | 0,_,_=>none
 | k+1,x1,eL=>(if ltI eL (nI x1.length)=true then (if inI eL x1.length=true then ((x1[tN eL]?).bind fun xX=>(fL k x1 (aH .i64 eL 1))) else none) else (some ()))
def cT:Nat→Ty7→aG→Int→Int→Option (Int)
 | 0,_,_,_,_=>none
 | k+1,x1,x3,cI,b5=>(if ltI b5 (nI x1.length)=true then (if inI b5 x1.length=true then ((x1[tN b5]?).bind fun kI=>(if eqI kI.1 5=true then (if mN x3 kI.2.1=true then ((bG x3 kI.2.1).bind fun vC=>(if eqI vC 2=true then (cT k x1 x3 (aH .i64 cI 1) (aH .i64 b5 1)) else (cT k x1 x3 cI (aH .i64 b5 1)))) else (cT k x1 x3 cI (aH .i64 b5 1))) else (cT k x1 x3 cI (aH .i64 b5 1)))) else none) else (some cI))
def jA (k:Nat) (x1:Ty7):Option (Int × Int):=((kL k x1).bind (fun q=>Sum.elim (fun x3=>((cT k x1 x3 0 0).bind (fun x5=>(some (x5,0))))) (fun x3=>((fL k x1 0).bind (fun x5=>(some (0,4))))) q))
def cU:Nat→Ty7→aG→Int→aG→Option (aG)
 | 0,_,_,_,_=>none
 | k+1,x1,x3,b6,aL=>(if ltI b6 (nI x1.length)=true then (if inI b6 x1.length=true then ((x1[tN b6]?).bind fun cR=>(if eqI cR.1 3=true then (if mN x3 cR.2.1=true then ((bG x3 cR.2.1).bind fun vD=>(if eqI vD 1=true then (if dF (((aL++[cR.2.2]).length)*16)=true then (cU k x1 x3 (aH .i64 b6 1) (aL++[cR.2.2])) else none) else (cU k x1 x3 (aH .i64 b6 1) aL))) else (cU k x1 x3 (aH .i64 b6 1) aL)) else (cU k x1 x3 (aH .i64 b6 1) aL))) else none) else (some aL))
def kC (k:Nat) (x1:Ty7):Option (aG × Int):=((kL k x1).bind (fun q=>Sum.elim (fun x3=>((cU k x1 x3 0 []).bind (fun x5=>((kN k [] x5).bind fun x6=>(some (x6.1,x6.2)))))) (fun x3=>(some ([],4))) q))
def o8 (x1:aG):Bool:=jS (x1++x1)
def nS (x1:aG) (x2:aG):Bool:=jS (x1++x2)
def o7 (k:Nat):Option Bool:=(if eqI (nI aJ.length) 0=true then (some false) else ((kL k aJ).bind (fun q=>Sum.elim (fun x2=>((jA k aJ).bind fun x3=>((kC k aJ).bind fun x4=>(if leI 1 aJ.length=true then ((kL k (List.drop 1 aJ)).bind (fun q=>Sum.elim (fun x6=>(if eqI (nI x2.length) 1=true then (if mN x2 1=true then ((bG x2 1).bind fun x7=>(if eqI x7 2=true then (if eqI x3.1 1=true then (if eqI x3.2 0=true then (if eqI (nI x4.1.length) 0=true then (if eqI x4.2 0=true then (some false) else (some false)) else (some false)) else (some false)) else (some false)) else (some false))) else (some false)) else (some false))) (fun x6=>(if eqI (nI x2.length) 1=true then (if mN x2 1=true then ((bG x2 1).bind fun x7=>(if eqI x7 2=true then (if eqI x3.1 1=true then (if eqI x3.2 0=true then (if eqI (nI x4.1.length) 0=true then (if eqI x4.2 0=true then (if (o8 x2)=true then (some (!(nS x2 (aZ ([]:aG) 1 1)))) else (some false)) else (some false)) else (some false)) else (some false)) else (some false)) else (some false))) else (some false)) else (some false))) q)) else none)))) (fun x2=>((jA k aJ).bind fun x3=>((kC k aJ).bind fun x4=>(if leI 1 aJ.length=true then ((kL k (List.drop 1 aJ)).bind (fun q=>Sum.elim (fun x6=>(some false)) (fun x6=>(some false)) q)) else none)))) q)))
def gH (k:Nat) (x1:Ty7):Option Unit:=(if dF (x1.length*32)=true then (some ()) else none)
def m6:Unit:=()
def jZ (k:Nat) (x1:Ty7):Option Unit:=gH k x1
def mA (k:Nat) (x1:aG) (x2:Ty8) (x3:Ty2) (x4:Ty7):Option Unit:=((jZ k x4).bind fun x5=>(some ()))
def pX (x1:aG) (x2:Ty8) (x3:Ty2) (x4:Ty7):Unit:=()
def jY (k:Nat) (x1:aG) (x2:Ty8) (x3:Ty2) (x4:Ty7):Option Unit:=((jZ k x4).bind fun x5=>(some ()))
def bR:Nat→(aG × Ty8 × Ty2 × Ty7)→Int→Int→Option (Int)
 | 0,_,_,_=>none
 | k+1,x4,eM,dS=>(if ltI dS (nI x4.2.2.2.length)=true then (if inI dS x4.2.2.2.length=true then ((x4.2.2.2[tN dS]?).bind fun nH=>(if eqI nH.1 5=true then (bR k x4 (aH .i64 eM 1) (aH .i64 dS 1)) else (bR k x4 eM (aH .i64 dS 1)))) else none) else (some eM))
def cA:Nat→Ty7→Int→aG→Ty8→Ty2→Ty7→Option (aG × Ty8 × Ty2 × Ty7)
 | 0,_,_,_,_,_,_=>none
 | k+1,x1,eF,fQ,fR,fF,fG=>(if ltI eF (nI x1.length)=true then (if inI eF x1.length=true then ((x1[tN eF]?).bind fun jR=>((jJ k jR.1 jR.2.1 jR.2.2.1 jR.2.2.2 fQ fR fF fG).bind fun eY=>(cA k x1 (aH .i64 eF 1) eY.2.2.1 eY.2.2.2.1 eY.2.2.2.2.1 eY.2.2.2.2.2))) else none) else (some (fQ,fR,fF,fG)))
def j6 (k:Nat) (x1:Ty7):Option Bool:=((o7 k).bind fun x2=>(if x2=true then (if ltI 100 (nI x1.length)=true then (some (!false)) else ((cA k x1 0 [] [] ([]:Ty2) []).bind (fun x4=>((mA k x4.1 x4.2.1 x4.2.2.1 x4.2.2.2).bind fun x5=>((bR k x4 0 0).bind (fun x7=>((jY k x4.1 x4.2.1 x4.2.2.1 x4.2.2.2).bind fun x8=>((jA k x4.2.2.2).bind fun x9=>((jA k []).bind fun x10=>((kC k []).bind fun x11=>(if eqI x9.2 0=true then (if ltI x9.1 0=true then (some false) else (if ltI x7 x9.1=true then (some false) else (if eqI x10.1 0=true then (if eqI x10.2 0=true then (if eqI (nI x11.1.length) 0=true then (some (eqI x11.2 0)) else (some false)) else (some false)) else (some false)))) else (some false)))))))))))) else (some false)))
def gT:Nat→Int→aG→Bool→Int→Int→Option aC9
 | 0,_,_,_,_,_=>none
 | k+1,x1,x2,x3,x4,fS=>(if ltI fS (nI x2.length)=true then (if inI fS x2.length=true then ((x2[tN fS]?).bind fun aFI=>(if ltI aFI.1 64=true then (gT k x1 x2 x3 x4 (aH .i64 fS 1)) else (some (.inr false)))) else none) else (some (.inl ())))
def eJ:Nat→aG→Int→aG→Option (aG)
 | 0,_,_,_=>none
 | k+1,x1,fT,gM=>(if ltI fT 0=true then (some gM) else (if inI fT x1.length=true then ((x1[tN fT]?).bind fun pT=>(if dF (((gM++[(pT.1,aAA .i64 pT.2)]).length)*16)=true then (eJ k x1 (qT .i64 fT 1) (gM++[(pT.1,aAA .i64 pT.2)])) else none)) else none))
def mC (x1:Int) (x2:Int):Bool:=(if ltI x2 64=true then (if ltI x1 0=true then false else ltI x1 1000) else false)
def dQ:Nat→Ty8→Ty11→Int→Int→Option (Sum (Int) (Bool))
 | 0,_,_,_,_=>none
 | k+1,x1,bP,dZ,eZ=>(if ltI dZ (nI x1.length)=true then (if eqI dZ eZ=true then (dQ k x1 bP (aH .i64 dZ 1) eZ) else (if inI dZ x1.length=true then ((x1[tN dZ]?).bind fun aFJ=>(if eqI aFJ.1 bP.1=true then (if bP.2.2=true then (some (.inr false)) else (dQ k x1 bP (aH .i64 dZ 1) eZ)) else (dQ k x1 bP (aH .i64 dZ 1) eZ))) else none)) else (some (.inl eZ)))
def fI:Nat→Ty8→Int→Option aC9
 | 0,_,_=>none
 | k+1,x1,dD=>(if ltI dD (nI x1.length)=true then (if inI dD x1.length=true then ((x1[tN dD]?).bind fun bP=>(if (mC bP.2.1 bP.1)=true then (if ltI 0 dD=true then (if inI (qT .i64 dD 1) x1.length=true then ((x1[tN (qT .i64 dD 1)]?).bind fun sZ=>(if ltI sZ.1 bP.1=true then ((dQ k x1 bP 0 dD).bind (fun q=>Sum.elim (fun jQ=>(fI k x1 (aH .i64 jQ 1))) (fun jQ=>(some (.inr jQ))) q)) else (if eqI sZ.1 bP.1=true then (if ltI sZ.2.1 bP.2.1=true then ((dQ k x1 bP 0 dD).bind (fun q=>Sum.elim (fun jQ=>(fI k x1 (aH .i64 jQ 1))) (fun jQ=>(some (.inr jQ))) q)) else (some (.inr false))) else (some (.inr false))))) else none) else ((dQ k x1 bP 0 dD).bind (fun q=>Sum.elim (fun s4=>(fI k x1 (aH .i64 s4 1))) (fun s4=>(some (.inr s4))) q))) else (some (.inr false)))) else none) else (some (.inl ())))
def f6:Nat→Ty8→Int→Int→Int→Option (Sum (Unit) (Int))
 | 0,_,_,_,_=>none
 | k+1,x1,x2,x3,fA=>(if ltI fA (nI x1.length)=true then (if inI fA x1.length=true then ((x1[tN fA]?).bind fun s5=>(if eqI s5.1 x3=true then (if eqI s5.2.1 x2=true then (if s5.2.2=true then (some (.inr 2)) else (some (.inr 1))) else (f6 k x1 x2 x3 (aH .i64 fA 1))) else (f6 k x1 x2 x3 (aH .i64 fA 1)))) else none) else (some (.inl ())))
def bJ:Nat→Ty8→Int→Int→Bool→Int→Ty8→Bool→Option (Bool × Bool × Ty8)
 | 0,_,_,_,_,_,_,_=>none
 | k+1,x1,x2,x3,cJ,aW,aM,aN=>(if ltI aW (nI x1.length)=true then (if cJ=true then (if inI aW x1.length=true then ((x1[tN aW]?).bind fun aO=>(if eqI aO.1 x3=true then (if eqI aO.2.1 x2=true then (bJ k x1 x2 x3 cJ (aH .i64 aW 1) aM aN) else (if dF (((aM++[aO]).length)*24)=true then (bJ k x1 x2 x3 cJ (aH .i64 aW 1) (aM++[aO]) aN) else none)) else (if dF (((aM++[aO]).length)*24)=true then (bJ k x1 x2 x3 cJ (aH .i64 aW 1) (aM++[aO]) aN) else none))) else none) else (if inI aW x1.length=true then ((x1[tN aW]?).bind fun aO=>(if ltI x3 aO.1=true then (if dF (((aM++[(x3,x2,aN)]).length)*24)=true then (if eqI aO.1 x3=true then (if eqI aO.2.1 x2=true then (bJ k x1 x2 x3 true (aH .i64 aW 1) (aM++[(x3,x2,aN)]) aN) else (if dF ((((aM++[(x3,x2,aN)])++[aO]).length)*24)=true then (bJ k x1 x2 x3 true (aH .i64 aW 1) ((aM++[(x3,x2,aN)])++[aO]) aN) else none)) else (if dF ((((aM++[(x3,x2,aN)])++[aO]).length)*24)=true then (bJ k x1 x2 x3 true (aH .i64 aW 1) ((aM++[(x3,x2,aN)])++[aO]) aN) else none)) else none) else (if eqI x3 aO.1=true then (if ltI aO.2.1 x2=true then (if eqI aO.1 x3=true then (if eqI aO.2.1 x2=true then (bJ k x1 x2 x3 cJ (aH .i64 aW 1) aM aN) else (if dF (((aM++[aO]).length)*24)=true then (bJ k x1 x2 x3 cJ (aH .i64 aW 1) (aM++[aO]) aN) else none)) else (if dF (((aM++[aO]).length)*24)=true then (bJ k x1 x2 x3 cJ (aH .i64 aW 1) (aM++[aO]) aN) else none)) else (if dF (((aM++[(x3,x2,aN)]).length)*24)=true then (if eqI aO.1 x3=true then (if eqI aO.2.1 x2=true then (bJ k x1 x2 x3 true (aH .i64 aW 1) (aM++[(x3,x2,aN)]) aN) else (if dF ((((aM++[(x3,x2,aN)])++[aO]).length)*24)=true then (bJ k x1 x2 x3 true (aH .i64 aW 1) ((aM++[(x3,x2,aN)])++[aO]) aN) else none)) else (if dF ((((aM++[(x3,x2,aN)])++[aO]).length)*24)=true then (bJ k x1 x2 x3 true (aH .i64 aW 1) ((aM++[(x3,x2,aN)])++[aO]) aN) else none)) else none)) else (if eqI aO.1 x3=true then (if eqI aO.2.1 x2=true then (bJ k x1 x2 x3 cJ (aH .i64 aW 1) aM aN) else (if dF (((aM++[aO]).length)*24)=true then (bJ k x1 x2 x3 cJ (aH .i64 aW 1) (aM++[aO]) aN) else none)) else (if dF (((aM++[aO]).length)*24)=true then (bJ k x1 x2 x3 cJ (aH .i64 aW 1) (aM++[aO]) aN) else none))))) else none)) else (some (cJ,aN,aM)))
def f7:Nat→Ty8→Int→Int→Bool→Int→Option (Sum (Unit) (Ty8 × Int))
 | 0,_,_,_,_,_=>none
 | k+1,x1,x2,x3,x4,eH=>(if ltI eH (nI x1.length)=true then (if inI eH x1.length=true then ((x1[tN eH]?).bind fun s6=>(if eqI s6.1 x3=true then (if eqI s6.2.1 x2=true then (f7 k x1 x2 x3 x4 (aH .i64 eH 1)) else (if x4=true then (some (.inr (x1,9))) else (if s6.2.2=true then (some (.inr (x1,9))) else (f7 k x1 x2 x3 x4 (aH .i64 eH 1))))) else (f7 k x1 x2 x3 x4 (aH .i64 eH 1)))) else none) else (some (.inl ())))
end Go.Ws
