/-
  The functions as plain Lean functions. (Printed by my own program.)
  Conditions: none.
-/
import Derived.Test.YtojldadifhneeaaZB2
import Derived.Test.YtojldadifhneeaaZOppDef
set_option linter.unusedVariables false
set_option linter.unusedSimpArgs false
namespace Go.Ws
abbrev aL:=List (Int × Int)
abbrev Ty15:=Int × Int × Bool
abbrev lZ:=Sum (Unit) (Bool)
abbrev Ty13:=Int × Int × Int × Int
abbrev aN:=List Ty15
abbrev a8:=List Ty13
abbrev Ty10:=Int × aL × Bool × Int
abbrev Ty9:=Int × Int × aL × Bool × Int
abbrev Ty8:=Int × Ty10
abbrev Ty7:=List Ty9
abbrev Ty6:=List Ty8
abbrev Ty5:=Int × Int × aN × Ty6 × aL
abbrev Ty4:=Int × Int × aL × aN × Ty6 × a8
set_option linter.unusedVariables false
def kH (k:Nat) (x1:aN):Option Unit:=(if bJ (x1.length*24)=true then (some ()) else none)
def sP:Unit:=()
def qB (k:Nat) (x1:aN):Option Unit:=kH k x1
def jD (x1:Int) (x2:Int):Bool:=(if ltI x2 64=true then (if ltI x1 0=true then false else ltI x1 1000) else false)
def jL (x1:Int):Bool:=(!eqI x1 x1)
def bM (x1:Int) (x2:Int):Int:=(if (jL x1)=true then (if (jL x2)=true then 0 else (-1)) else (if (jL x2)=true then 1 else (if ltI x1 x2=true then (-1) else (if ltI x2 x1=true then 1 else 0))))
def gG (x1:Int):Bool:=(!eqI x1 x1)
def eC (x1:Int) (x2:Int):Int:=(if (gG x1)=true then (if (gG x2)=true then 0 else (-1)) else (if (gG x2)=true then 1 else (if ltI x1 x2=true then (-1) else (if ltI x2 x1=true then 1 else 0))))
def mB:Nat→(List Int)→Int→Option (Sum (Unit) (Int))
 | 0,_,_=>none
 | k+1,x1,dV=>(if ltI dV (nI x1.length)=true then (if inI dV x1.length=true then ((x1[tN dV]?).bind fun rB=>(if eqI rB 0=true then (mB k x1 (aO .i64 dV 1)) else (some (.inr rB)))) else none) else (some (.inl ())))
def aGM (k:Nat) (x1:List Int):Option Int:=((mB k x1 0).bind (fun q=>Sum.elim (fun x3=>(some 0)) (fun x3=>(some x3)) q))
def pU (k:Nat) (x1:Int) (x2:Int) (x3:Bool) (x4:Int) (x5:Int) (x6:Bool):Option Int:=((aGM k [(bM x1 x4),(eC x2 x5)]).bind fun x7=>(some x7))
def fN:Nat→aN→Int→Option lZ
 | 0,_,_=>none
 | k+1,x1,bW=>(if ltI bW (nI x1.length)=true then (if inI bW x1.length=true then ((x1[tN bW]?).bind fun aZ=>(if (jD aZ.2.1 aZ.1)=true then (if eqI bW 0=true then (fN k x1 (aO .i64 bW 1)) else (if inI (o6 .i64 bW 1) x1.length=true then ((x1[tN (o6 .i64 bW 1)]?).bind fun cQ=>((pU k cQ.1 cQ.2.1 cQ.2.2 aZ.1 aZ.2.1 aZ.2.2).bind fun oO=>(if ltI oO 0=true then (if eqI cQ.1 aZ.1=true then (if cQ.2.2=true then (some (.inr false)) else (if aZ.2.2=true then (some (.inr false)) else (fN k x1 (aO .i64 bW 1)))) else (fN k x1 (aO .i64 bW 1))) else (some (.inr false))))) else none)) else (some (.inr false)))) else none) else (some (.inl ())))
def t4 (k:Nat) (x1:aN):Option Bool:=((fN k x1 0).bind (fun q=>Sum.elim (fun x3=>(some true)) (fun x3=>(some x3)) q))
def bG:Nat→aN→Int→Int→Bool→Int→Int→Option (Int)
 | 0,_,_,_,_,_,_=>none
 | k+1,x1,x2,x3,x4,cG,cR=>(if ltI cG cR=true then (if inI (conv .i64 (uT .u64 (conv .u64 (aO .i64 cG cR)) 1)) x1.length=true then ((x1[tN (conv .i64 (uT .u64 (conv .u64 (aO .i64 cG cR)) 1))]?).bind fun i7=>((pU k i7.1 i7.2.1 i7.2.2 x2 x3 x4).bind fun xP=>(if ltI xP 0=true then (bG k x1 x2 x3 x4 (aO .i64 (conv .i64 (uT .u64 (conv .u64 (aO .i64 cG cR)) 1)) 1) cR) else (bG k x1 x2 x3 x4 cG (conv .i64 (uT .u64 (conv .u64 (aO .i64 cG cR)) 1)))))) else none) else (some cG))
def gO (k:Nat) (x1:aN) (x2:Int) (x3:Int) (x4:Bool):Option (Int × Bool):=((bG k x1 x2 x3 x4 0 (nI x1.length)).bind (fun x6=>(if ltI x6 (nI x1.length)=true then (if inI x6 x1.length=true then ((x1[tN x6]?).bind fun x7=>((pU k x7.1 x7.2.1 x7.2.2 x2 x3 x4).bind fun x8=>(some (x6,eqI x8 0)))) else none) else (some (x6,false)))))
def qT (k:Nat) (x1:Int) (x2:aN) (x3:aN):Option aN:=aHR 24 x1 x2 x3
def gD:Nat→aN→Int→Int→Bool→Int→Option (Sum (Unit) (aN × Int))
 | 0,_,_,_,_,_=>none
 | k+1,x1,x2,x3,x4,cS=>(if ltI cS (nI x1.length)=true then (if inI cS x1.length=true then ((x1[tN cS]?).bind fun i8=>(if eqI i8.1 x3=true then (if eqI i8.2.1 x2=true then (gD k x1 x2 x3 x4 (aO .i64 cS 1)) else (if x4=true then (some (.inr (x1,9))) else (if i8.2.2=true then (some (.inr (x1,9))) else (gD k x1 x2 x3 x4 (aO .i64 cS 1))))) else (gD k x1 x2 x3 x4 (aO .i64 cS 1)))) else none) else (some (.inl ())))
def wB (k:Nat) (x1:aN) (x2:Int) (x3:Int) (x4:Bool):Option (aN × Int):=((qB k x1).bind fun x5=>((t4 k x1).bind fun x6=>(if x6=true then (if (jD x2 x3)=true then ((gD k x1 x2 x3 x4 0).bind (fun q=>Sum.elim (fun x8=>((gO k x1 x3 x2 x4).bind fun x9=>(if x9.2=true then (if inI x9.1 x1.length=true then ((x1[tN x9.1]?).bind fun x10=>(if x10.2.2=true then (some ((List.set x1 (tN x9.1) (x10.1,x10.2.1,true)),0)) else (some ((List.set x1 (tN x9.1) (x10.1,x10.2.1,x4)),0)))) else none) else ((qT k x9.1 x1 [(x3,x2,x4)]).bind fun x10=>(some (x10,0)))))) (fun x8=>(some x8)) q)) else (some (x1,2))) else (some (x1,2)))))
def aBS (x1:Int) (x2:Int) (x3:Bool) (x4:Int):Unit:=()
def cY:Nat→aN→Int→Int→Option (Sum (Unit) (Int))
 | 0,_,_,_=>none
 | k+1,x1,x2,dB=>(if ltI dB (nI x1.length)=true then (if inI dB x1.length=true then ((x1[tN dB]?).bind fun jH=>(if eqI jH.2.1 x2=true then (some (.inr dB)) else (cY k x1 x2 (aO .i64 dB 1)))) else none) else (some (.inl ())))
def lH (k:Nat) (x1:aN) (x2:Int):Option Int:=((cY k x1 x2 0).bind (fun q=>Sum.elim (fun x4=>(some (-1))) (fun x4=>(some x4)) q))
def cF:Nat→aN→Int→Int→Int→aN→Option (Int × aN)
 | 0,_,_,_,_,_=>none
 | k+1,x1,x2,dC,cN,dD=>(if ltI dC (nI x1.length)=true then (if inI dC x1.length=true then ((dD[tN dC]?).bind fun fK=>(if eqI fK.2.1 x2=true then (cF k x1 x2 (aO .i64 dC 1) cN dD) else (if inI cN x1.length=true then ((dD[tN cN]?).bind fun aPS=>(cF k x1 x2 (aO .i64 dC 1) (aO .i64 cN 1) (List.set dD (tN cN) fK))) else none))) else none) else (some (cN,dD)))
def kK (k:Nat) (x1:aN) (x2:Int):Option (Nat × aN):=((lH k x1 x2).bind fun x3=>(if eqI x3 (-1)=true then (some (x1.length,x1)) else ((cF k x1 x2 (aO .i64 x3 1) x3 x1).bind (fun x5=>(if isZ x1.length=true then none else (if vF x1.length x5.2.length=true then (if leI x5.1 x1.length=true then (if isZ (x1.length - (tN x5.1))=true then (if leI x5.1 x5.2.length=true then (some (tN x5.1,x5.2)) else none) else (if vF (tN x5.1+(x1.length - (tN x5.1))) x5.2.length=true then (if vF (tN x5.1) x5.2.length=true then (if vF x1.length ((((List.take (tN x5.1) x5.2)++(List.replicate (x1.length - (tN x5.1)) (0,0,false)))++(List.drop (tN x5.1+(x1.length - (tN x5.1))) x5.2)).length)=true then (if leI x5.1 ((((List.take (tN x5.1) x5.2)++(List.replicate (x1.length - (tN x5.1)) (0,0,false)))++(List.drop (tN x5.1+(x1.length - (tN x5.1))) x5.2)).length)=true then (some (tN x5.1,(((List.take (tN x5.1) x5.2)++(List.replicate (x1.length - (tN x5.1)) (0,0,false)))++(List.drop (tN x5.1+(x1.length - (tN x5.1))) x5.2)))) else none) else none) else none) else none)) else none) else none))))))
def qH (k:Nat) (x1:aN) (x2:Int):Option aN:=((qB k x1).bind fun x3=>((kK k x1 x2).bind fun x4=>(if vF x4.1 x4.2.length=true then (some (List.take x4.1 x4.2)) else none)))
def iZ (k:Nat) (x1:aL):Option Unit:=(if bJ (x1.length*16)=true then (some ()) else none)
def pE:Unit:=()
def oH (k:Nat) (x1:aL):Option Unit:=iZ k x1
def eL:Nat→aL→Int→Option lZ
 | 0,_,_=>none
 | k+1,x1,b9=>(if ltI b9 (nI x1.length)=true then (if inI b9 x1.length=true then ((x1[tN b9]?).bind fun jI=>(if ltI jI.1 64=true then (if eqI jI.2 0=true then (some (.inr false)) else (if ltI 0 b9=true then (if inI (o6 .i64 b9 1) x1.length=true then ((x1[tN (o6 .i64 b9 1)]?).bind fun xQ=>(if ltI xQ.1 jI.1=true then (eL k x1 (aO .i64 b9 1)) else (some (.inr false)))) else none) else (eL k x1 (aO .i64 b9 1)))) else (some (.inr false)))) else none) else (some (.inl ())))
def p7 (k:Nat) (x1:aL):Option Bool:=((eL k x1 0).bind (fun q=>Sum.elim (fun x3=>(some true)) (fun x3=>(some x3)) q))
def aAK (x1:Int) (x2:Int):Unit:=()
def cB:Nat→aL→Int→Option (Sum (Unit) (Int))
 | 0,_,_=>none
 | k+1,x1,dE=>(if ltI dE (nI x1.length)=true then (if inI dE x1.length=true then ((x1[tN dE]?).bind fun lU=>(if ltI lU.1 64=true then (cB k x1 (aO .i64 dE 1)) else (some (.inr dE)))) else none) else (some (.inl ())))
def jM (k:Nat) (x1:aL):Option Int:=((cB k x1 0).bind (fun q=>Sum.elim (fun x3=>(some (-1))) (fun x3=>(some x3)) q))
def jK (k:Nat) (x1:aL):Option Bool:=((jM k x1).bind fun x2=>(some (!ltI x2 0)))
def yW (x1:Int) (x2:Int) (x3:Int):Unit:=()
def a9:Nat→aL→Int→Int→Int→Option (Int)
 | 0,_,_,_,_=>none
 | k+1,x1,x2,cH,cT=>(if ltI cH cT=true then (if inI (conv .i64 (uT .u64 (conv .u64 (aO .i64 cH cT)) 1)) x1.length=true then ((x1[tN (conv .i64 (uT .u64 (conv .u64 (aO .i64 cH cT)) 1))]?).bind fun lV=>(if ltI (bM lV.1 x2) 0=true then (a9 k x1 x2 (aO .i64 (conv .i64 (uT .u64 (conv .u64 (aO .i64 cH cT)) 1)) 1) cT) else (a9 k x1 x2 cH (conv .i64 (uT .u64 (conv .u64 (aO .i64 cH cT)) 1))))) else none) else (some cH))
def fH (k:Nat) (x1:aL) (x2:Int):Option (Int × Bool):=((a9 k x1 x2 0 (nI x1.length)).bind (fun x4=>(if ltI x4 (nI x1.length)=true then (if inI x4 x1.length=true then ((x1[tN x4]?).bind fun x5=>(some (x4,eqI (bM x5.1 x2) 0))) else none) else (some (x4,false)))))
def sA (k:Nat) (x1:aL) (x2:Int):Option (Int × Bool):=((fH k x1 x2).bind fun x3=>(some (x3.1,x3.2)))
def q7 (k:Nat) (x1:Int) (x2:Int) (x3:aL):Option aL:=delP x1 x2 x3
def nL (k:Nat) (x1:Int) (x2:aL) (x3:aL):Option aL:=aHR 16 x1 x2 x3
def oN (k:Nat) (x1:Int) (x2:Int) (x3:aL):Option aL:=delP x1 x2 x3
def eW:Nat→aL→Int→aL→Option (aL)
 | 0,_,_,_=>none
 | k+1,x2,cI,aU=>(if ltI cI (nI x2.length)=true then (if inI cI x2.length=true then ((x2[tN cI]?).bind fun bA=>((sA k aU bA.1).bind fun aY=>(if aY.2=true then (if inI aY.1 aU.length=true then ((aU[tN aY.1]?).bind fun aX=>(((List.set aU (tN aY.1) (aX.1,aO .i64 aX.2 bA.2))[tN aY.1]?).bind fun bQ=>(if eqI bQ.2 0=true then ((q7 k aY.1 (aO .i64 aY.1 1) (List.set aU (tN aY.1) (aX.1,aO .i64 aX.2 bA.2))).bind fun hX=>(eW k x2 (aO .i64 cI 1) hX)) else (eW k x2 (aO .i64 cI 1) (List.set aU (tN aY.1) (aX.1,aO .i64 aX.2 bA.2)))))) else none) else ((nL k aY.1 aU [(bA.1,0)]).bind fun aX=>(if inI aY.1 aX.length=true then ((aX[tN aY.1]?).bind fun bQ=>(((List.set aX (tN aY.1) (bQ.1,aO .i64 bQ.2 bA.2))[tN aY.1]?).bind fun hX=>(if eqI hX.2 0=true then ((oN k aY.1 (aO .i64 aY.1 1) (List.set aX (tN aY.1) (bQ.1,aO .i64 bQ.2 bA.2))).bind fun mQ=>(eW k x2 (aO .i64 cI 1) mQ)) else (eW k x2 (aO .i64 cI 1) (List.set aX (tN aY.1) (bQ.1,aO .i64 bQ.2 bA.2)))))) else none))))) else none) else (some aU))
def nU (k:Nat) (x1:aL) (x2:aL):Option (aL × Int):=((oH k x1).bind fun x3=>((p7 k x1).bind fun x4=>(if x4=true then ((jK k x2).bind fun x5=>(if x5=true then (some (x1,2)) else ((eW k x2 0 x1).bind (fun x7=>(some (x7,0)))))) else (some (x1,2)))))
def g7:Nat→aL→Int→Int→Option (Sum (Unit) (Int))
 | 0,_,_,_=>none
 | k+1,x1,x2,dW=>(if ltI dW (nI x1.length)=true then (if inI dW x1.length=true then ((x1[tN dW]?).bind fun oP=>(if eqI oP.1 x2=true then (some (.inr oP.2)) else (g7 k x1 x2 (aO .i64 dW 1)))) else none) else (some (.inl ())))
def pB (k:Nat) (x1:aL) (x2:Int):Option Int:=((g7 k x1 x2 0).bind (fun q=>Sum.elim (fun x4=>(some 0)) (fun x4=>(some x4)) q))
def iU (k:Nat) (x1:aL):Option Unit:=(if bJ (x1.length*16)=true then (some ()) else none)
def pI:Unit:=()
def eK (k:Nat) (x1:aL):Option Unit:=iU k x1
def oV (k:Nat) (x1:Int) (x2:aL) (x3:Bool) (x4:Int):Option Unit:=((eK k x2).bind fun x5=>(some ()))
def iT (x1:Int) (x2:Int):Bool:=(!ltI x1 64)
def bV:Nat→aL→Int→Option (Sum (Unit) (Int))
 | 0,_,_=>none
 | k+1,x1,cJ=>(if ltI cJ (nI x1.length)=true then (if inI cJ x1.length=true then ((x1[tN cJ]?).bind fun gP=>(if (iT gP.1 gP.2)=true then (some (.inr cJ)) else (bV k x1 (aO .i64 cJ 1)))) else none) else (some (.inl ())))
def iJ (k:Nat) (x1:aL):Option Int:=((bV k x1 0).bind (fun q=>Sum.elim (fun x3=>(some (-1))) (fun x3=>(some x3)) q))
def iI (k:Nat) (x1:aL):Option Bool:=((iJ k x1).bind fun x2=>(some (!ltI x2 0)))
def nY (k:Nat) (x1:Int) (x2:aL) (x3:Bool) (x4:Int):Option Bool:=(if ltI x1 0=true then (some false) else (if ltI 3 x1=true then (some false) else (if ltI 50 (nI x2.length)=true then (some false) else ((iI k x2).bind fun x5=>(if x5=true then (some false) else (if eqI x4 1=true then (if eqI x1 3=true then (some true) else (if eqI x4 0=true then (if x3=true then (some (eqI x1 1)) else (some true)) else (some false))) else (if eqI x1 3=true then (some (eqI x4 2)) else (if eqI x4 0=true then (if x3=true then (some (eqI x1 1)) else (some true)) else (some false)))))))))
def zE (k:Nat) (x1:Int) (x2:aL) (x3:Bool) (x4:Int) (x5:Int) (x6:Int):Option (Int × aL × Bool × Int × Int):=((oV k x1 x2 x3 x4).bind fun x7=>((nY k x1 x2 x3 x4).bind fun x8=>(if x8=true then (if (iT x5 x6)=true then (some (x1,x2,x3,x4,2)) else (if eqI x1 0=true then (if ltI (nI x2.length) 50=true then (if bJ (((x2++[(x5,x6)]).length)*16)=true then (some (x1,(x2++[(x5,x6)]),x3,x4,0)) else none) else (some (x1,x2,x3,x4,6))) else (some (x1,x2,x3,x4,13)))) else (some (x1,x2,x3,x4,2)))))
def jP (k:Nat) (x1:Int) (x2:aL) (x3:Bool) (x4:Int):Option Ty10:=((eK k x2).bind fun x5=>(some (x1,x2,x3,x4)))
def wG (k:Nat) (x1:Int) (x2:aL) (x3:Bool) (x4:Int) (x5:Bool):Option (Int × aL × Bool × Int × Int):=((jP k x1 x2 x3 x4).bind fun x6=>((nY k x6.1 x6.2.1 x6.2.2.1 x6.2.2.2).bind fun x7=>(if x7=true then (if eqI x6.1 0=true then (if x5=true then (some (1,x6.2.1,x6.2.2.1,x6.2.2.2,0)) else (some (2,x6.2.1,x6.2.2.1,x6.2.2.2,0))) else (some (x6.1,x6.2.1,x6.2.2.1,x6.2.2.2,13))) else (some (x6.1,x6.2.1,x6.2.2.1,x6.2.2.2,2)))))
def t7 (k:Nat) (x1:Int) (x2:aL) (x3:Bool) (x4:Int):Option (Int × aL × Bool × Int × aL × Int):=((jP k x1 x2 x3 x4).bind fun x5=>((nY k x5.1 x5.2.1 x5.2.2.1 x5.2.2.2).bind fun x6=>(if x6=true then (if eqI x5.1 1=true then (if x5.2.2.1=true then (some (x5.1,x5.2.1,x5.2.2.1,x5.2.2.2,[],8)) else ((eK k x5.2.1).bind fun x7=>(some (x5.1,x5.2.1,true,x5.2.2.2,x5.2.1,0)))) else (some (x5.1,x5.2.1,x5.2.2.1,x5.2.2.2,[],13))) else (some (x5.1,x5.2.1,x5.2.2.1,x5.2.2.2,[],2)))))
def nE (k:Nat) (x1:aL):Option aL:=oppP x1
def pS (k:Nat) (x1:Int) (x2:aL) (x3:Bool) (x4:Int) (x5:Int):Option (Int × aL × Bool × Int × aL × Int):=((jP k x1 x2 x3 x4).bind fun x6=>((nY k x6.1 x6.2.1 x6.2.2.1 x6.2.2.2).bind fun x7=>(if x7=true then (if eqI x5 1=true then (if eqI x6.2.2.2 x5=true then (some (x6.1,x6.2.1,x6.2.2.1,x6.2.2.2,[],0)) else (if eqI x6.1 3=true then (some (x6.1,x6.2.1,x6.2.2.1,x6.2.2.2,[],13)) else (if eqI x6.1 1=true then (if eqB (eqI x5 1) x6.2.2.1=true then (some (3,x6.2.1,x6.2.2.1,x5,[],0)) else (if x6.2.2.1=true then ((nE k x6.2.1).bind fun x8=>(some (3,x6.2.1,x6.2.2.1,x5,x8,0))) else ((eK k x6.2.1).bind fun x8=>(some (3,x6.2.1,x6.2.2.1,x5,x6.2.1,0))))) else (some (x6.1,x6.2.1,x6.2.2.1,x6.2.2.2,[],13))))) else (if eqI x5 2=true then (if eqI x6.2.2.2 x5=true then (some (x6.1,x6.2.1,x6.2.2.1,x6.2.2.2,[],0)) else (if eqI x6.1 3=true then (some (x6.1,x6.2.1,x6.2.2.1,x6.2.2.2,[],13)) else (if eqB (eqI x5 1) x6.2.2.1=true then (some (3,x6.2.1,x6.2.2.1,x5,[],0)) else (if x6.2.2.1=true then ((nE k x6.2.1).bind fun x8=>(some (3,x6.2.1,x6.2.2.1,x5,x8,0))) else ((eK k x6.2.1).bind fun x8=>(some (3,x6.2.1,x6.2.2.1,x5,x6.2.1,0))))))) else (some (x6.1,x6.2.1,x6.2.2.1,x6.2.2.2,[],2)))) else (some (x6.1,x6.2.1,x6.2.2.1,x6.2.2.2,[],2)))))
def hS (x1:Int) (x2:Int):Bool:=(if ltI x2 64=true then (if ltI x1 0=true then false else ltI x1 1000) else false)
def dP:Nat→aN→Ty15→Int→Int→Option (Sum (Int) (Bool))
 | 0,_,_,_,_=>none
 | k+1,x1,aP,cK,cX=>(if ltI cK (nI x1.length)=true then (if eqI cK cX=true then (dP k x1 aP (aO .i64 cK 1) cX) else (if inI cK x1.length=true then ((x1[tN cK]?).bind fun vE=>(if eqI vE.1 aP.1=true then (if aP.2.2=true then (some (.inr false)) else (dP k x1 aP (aO .i64 cK 1) cX)) else (dP k x1 aP (aO .i64 cK 1) cX))) else none)) else (some (.inl cX)))
def eR:Nat→aN→Int→Option lZ
 | 0,_,_=>none
 | k+1,x1,bR=>(if ltI bR (nI x1.length)=true then (if inI bR x1.length=true then ((x1[tN bR]?).bind fun aP=>(if (hS aP.2.1 aP.1)=true then (if ltI 0 bR=true then (if inI (o6 .i64 bR 1) x1.length=true then ((x1[tN (o6 .i64 bR 1)]?).bind fun fP=>(if ltI fP.1 aP.1=true then ((dP k x1 aP 0 bR).bind (fun q=>Sum.elim (fun fL=>(eR k x1 (aO .i64 fL 1))) (fun fL=>(some (.inr fL))) q)) else (if eqI fP.1 aP.1=true then (if ltI fP.2.1 aP.2.1=true then ((dP k x1 aP 0 bR).bind (fun q=>Sum.elim (fun fL=>(eR k x1 (aO .i64 fL 1))) (fun fL=>(some (.inr fL))) q)) else (some (.inr false))) else (some (.inr false))))) else none) else ((dP k x1 aP 0 bR).bind (fun q=>Sum.elim (fun kD=>(eR k x1 (aO .i64 kD 1))) (fun kD=>(some (.inr kD))) q))) else (some (.inr false)))) else none) else (some (.inl ())))
def r8 (k:Nat) (x1:aN):Option Bool:=((eR k x1 0).bind (fun q=>Sum.elim (fun x3=>(some true)) (fun x3=>(some x3)) q))
def fF:Nat→aN→Int→Int→Int→Option (Sum (Unit) (Int))
 | 0,_,_,_,_=>none
 | k+1,x1,x2,x3,dF=>(if ltI dF (nI x1.length)=true then (if inI dF x1.length=true then ((x1[tN dF]?).bind fun i9=>(if eqI i9.1 x3=true then (if eqI i9.2.1 x2=true then (if i9.2.2=true then (some (.inr 2)) else (some (.inr 1))) else (fF k x1 x2 x3 (aO .i64 dF 1))) else (fF k x1 x2 x3 (aO .i64 dF 1)))) else none) else (some (.inl ())))
def sF (k:Nat) (x1:aN) (x2:Int) (x3:Int):Option Int:=((fF k x1 x2 x3 0).bind (fun q=>Sum.elim (fun x5=>(some 0)) (fun x5=>(some x5)) q))
def bP:Nat→aN→Int→Int→Bool→Int→aN→Bool→Option (Bool × Bool × aN)
 | 0,_,_,_,_,_,_,_=>none
 | k+1,x1,x2,x3,bK,aV,aE,aJ=>(if ltI aV (nI x1.length)=true then (if bK=true then (if inI aV x1.length=true then ((x1[tN aV]?).bind fun aH=>(if eqI aH.1 x3=true then (if eqI aH.2.1 x2=true then (bP k x1 x2 x3 bK (aO .i64 aV 1) aE aJ) else (if bJ (((aE++[aH]).length)*24)=true then (bP k x1 x2 x3 bK (aO .i64 aV 1) (aE++[aH]) aJ) else none)) else (if bJ (((aE++[aH]).length)*24)=true then (bP k x1 x2 x3 bK (aO .i64 aV 1) (aE++[aH]) aJ) else none))) else none) else (if inI aV x1.length=true then ((x1[tN aV]?).bind fun aH=>(if ltI x3 aH.1=true then (if bJ (((aE++[(x3,x2,aJ)]).length)*24)=true then (if eqI aH.1 x3=true then (if eqI aH.2.1 x2=true then (bP k x1 x2 x3 true (aO .i64 aV 1) (aE++[(x3,x2,aJ)]) aJ) else (if bJ ((((aE++[(x3,x2,aJ)])++[aH]).length)*24)=true then (bP k x1 x2 x3 true (aO .i64 aV 1) ((aE++[(x3,x2,aJ)])++[aH]) aJ) else none)) else (if bJ ((((aE++[(x3,x2,aJ)])++[aH]).length)*24)=true then (bP k x1 x2 x3 true (aO .i64 aV 1) ((aE++[(x3,x2,aJ)])++[aH]) aJ) else none)) else none) else (if eqI x3 aH.1=true then (if ltI aH.2.1 x2=true then (if eqI aH.1 x3=true then (if eqI aH.2.1 x2=true then (bP k x1 x2 x3 bK (aO .i64 aV 1) aE aJ) else (if bJ (((aE++[aH]).length)*24)=true then (bP k x1 x2 x3 bK (aO .i64 aV 1) (aE++[aH]) aJ) else none)) else (if bJ (((aE++[aH]).length)*24)=true then (bP k x1 x2 x3 bK (aO .i64 aV 1) (aE++[aH]) aJ) else none)) else (if bJ (((aE++[(x3,x2,aJ)]).length)*24)=true then (if eqI aH.1 x3=true then (if eqI aH.2.1 x2=true then (bP k x1 x2 x3 true (aO .i64 aV 1) (aE++[(x3,x2,aJ)]) aJ) else (if bJ ((((aE++[(x3,x2,aJ)])++[aH]).length)*24)=true then (bP k x1 x2 x3 true (aO .i64 aV 1) ((aE++[(x3,x2,aJ)])++[aH]) aJ) else none)) else (if bJ ((((aE++[(x3,x2,aJ)])++[aH]).length)*24)=true then (bP k x1 x2 x3 true (aO .i64 aV 1) ((aE++[(x3,x2,aJ)])++[aH]) aJ) else none)) else none)) else (if eqI aH.1 x3=true then (if eqI aH.2.1 x2=true then (bP k x1 x2 x3 bK (aO .i64 aV 1) aE aJ) else (if bJ (((aE++[aH]).length)*24)=true then (bP k x1 x2 x3 bK (aO .i64 aV 1) (aE++[aH]) aJ) else none)) else (if bJ (((aE++[aH]).length)*24)=true then (bP k x1 x2 x3 bK (aO .i64 aV 1) (aE++[aH]) aJ) else none))))) else none)) else (some (bK,aJ,aE)))
def fM:Nat→aN→Int→Int→Bool→Int→Option (Sum (Unit) (aN × Int))
 | 0,_,_,_,_,_=>none
 | k+1,x1,x2,x3,x4,cU=>(if ltI cU (nI x1.length)=true then (if inI cU x1.length=true then ((x1[tN cU]?).bind fun hZ=>(if eqI hZ.1 x3=true then (if eqI hZ.2.1 x2=true then (fM k x1 x2 x3 x4 (aO .i64 cU 1)) else (if x4=true then (some (.inr (x1,9))) else (if hZ.2.2=true then (some (.inr (x1,9))) else (fM k x1 x2 x3 x4 (aO .i64 cU 1))))) else (fM k x1 x2 x3 x4 (aO .i64 cU 1)))) else none) else (some (.inl ())))
def uC (k:Nat) (x1:aN) (x2:Int) (x3:Int) (x4:Bool):Option (aN × Int):=((r8 k x1).bind fun x5=>(if x5=true then (if (hS x2 x3)=true then ((fM k x1 x2 x3 x4 0).bind (fun q=>Sum.elim (fun x7=>(if x4=true then ((bP k x1 x2 x3 false 0 [] true).bind (fun x9=>(if x9.1=true then (some (x9.2.2,0)) else (if bJ (((x9.2.2++[(x3,x2,x9.2.1)]).length)*24)=true then (some ((x9.2.2++[(x3,x2,x9.2.1)]),0)) else none)))) else ((sF k x1 x2 x3).bind fun x8=>((bP k x1 x2 x3 false 0 [] (eqI x8 2)).bind (fun x10=>(if x10.1=true then (some (x10.2.2,0)) else (if bJ (((x10.2.2++[(x3,x2,x10.2.1)]).length)*24)=true then (some ((x10.2.2++[(x3,x2,x10.2.1)]),0)) else none))))))) (fun x7=>(some x7)) q)) else (some (x1,2))) else (some (x1,2))))
def fU:Nat→Int→aL→Bool→Int→Int→Option lZ
 | 0,_,_,_,_,_=>none
 | k+1,x1,x2,x3,x4,dX=>(if ltI dX (nI x2.length)=true then (if inI dX x2.length=true then ((x2[tN dX]?).bind fun xR=>(if ltI xR.1 64=true then (fU k x1 x2 x3 x4 (aO .i64 dX 1)) else (some (.inr false)))) else none) else (some (.inl ())))
def mN (k:Nat) (x1:Int) (x2:aL) (x3:Bool) (x4:Int):Option Bool:=((fU k x1 x2 x3 x4 0).bind (fun q=>Sum.elim (fun x6=>(if ltI x1 0=true then (some false) else (if ltI 3 x1=true then (some false) else (if ltI 50 (nI x2.length)=true then (some false) else (if x3=true then (if eqI x1 1=true then (if eqI x1 3=true then (if eqI x4 1=true then (some true) else (some (eqI x4 2))) else (some (eqI x4 0))) else (if eqI x1 3=true then (if eqI x4 1=true then (some true) else (some (eqI x4 2))) else (some false))) else (if eqI x1 3=true then (if eqI x4 1=true then (some true) else (some (eqI x4 2))) else (some (eqI x4 0)))))))) (fun x6=>(some x6)) q))
def wA (k:Nat) (x1:Int) (x2:aL) (x3:Bool) (x4:Int) (x5:Int) (x6:Int):Option (Int × aL × Bool × Int × Int):=((mN k x1 x2 x3 x4).bind fun x7=>(if x7=true then (if ltI x5 64=true then (if eqI x1 0=true then (if ltI (nI x2.length) 50=true then (if bJ (x2.length*16)=true then (if bJ (((x2++[(x5,x6)]).length)*16)=true then (some (x1,(x2++[(x5,x6)]),x3,x4,0)) else none) else none) else (some (x1,x2,x3,x4,6))) else (some (x1,x2,x3,x4,13))) else (some (x1,x2,x3,x4,2))) else (some (x1,x2,x3,x4,2))))
def t5 (k:Nat) (x1:Int) (x2:aL) (x3:Bool) (x4:Int) (x5:Bool):Option (Int × aL × Bool × Int × Int):=((mN k x1 x2 x3 x4).bind fun x6=>(if x6=true then (if eqI x1 0=true then (if x5=true then (some (1,x2,x3,x4,0)) else (some (2,x2,x3,x4,0))) else (some (x1,x2,x3,x4,13))) else (some (x1,x2,x3,x4,2))))
def sE (k:Nat) (x1:Int) (x2:aL) (x3:Bool) (x4:Int):Option (Int × aL × Bool × Int × aL × Int):=((mN k x1 x2 x3 x4).bind fun x5=>(if x5=true then (if eqI x1 1=true then (if x3=true then (some (x1,x2,x3,x4,[],8)) else (some (x1,x2,true,x4,x2,0))) else (some (x1,x2,x3,x4,[],13))) else (some (x1,x2,x3,x4,[],2))))
def dM:Nat→aL→Int→aL→Option (aL)
 | 0,_,_,_=>none
 | k+1,x1,dY,bX=>(if ltI dY 0=true then (some bX) else (if inI dY x1.length=true then ((x1[tN dY]?).bind fun bY=>(if bJ (((bX++[(bY.1,rK .i64 bY.2)]).length)*16)=true then (dM k x1 (o6 .i64 dY 1) (bX++[(bY.1,rK .i64 bY.2)])) else none)) else none))
def kO (k:Nat) (x1:aL):Option aL:=((dM k x1 (o6 .i64 (nI x1.length) 1) []).bind (fun x3=>(some x3)))
def mP (k:Nat) (x1:Int) (x2:aL) (x3:Bool) (x4:Int) (x5:Int):Option (Int × aL × Bool × Int × aL × Int):=((mN k x1 x2 x3 x4).bind fun x6=>(if x6=true then (if eqI x5 1=true then (if eqI x1 3=true then (if eqI x4 x5=true then (some (x1,x2,x3,x4,[],0)) else (some (x1,x2,x3,x4,[],13))) else (if eqI x1 1=true then (if x3=true then (if eqI x5 2=true then ((kO k x2).bind fun x7=>(some (3,x2,x3,x5,x7,0))) else (some (3,x2,x3,x5,[],0))) else (some (3,x2,x3,x5,x2,0))) else (some (x1,x2,x3,x4,[],13)))) else (if eqI x5 2=true then (if eqI x1 3=true then (if eqI x4 x5=true then (some (x1,x2,x3,x4,[],0)) else (some (x1,x2,x3,x4,[],13))) else (if x3=true then ((kO k x2).bind fun x7=>(some (3,x2,x3,x5,x7,0))) else (some (3,x2,x3,x5,[],0)))) else (some (x1,x2,x3,x4,[],2)))) else (some (x1,x2,x3,x4,[],2))))
def hO:Nat→aL→Int→Int→Int→Option (Int)
 | 0,_,_,_,_=>none
 | k+1,x1,x2,eH,dG=>(if ltI dG (nI x1.length)=true then (if inI dG x1.length=true then ((x1[tN dG]?).bind fun pV=>(if eqI pV.1 x2=true then (hO k x1 x2 (aO .i64 eH pV.2) (aO .i64 dG 1)) else (hO k x1 x2 eH (aO .i64 dG 1)))) else none) else (some eH))
def wE (k:Nat) (x1:aL) (x2:Int):Option Int:=((hO k x1 x2 0 0).bind (fun x4=>(some x4)))
def iV:Nat→aL→Int→aL→Option (aL)
 | 0,_,_,_=>none
 | k+1,x1,bH,bE=>(if ltI bH 64=true then ((wE k x1 (conv .u8 bH)).bind fun eY=>(if eqI eY 0=true then (iV k x1 (aO .i64 bH 1) bE) else (if bJ (((bE++[(conv .u8 bH,eY)]).length)*16)=true then (iV k x1 (aO .i64 bH 1) (bE++[(conv .u8 bH,eY)])) else none))) else (some bE))
def z3 (k:Nat) (x1:aL):Option aL:=((iV k x1 0 []).bind (fun x3=>(some x3)))
def iO:Nat→aL→Int→Int→Option (Sum (Unit) (Int))
 | 0,_,_,_=>none
 | k+1,x1,x2,dZ=>(if ltI dZ (nI x1.length)=true then (if inI dZ x1.length=true then ((x1[tN dZ]?).bind fun pW=>(if eqI pW.1 x2=true then (some (.inr pW.2)) else (iO k x1 x2 (aO .i64 dZ 1)))) else none) else (some (.inl ())))
def sH (k:Nat) (x1:aL) (x2:Int):Option Int:=((iO k x1 x2 0).bind (fun q=>Sum.elim (fun x4=>(some 0)) (fun x4=>(some x4)) q))
def fA:Nat→aL→aL→Int→Option lZ
 | 0,_,_,_=>none
 | k+1,x1,x2,cV=>(if ltI cV (nI x1.length)=true then (if inI cV x1.length=true then ((x1[tN cV]?).bind fun lW=>(if inI cV x2.length=true then ((x2[tN cV]?).bind fun lX=>(if eqI lW.1 lX.1=true then (if eqI lW.2 lX.2=true then (fA k x1 x2 (aO .i64 cV 1)) else (some (.inr false))) else (some (.inr false)))) else none)) else none) else (some (.inl ())))
def p9 (k:Nat) (x1:aL) (x2:aL):Option Bool:=(if eqI (nI x1.length) (nI x2.length)=true then ((fA k x1 x2 0).bind (fun q=>Sum.elim (fun x4=>(some true)) (fun x4=>(some x4)) q)) else (some false))
def rN (k:Nat) (x1:Int) (x2:aL) (x3:Bool) (x4:Int) (x5:Int) (x6:aL) (x7:Bool) (x8:Int):Option Bool:=(if eqI x1 x5=true then (if eqB x3 x7=true then (if eqI x4 x8=true then ((p9 k x2 x6).bind fun x9=>(some x9)) else (some false)) else (some false)) else (some false))
def g8:Nat→aL→aN→Ty7→a8→Int→Int→Option (Sum (Unit) (Int))
 | 0,_,_,_,_,_,_=>none
 | k+1,x1,x2,x3,x4,x5,dH=>(if ltI dH (nI x3.length)=true then (if inI dH x3.length=true then ((x3[tN dH]?).bind fun xS=>(if eqI xS.1 x5=true then (some (.inr dH)) else (g8 k x1 x2 x3 x4 x5 (aO .i64 dH 1)))) else none) else (some (.inl ())))
def rS (k:Nat) (x1:aL) (x2:aN) (x3:Ty7) (x4:a8) (x5:Int):Option Int:=((g8 k x1 x2 x3 x4 x5 0).bind (fun q=>Sum.elim (fun x7=>(some (-1))) (fun x7=>(some x7)) q))
def lO (k:Nat) (x1:aL) (x2:aN) (x3:Ty7) (x4:a8) (x5:Int) (x6:Int) (x7:aL) (x8:Bool) (x9:Int):Option (aL × aN × Ty7 × a8):=(if bJ (x3.length*56)=true then (if inI x5 x3.length=true then ((x3[tN x5]?).bind fun x10=>(some (x1,x2,(List.set x3 (tN x5) (x10.1,x6,x7,x8,x9)),x4))) else none) else none)
def fE:Nat→aL→Int→Option lZ
 | 0,_,_=>none
 | k+1,x1,cA=>(if ltI cA (nI x1.length)=true then (if inI cA x1.length=true then ((x1[tN cA]?).bind fun iA=>(if ltI iA.1 64=true then (if eqI iA.2 0=true then (some (.inr false)) else (if ltI 0 cA=true then (if inI (o6 .i64 cA 1) x1.length=true then ((x1[tN (o6 .i64 cA 1)]?).bind fun xT=>(if ltI xT.1 iA.1=true then (fE k x1 (aO .i64 cA 1)) else (some (.inr false)))) else none) else (fE k x1 (aO .i64 cA 1)))) else (some (.inr false)))) else none) else (some (.inl ())))
def r7 (k:Nat) (x1:aL):Option Bool:=((fE k x1 0).bind (fun q=>Sum.elim (fun x3=>(some true)) (fun x3=>(some x3)) q))
def iM:Nat→aL→aL→Int→Option (Sum (Unit) (aL × Int))
 | 0,_,_,_=>none
 | k+1,x1,x2,d5=>(if ltI d5 (nI x2.length)=true then (if inI d5 x2.length=true then ((x2[tN d5]?).bind fun xU=>(if ltI xU.1 64=true then (iM k x1 x2 (aO .i64 d5 1)) else (some (.inr (x1,2))))) else none) else (some (.inl ())))
def v7 (k:Nat) (x1:aL) (x2:aL):Option (aL × Int):=((r7 k x1).bind fun x3=>(if x3=true then ((iM k x1 x2 0).bind (fun q=>Sum.elim (fun x5=>(if bJ (x1.length*16)=true then (if bJ (((x1++x2).length)*16)=true then ((z3 k (x1++x2)).bind fun x6=>(some (x6,0))) else none) else none)) (fun x5=>(some x5)) q)) else (some (x1,2))))
def f5:Nat→aN→Int→Int→aN→Option (aN)
 | 0,_,_,_,_=>none
 | k+1,x1,x2,dI,bF=>(if ltI dI (nI x1.length)=true then (if inI dI x1.length=true then ((x1[tN dI]?).bind fun eD=>(if eqI eD.2.1 x2=true then (f5 k x1 x2 (aO .i64 dI 1) bF) else (if bJ (((bF++[eD]).length)*24)=true then (f5 k x1 x2 (aO .i64 dI 1) (bF++[eD])) else none))) else none) else (some bF))
def tY (k:Nat) (x1:aN) (x2:Int):Option aN:=((f5 k x1 x2 0 []).bind (fun x4=>(some x4)))
def j5 (k:Nat) (x1:aL) (x2:aN) (x3:Ty7) (x4:a8) (x5:Int) (x6:aL):Option (aL × aN × Ty7 × a8):=((v7 k x1 x6).bind fun x7=>((tY k x2 x5).bind fun x8=>(some (x7.1,x8,x3,x4))))
def v8 (k:Nat) (x1:aL) (x2:aN) (x3:Ty7) (x4:a8) (x5:Int) (x6:Int) (x7:Int) (x8:Int) (x9:Int):Option (aL × aN × Ty7 × a8 × Int):=(if inI x5 x3.length=true then ((x3[tN x5]?).bind fun x10=>(if eqI x6 4=true then ((t5 k x10.2.1 x10.2.2.1 x10.2.2.2.1 x10.2.2.2.2 (!eqI x9 0)).bind fun x11=>(if eqI x11.2.2.2.2 0=true then ((lO k x1 x2 x3 x4 x5 x11.1 x11.2.1 x11.2.2.1 x11.2.2.2.1).bind fun x12=>(if eqI x9 0=true then ((j5 k x12.1 x12.2.1 x12.2.2.1 x12.2.2.2 x7 []).bind fun x13=>(some (x13.1,x13.2.1,x13.2.2.1,x13.2.2.2,0))) else (some (x12.1,x12.2.1,x12.2.2.1,x12.2.2.2,0)))) else (some (x1,x2,x3,x4,x11.2.2.2.2)))) else (if eqI x6 5=true then ((sE k x10.2.1 x10.2.2.1 x10.2.2.2.1 x10.2.2.2.2).bind fun x11=>(if eqI x11.2.2.2.2.2 0=true then ((lO k x1 x2 x3 x4 x5 x11.1 x11.2.1 x11.2.2.1 x11.2.2.2.1).bind fun x12=>((j5 k x12.1 x12.2.1 x12.2.2.1 x12.2.2.2 x7 x11.2.2.2.2.1).bind fun x13=>(some (x13.1,x13.2.1,x13.2.2.1,x13.2.2.2,0)))) else (some (x1,x2,x3,x4,x11.2.2.2.2.2)))) else (if eqI x9 1=true then ((mP k x10.2.1 x10.2.2.1 x10.2.2.2.1 x10.2.2.2.2 x9).bind fun x11=>(if eqI x11.2.2.2.2.2 0=true then ((lO k x1 x2 x3 x4 x5 x11.1 x11.2.1 x11.2.2.1 x11.2.2.2.1).bind fun x12=>((j5 k x12.1 x12.2.1 x12.2.2.1 x12.2.2.2 x7 x11.2.2.2.2.1).bind fun x13=>(some (x13.1,x13.2.1,x13.2.2.1,x13.2.2.2,0)))) else (some (x1,x2,x3,x4,x11.2.2.2.2.2)))) else (if eqI x9 2=true then ((mP k x10.2.1 x10.2.2.1 x10.2.2.2.1 x10.2.2.2.2 x9).bind fun x11=>(if eqI x11.2.2.2.2.2 0=true then ((lO k x1 x2 x3 x4 x5 x11.1 x11.2.1 x11.2.2.1 x11.2.2.2.1).bind fun x12=>((j5 k x12.1 x12.2.1 x12.2.2.1 x12.2.2.2 x7 x11.2.2.2.2.1).bind fun x13=>(some (x13.1,x13.2.1,x13.2.2.1,x13.2.2.2,0)))) else (some (x1,x2,x3,x4,x11.2.2.2.2.2)))) else ((mP k x10.2.1 x10.2.2.1 x10.2.2.2.1 x10.2.2.2.2 0).bind fun x11=>(if eqI x11.2.2.2.2.2 0=true then ((lO k x1 x2 x3 x4 x5 x11.1 x11.2.1 x11.2.2.1 x11.2.2.2.1).bind fun x12=>((j5 k x12.1 x12.2.1 x12.2.2.1 x12.2.2.2 x7 x11.2.2.2.2.1).bind fun x13=>(some (x13.1,x13.2.1,x13.2.2.1,x13.2.2.2,0)))) else (some (x1,x2,x3,x4,x11.2.2.2.2.2))))))))) else none)
def eM:Nat→aL→Ty7→a8→Int→Int→Int→Int→Ty9→(aN × Int)→Int→Int→Option (Int)
 | 0,_,_,_,_,_,_,_,_,_,_,_=>none
 | k+1,x1,x3,x4,x6,x7,x8,x9,x10,x11,eI,dJ=>(if ltI dJ (nI x10.2.2.1.length)=true then (if inI dJ x10.2.2.1.length=true then ((x10.2.2.1[tN dJ]?).bind fun pX=>(if eqI pX.1 x8=true then (eM k x1 x3 x4 x6 x7 x8 x9 x10 x11 (aO .i64 eI pX.2) (aO .i64 dJ 1)) else (eM k x1 x3 x4 x6 x7 x8 x9 x10 x11 eI (aO .i64 dJ 1)))) else none) else (some eI))
def qI (k:Nat) (x1:aL) (x2:aN) (x3:Ty7) (x4:a8) (x5:Int) (x6:Int) (x7:Int) (x8:Int) (x9:Int):Option (aL × aN × Ty7 × a8 × Int × Int):=(if inI x5 x3.length=true then ((x3[tN x5]?).bind fun x10=>(if eqI x10.2.1 0=true then ((uC k x2 x7 x8 (eqI x6 3)).bind fun x11=>(if eqI x11.2 0=true then (if eqI x6 3=true then ((wA k x10.2.1 x10.2.2.1 x10.2.2.2.1 x10.2.2.2.2 x8 x9).bind fun x12=>(if eqI x12.2.2.2.2 0=true then ((lO k x1 x11.1 x3 x4 x5 x12.1 x12.2.1 x12.2.2.1 x12.2.2.2.1).bind fun x13=>(some (x13.1,x13.2.1,x13.2.2.1,x13.2.2.2,0,0))) else (some (x1,x2,x3,x4,0,x12.2.2.2.2)))) else ((sH k x1 x8).bind fun x12=>((eM k x1 x3 x4 x6 x7 x8 x9 x10 x11 x12 0).bind (fun x14=>(some (x1,x11.1,x3,x4,x14,0)))))) else (some (x1,x2,x3,x4,0,x11.2)))) else (some (x1,x2,x3,x4,0,13)))) else none)
def tW (k:Nat) (x1:aL) (x2:aN) (x3:Ty7) (x4:a8) (x5:Int) (x6:Int) (x7:Int) (x8:Int):Option (aL × aN × Ty7 × a8 × Int × Int):=(if ltI x5 1=true then (some (x1,x2,x3,x4,0,2)) else (if ltI 6 x5=true then (some (x1,x2,x3,x4,0,2)) else (if ltI x6 0=true then (some (x1,x2,x3,x4,0,2)) else (if ltI x6 1000=true then ((rS k x1 x2 x3 x4 x6).bind fun x9=>(if eqI x5 1=true then (if ltI x9 0=true then (if bJ (x3.length*56)=true then (if bJ (((x3++[(x6,0,[],false,0)]).length)*56)=true then (some (x1,x2,(x3++[(x6,0,[],false,0)]),x4,0,0)) else none) else none) else (some (x1,x2,x3,x4,0,8))) else (if ltI x9 0=true then (some (x1,x2,x3,x4,0,7)) else (if ltI 3 x5=true then ((v8 k x1 x2 x3 x4 x9 x5 x6 x7 x8).bind fun x10=>(some (x10.1,x10.2.1,x10.2.2.1,x10.2.2.2.1,0,x10.2.2.2.2))) else ((qI k x1 x2 x3 x4 x9 x5 x6 x7 x8).bind fun x10=>(some (x10.1,x10.2.1,x10.2.2.1,x10.2.2.2.1,x10.2.2.2.2.1,x10.2.2.2.2.2))))))) else (some (x1,x2,x3,x4,0,2))))))
def zA (k:Nat) (x1:aL) (x2:aN) (x3:Ty7) (x4:a8) (x5:Int) (x6:Int) (x7:Int) (x8:Int):Option (aL × aN × Ty7 × a8 × Int × Int):=((tW k x1 x2 x3 x4 x5 x6 x7 x8).bind fun x9=>(if eqI x9.2.2.2.2.2 0=true then (if bJ (x4.length*32)=true then (if bJ (((x4++[(x5,x6,x7,x8)]).length)*32)=true then (some (x9.1,x9.2.1,x9.2.2.1,(x4++[(x5,x6,x7,x8)]),x9.2.2.2.2.1,0)) else none) else none) else (some (x1,x2,x3,x4,0,x9.2.2.2.2.2))))
def aI6:Unit:=()
def t6 (x1:aL) (x2:aN) (x3:Ty6) (x4:a8):Unit:=()
def b7:Nat→aL→Int→Int→Int→Int→aL→aN→Ty6→a8→(aN × Int)→Int→Int→Option (Int)
 | 0,_,_,_,_,_,_,_,_,_,_,_,_=>none
 | k+1,x2,x5,x6,x7,x8,x9,x10,x11,x12,x13,dA,cL=>(if ltI cL (nI x2.length)=true then (if inI cL x2.length=true then ((x2[tN cL]?).bind fun mG=>(if eqI mG.1 x7=true then (b7 k x2 x5 x6 x7 x8 x9 x10 x11 x12 x13 (aO .i64 dA mG.2) (aO .i64 cL 1)) else (b7 k x2 x5 x6 x7 x8 x9 x10 x11 x12 x13 dA (aO .i64 cL 1)))) else none) else (some dA))
def iR (k:Nat) (x1:Int) (x2:aL) (x3:Bool) (x4:Int) (x5:Int) (x6:Int) (x7:Int) (x8:Int) (x9:aL) (x10:aN) (x11:Ty6) (x12:a8):Option (aN × Ty6 × Int × Int):=(if eqI x1 0=true then ((wB k x10 x6 x7 (eqI x5 3)).bind fun x13=>(if eqI x13.2 0=true then (if eqI x5 3=true then ((zE k x1 x2 x3 x4 x7 x8).bind fun x14=>(if eqI x14.2.2.2.2 0=true then (if xD x11 x6=true then ((eJ x11 x6).bind fun x15=>(some (x13.1,(dU x11 x6 (x14.1,x14.2.1,x14.2.2.1,x14.2.2.2.1)),0,0))) else (some (x13.1,(dU x11 x6 (x14.1,x14.2.1,x14.2.2.1,x14.2.2.2.1)),0,0))) else (some (x10,x11,x14.2.2.2.2,0)))) else ((pB k x9 x7).bind fun x14=>((b7 k x2 x5 x6 x7 x8 x9 x10 x11 x12 x13 x14 0).bind (fun x16=>(some (x13.1,x11,0,x16)))))) else (some (x10,x11,x13.2,0)))) else (some (x10,x11,13,0)))
def l7 (k:Nat) (x1:Int) (x2:aL) (x3:Bool) (x4:Int) (x5:Int) (x6:Int) (x7:Int) (x8:Int) (x9:aL) (x10:aN) (x11:Ty6) (x12:a8):Option (aL × aN × Ty6 × Int):=(if eqI x5 4=true then ((wG k x1 x2 x3 x4 (!eqI x8 0)).bind fun x13=>(if eqI x13.2.2.2.2 0=true then ((nU k x9 []).bind fun x14=>(if eqI x13.1 2=true then ((qH k x10 x6).bind fun x15=>(some (x14.1,x15,(dU x11 x6 (x13.1,x13.2.1,x13.2.2.1,x13.2.2.2.1)),0))) else (some (x14.1,x10,(dU x11 x6 (x13.1,x13.2.1,x13.2.2.1,x13.2.2.2.1)),0)))) else (some (x9,x10,x11,x13.2.2.2.2)))) else (if eqI x5 5=true then ((t7 k x1 x2 x3 x4).bind fun x13=>(if eqI x13.2.2.2.2.2 0=true then ((nU k x9 x13.2.2.2.2.1).bind fun x14=>((qH k x10 x6).bind fun x15=>(some (x14.1,x15,(dU x11 x6 (x13.1,x13.2.1,x13.2.2.1,x13.2.2.2.1)),0)))) else (some (x9,x10,x11,x13.2.2.2.2.2)))) else (if eqI x8 1=true then ((pS k x1 x2 x3 x4 x8).bind fun x13=>(if eqI x13.2.2.2.2.2 0=true then ((nU k x9 x13.2.2.2.2.1).bind fun x14=>((qH k x10 x6).bind fun x15=>(some (x14.1,x15,(dU x11 x6 (x13.1,x13.2.1,x13.2.2.1,x13.2.2.2.1)),0)))) else (some (x9,x10,x11,x13.2.2.2.2.2)))) else (if eqI x8 2=true then ((pS k x1 x2 x3 x4 x8).bind fun x13=>(if eqI x13.2.2.2.2.2 0=true then ((nU k x9 x13.2.2.2.2.1).bind fun x14=>((qH k x10 x6).bind fun x15=>(some (x14.1,x15,(dU x11 x6 (x13.1,x13.2.1,x13.2.2.1,x13.2.2.2.1)),0)))) else (some (x9,x10,x11,x13.2.2.2.2.2)))) else (some (x9,x10,x11,2))))))
def jW (k:Nat) (x1:Int) (x2:aL) (x3:Bool) (x4:Int) (x5:Int) (x6:Int) (x7:Int) (x8:Int) (x9:aL) (x10:aN) (x11:Ty6) (x12:a8):Option Ty5:=(if eqI x5 1=true then (some (0,0,x10,(dU x11 x6 (x1,x2,x3,x4)),x9)) else (if eqI x5 2=true then ((iR k x1 x2 x3 x4 x5 x6 x7 x8 x9 x10 x11 x12).bind fun x13=>(some (x13.2.2.2,x13.2.2.1,x13.1,x13.2.1,x9))) else (if eqI x5 3=true then ((iR k x1 x2 x3 x4 x5 x6 x7 x8 x9 x10 x11 x12).bind fun x13=>(some (x13.2.2.2,x13.2.2.1,x13.1,x13.2.1,x9))) else ((l7 k x1 x2 x3 x4 x5 x6 x7 x8 x9 x10 x11 x12).bind fun x13=>(some (0,x13.2.2.2,x13.2.1,x13.2.2.1,x13.1))))))
def lN (k:Nat) (x1:Int) (x2:Int) (x3:Int) (x4:Int) (x5:aL) (x6:aN) (x7:Ty6) (x8:a8):Option Ty4:=(if ltI x1 1=true then (some (2,0,x5,x6,x7,x8)) else (if ltI 6 x1=true then (some (2,0,x5,x6,x7,x8)) else (if ltI x2 0=true then (some (2,0,x5,x6,x7,x8)) else (if ltI x2 1000=true then (if xD x7 x2=true then ((eJ x7 x2).bind fun x9=>(if eqB true (eqI x1 1)=true then (some (8,0,x5,x6,x7,x8)) else ((jW k x9.1 x9.2.1 x9.2.2.1 x9.2.2.2 x1 x2 x3 x4 x5 x6 x7 x8).bind fun x10=>(if eqI x10.2.1 0=true then (if bJ (((x8++[(x1,x2,x3,x4)]).length)*32)=true then (some (0,x10.1,x10.2.2.2.2,x10.2.2.1,x10.2.2.2.1,(x8++[(x1,x2,x3,x4)]))) else none) else (some (x10.2.1,0,x10.2.2.2.2,x10.2.2.1,x10.2.2.2.1,x8)))))) else (if eqB false (eqI x1 1)=true then (some (7,0,x5,x6,x7,x8)) else ((jW k 0 [] false 0 x1 x2 x3 x4 x5 x6 x7 x8).bind fun x9=>(if eqI x9.2.1 0=true then (if bJ (((x8++[(x1,x2,x3,x4)]).length)*32)=true then (some (0,x9.1,x9.2.2.2.2,x9.2.2.1,x9.2.2.2.1,(x8++[(x1,x2,x3,x4)]))) else none) else (some (x9.2.1,0,x9.2.2.2.2,x9.2.2.1,x9.2.2.2.1,x8)))))) else (some (2,0,x5,x6,x7,x8))))))
def lL (k:Nat) (x1:Int) (x2:aL) (x3:aN) (x4:Ty6) (x5:a8):Option (Int × Bool × Int × aL × Bool):=(if xD x4 x1=true then ((eJ x4 x1).bind fun x6=>((eK k x6.2.1).bind fun x7=>(some (x6.1,x6.2.2.1,x6.2.2.2,x6.2.1,true)))) else ((eK k []).bind fun x6=>(some (0,false,0,[],false))))
def mW (k:Nat) (x1:Int) (x2:aL) (x3:aN) (x4:Ty6) (x5:a8):Option Int:=((pB k x2 x1).bind fun x6=>(some x6))
def i6 (k:Nat) (x1:a8):Option Unit:=(if bJ (x1.length*32)=true then (some ()) else none)
def pM:Unit:=()
def mD (k:Nat) (x1:a8):Option Unit:=i6 k x1
def oR (k:Nat) (x1:aL) (x2:aN) (x3:Ty6) (x4:a8):Option Unit:=((mD k x4).bind fun x5=>(some ()))
def iL:Nat→Int→aL→aN→Ty6→a8→Option (Sum (aL × aN × Ty6 × a8) (Bool))
 | 0,_,_,_,_,_=>none
 | k+1,fV,gJ,gK,fW,fX=>(if ltI fV 8=true then (if inI fV 8=true then (([(1,1,0,0,0,0),(3,1,3,5,0,0),(1,2,0,0,0,0),(2,2,3,0,0,9),(4,1,0,1,0,0),(5,1,0,0,0,0),(2,2,3,0,5,0),(6,1,0,2,0,0)][tN fV]?).bind fun eE=>((lN k eE.1 eE.2.1 eE.2.2.1 eE.2.2.2.1 gJ gK fW fX).bind fun d6=>(if eqI d6.2.1 eE.2.2.2.2.1=true then (if eqI d6.1 eE.2.2.2.2.2=true then (iL k (aO .i64 fV 1) d6.2.2.1 d6.2.2.2.1 d6.2.2.2.2.1 d6.2.2.2.2.2) else (some (.inr false))) else (some (.inr false))))) else none) else (some (.inl (gJ,gK,fW,fX))))
def sB (k:Nat):Option Bool:=((iL k 0 [] [] ([]:Ty6) []).bind (fun q=>Sum.elim (fun x2=>((lL k 1 x2.1 x2.2.1 x2.2.2.1 x2.2.2.2).bind fun x3=>((mW k 3 x2.1 x2.2.1 x2.2.2.1 x2.2.2.2).bind fun x4=>(if eqI x4 0=true then (if x3.2.2.2.2=true then (if eqI x3.1 3=true then ((oR k x2.1 x2.2.1 x2.2.2.1 x2.2.2.2).bind fun x5=>(some (eqI (nI x2.2.2.2.length) 7))) else (some false)) else (some false)) else (some false))))) (fun x2=>(some x2)) q))
def tZ (x1:aL) (x2:aN) (x3:Ty6) (x4:a8):Unit:=()
def j7:Nat→Ty7→aL→aN→Ty6→a8→Int→Option lZ
 | 0,_,_,_,_,_,_=>none
 | k+1,x3,x5,x6,x7,x8,iB=>(if ltI iB (nI x3.length)=true then (if inI iB x3.length=true then ((x3[tN iB]?).bind fun pY=>((lL k pY.1 x5 x6 x7 x8).bind fun pZ=>(if pZ.2.2.2.2=true then ((rN k pZ.1 pZ.2.2.2.1 pZ.2.1 pZ.2.2.1 pY.2.1 pY.2.2.1 pY.2.2.2.1 pY.2.2.2.2).bind fun aJ7=>(if aJ7=true then (j7 k x3 x5 x6 x7 x8 (aO .i64 iB 1)) else (some (.inr false)))) else (some (.inr false))))) else none) else (some (.inl ())))
def j3:Nat→aL→aN→Ty7→a8→aL→aN→Ty6→a8→Int→Option lZ
 | 0,_,_,_,_,_,_,_,_,_=>none
 | k+1,x1,x2,x3,x4,x5,x6,x7,x8,iC=>(if ltI iC 66=true then ((mW k iC x5 x6 x7 x8).bind fun aJ8=>((sH k x1 iC).bind fun aJ9=>(if eqI aJ8 aJ9=true then (j3 k x1 x2 x3 x4 x5 x6 x7 x8 (aO .u8 iC 1)) else (some (.inr false))))) else (some (.inl ())))
def j1:Nat→aL→aN→Ty7→a8→aL→aN→Ty6→a8→Int→Option lZ
 | 0,_,_,_,_,_,_,_,_,_=>none
 | k+1,x1,x2,x3,x4,x5,x6,x7,x8,fQ=>(if ltI fQ (nI x8.length)=true then (if inI fQ x8.length=true then ((x8[tN fQ]?).bind fun tO=>(if inI fQ x4.length=true then ((x4[tN fQ]?).bind fun tP=>(if eqI tO.1 tP.1=true then (if eqI tO.2.1 tP.2.1=true then (if eqI tO.2.2.1 tP.2.2.1=true then (if eqI tO.2.2.2 tP.2.2.2=true then (j1 k x1 x2 x3 x4 x5 x6 x7 x8 (aO .i64 fQ 1)) else (some (.inr false))) else (some (.inr false))) else (some (.inr false))) else (some (.inr false)))) else none)) else none) else (some (.inl ())))
def jY (k:Nat) (x1:Int) (x2:aL) (x3:aN) (x4:Ty6) (x5:a8):Option (Int × Bool × Int × aL × Bool):=(if xD x4 x1=true then ((eJ x4 x1).bind fun x6=>((eK k x6.2.1).bind fun x7=>(some (x6.1,x6.2.2.1,x6.2.2.2,x6.2.1,true)))) else ((eK k []).bind fun x6=>(some (0,false,0,[],false))))
def l8 (k:Nat) (x1:aL) (x2:aN) (x3:Ty6) (x4:a8):Option Unit:=((mD k x4).bind fun x5=>(some ()))
def mA (k:Nat) (x1:Int) (x2:aL) (x3:aN) (x4:Ty6) (x5:a8):Option Int:=((pB k x2 x1).bind fun x6=>(some x6))
def g6:Nat→Ty7→aL→aN→Ty6→a8→Int→Option lZ
 | 0,_,_,_,_,_,_=>none
 | k+1,x3,x5,x6,x7,x8,eO=>(if ltI eO (nI x3.length)=true then (if inI eO x3.length=true then ((x3[tN eO]?).bind fun eF=>((jY k eF.1 x5 x6 x7 x8).bind fun b8=>(if b8.2.2.2.2=true then ((rN k b8.1 b8.2.2.2.1 b8.2.1 b8.2.2.1 eF.2.1 eF.2.2.1 eF.2.2.2.1 eF.2.2.2.2).bind fun aAD=>(if aAD=true then (g6 k x3 x5 x6 x7 x8 (aO .i64 eO 1)) else (some (.inr false)))) else (some (.inr false))))) else none) else (some (.inl ())))
def g9:Nat→aL→aN→Ty7→a8→aL→aN→Ty6→a8→Int→Option lZ
 | 0,_,_,_,_,_,_,_,_,_=>none
 | k+1,x1,x2,x3,x4,x5,x6,x7,x8,dR=>(if ltI dR 66=true then ((mA k dR x5 x6 x7 x8).bind fun aAE=>((sH k x1 dR).bind fun aAF=>(if eqI aAE aAF=true then (g9 k x1 x2 x3 x4 x5 x6 x7 x8 (aO .u8 dR 1)) else (some (.inr false))))) else (some (.inl ())))
def hH:Nat→aL→aN→Ty7→a8→aL→aN→Ty6→a8→Int→Option lZ
 | 0,_,_,_,_,_,_,_,_,_=>none
 | k+1,x1,x2,x3,x4,x5,x6,x7,x8,dS=>(if ltI dS (nI x8.length)=true then (if inI dS x8.length=true then ((x8[tN dS]?).bind fun eP=>(if inI dS x4.length=true then ((x4[tN dS]?).bind fun eQ=>(if eqI eP.1 eQ.1=true then (if eqI eP.2.1 eQ.2.1=true then (if eqI eP.2.2.1 eQ.2.2.1=true then (if eqI eP.2.2.2 eQ.2.2.2=true then (hH k x1 x2 x3 x4 x5 x6 x7 x8 (aO .i64 dS 1)) else (some (.inr false))) else (some (.inr false))) else (some (.inr false))) else (some (.inr false)))) else none)) else none) else (some (.inl ())))
def qA (k:Nat) (x1:aL) (x2:aN) (x3:Ty7) (x4:a8) (x5:aL) (x6:aN) (x7:Ty6) (x8:a8):Option Bool:=((l8 k x5 x6 x7 x8).bind fun x9=>(if eqI (nI x8.length) (nI x4.length)=true then ((hH k x1 x2 x3 x4 x5 x6 x7 x8 0).bind (fun q=>Sum.elim (fun x11=>((g9 k x1 x2 x3 x4 x5 x6 x7 x8 0).bind (fun q=>Sum.elim (fun x13=>((g6 k x3 x5 x6 x7 x8 0).bind (fun q=>Sum.elim (fun x15=>(some true)) (fun x15=>(some x15)) q))) (fun x13=>(some x13)) q))) (fun x11=>(some x11)) q)) else (some false)))
def d9:Nat→a8→Int→aL→aN→aL→aN→Ty7→a8→Ty6→a8→Option lZ
 | 0,_,_,_,_,_,_,_,_,_,_=>none
 | k+1,x1,eU,gS,gT,gU,gV,gW,gX,gL,gM=>(if ltI eU (nI x1.length)=true then (if ltI eU 120=true then (if inI eU x1.length=true then ((x1[tN eU]?).bind fun aW=>((lN k aW.1 aW.2.1 aW.2.2.1 aW.2.2.2 gS gT gL gM).bind fun aR=>((zA k gU gV gW gX aW.1 aW.2.1 aW.2.2.1 aW.2.2.2).bind fun bD=>((jY k aW.2.1 aR.2.2.1 aR.2.2.2.1 aR.2.2.2.2.1 aR.2.2.2.2.2).bind fun mR=>(if eqI aR.2.1 bD.2.2.2.2.1=true then (if eqI aR.1 bD.2.2.2.2.2=true then ((rS k bD.1 bD.2.1 bD.2.2.1 bD.2.2.2.1 aW.2.1).bind fun yR=>(if eqB mR.2.2.2.2 (!ltI yR 0)=true then ((qA k bD.1 bD.2.1 bD.2.2.1 bD.2.2.2.1 aR.2.2.1 aR.2.2.2.1 aR.2.2.2.2.1 aR.2.2.2.2.2).bind fun v5=>(if v5=true then (d9 k x1 (aO .i64 eU 1) aR.2.2.1 aR.2.2.2.1 bD.1 bD.2.1 bD.2.2.1 bD.2.2.2.1 aR.2.2.2.2.1 aR.2.2.2.2.2) else (some (.inr false)))) else (some (.inr false)))) else (some (.inr false))) else (some (.inr false))))))) else none) else (some (.inl ()))) else (some (.inl ())))
def o7 (k:Nat) (x1:a8):Option Bool:=((sB k).bind fun x2=>(if x2=true then ((d9 k x1 0 [] [] [] [] [] [] ([]:Ty6) []).bind (fun q=>Sum.elim (fun x4=>(some true)) (fun x4=>(some x4)) q)) else (some false)))
end Go.Ws
