/-
  The functions as plain Lean functions. (Printed by my own program.)
  Conditions: none.
-/
import Derived.Test.YtipeekdnpocclaaZB2
import Derived.Test.YtipeekdnpocclaaZOppDef
import Derived.Test.YtipeekdnpocclaaZAgrDef
set_option linter.unusedVariables false
set_option linter.unusedSimpArgs false
namespace Go.Ws
abbrev aG:=List (Int × Int)
abbrev Ty11:=Int × Int × Bool
abbrev zO:=Sum (Unit) (Bool)
abbrev Ty9:=Int × Int × Int × Int
abbrev Ty8:=List Ty11
abbrev Ty7:=List Ty9
abbrev Ty6:=Int × aG × Bool × Int
abbrev Ty4:=Int × Ty6
abbrev Ty2:=List Ty4
abbrev Ty1:=Sum (aG × Ty8 × Ty2 × Ty7) (Unit)
abbrev Ty0:=Sum (aG × Ty8 × Ty2 × Ty7) (Ty1)
set_option linter.unusedVariables false
def aK:Ty7:=[(1,1,0,0),(3,1,0,5),(4,1,0,1),(5,1,0,0),(6,1,0,2)]
def aFD:Unit:=()
def iY (k:Nat) (x1:Ty8):Option Unit:=(if dF (x1.length*24)=true then (some ()) else none)
def p8:Unit:=()
def nL (k:Nat) (x1:Ty8):Option Unit:=iY k x1
def hH (x1:Int) (x2:Int):Bool:=(if ltI x2 64=true then (if ltI x1 0=true then false else ltI x1 1000) else false)
def hI (x1:Int):Bool:=(!eqI x1 x1)
def bA (x1:Int) (x2:Int):Int:=(if (hI x1)=true then (if (hI x2)=true then 0 else (-1)) else (if (hI x2)=true then 1 else (if ltI x1 x2=true then (-1) else (if ltI x2 x1=true then 1 else 0))))
def eI (x1:Int):Bool:=(!eqI x1 x1)
def dI (x1:Int) (x2:Int):Int:=(if (eI x1)=true then (if (eI x2)=true then 0 else (-1)) else (if (eI x2)=true then 1 else (if ltI x1 x2=true then (-1) else (if ltI x2 x1=true then 1 else 0))))
def j7:Nat→(List Int)→Int→Option (Sum (Unit) (Int))
 | 0,_,_=>none
 | k+1,x1,cY=>(if ltI cY (nI x1.length)=true then (if inI cY x1.length=true then ((x1[tN cY]?).bind fun p9=>(if eqI p9 0=true then (j7 k x1 (aH .i64 cY 1)) else (some (.inr p9)))) else none) else (some (.inl ())))
def aCW (k:Nat) (x1:List Int):Option Int:=((j7 k x1 0).bind (fun q=>Sum.elim (fun x3=>(some 0)) (fun x3=>(some x3)) q))
def mZ (k:Nat) (x1:Int) (x2:Int) (x3:Bool) (x4:Int) (x5:Int) (x6:Bool):Option Int:=((aCW k [(bA x1 x4),(dI x2 x5)]).bind fun x7=>(some x7))
def eH:Nat→Ty8→Int→Option zO
 | 0,_,_=>none
 | k+1,x1,bF=>(if ltI bF (nI x1.length)=true then (if inI bF x1.length=true then ((x1[tN bF]?).bind fun dL=>(if (hH dL.2.1 dL.1)=true then (if eqI bF 0=true then (eH k x1 (aH .i64 bF 1)) else (if inI (rH .i64 bF 1) x1.length=true then ((x1[tN (rH .i64 bF 1)]?).bind fun gV=>((mZ k gV.1 gV.2.1 gV.2.2 dL.1 dL.2.1 dL.2.2).bind fun vT=>(if ltI vT 0=true then (if eqI gV.1 dL.1=true then (if gV.2.2=true then (some (.inr false)) else (if dL.2.2=true then (some (.inr false)) else (eH k x1 (aH .i64 bF 1)))) else (eH k x1 (aH .i64 bF 1))) else (some (.inr false))))) else none)) else (some (.inr false)))) else none) else (some (.inl ())))
def qJ (k:Nat) (x1:Ty8):Option Bool:=((eH k x1 0).bind (fun q=>Sum.elim (fun x3=>(some true)) (fun x3=>(some x3)) q))
def aV:Nat→Ty8→Int→Int→Bool→Int→Int→Option (Int)
 | 0,_,_,_,_,_,_=>none
 | k+1,x1,x2,x3,x4,bW,cA=>(if ltI bW cA=true then (if inI (conv .i64 (rR .u64 (conv .u64 (aH .i64 bW cA)) 1)) x1.length=true then ((x1[tN (conv .i64 (rR .u64 (conv .u64 (aH .i64 bW cA)) 1))]?).bind fun kI=>((mZ k kI.1 kI.2.1 kI.2.2 x2 x3 x4).bind fun vU=>(if ltI vU 0=true then (aV k x1 x2 x3 x4 (aH .i64 (conv .i64 (rR .u64 (conv .u64 (aH .i64 bW cA)) 1)) 1) cA) else (aV k x1 x2 x3 x4 bW (conv .i64 (rR .u64 (conv .u64 (aH .i64 bW cA)) 1)))))) else none) else (some bW))
def fJ (k:Nat) (x1:Ty8) (x2:Int) (x3:Int) (x4:Bool):Option (Int × Bool):=((aV k x1 x2 x3 x4 0 (nI x1.length)).bind (fun x6=>(if ltI x6 (nI x1.length)=true then (if inI x6 x1.length=true then ((x1[tN x6]?).bind fun x7=>((mZ k x7.1 x7.2.1 x7.2.2 x2 x3 x4).bind fun x8=>(some (x6,eqI x8 0)))) else none) else (some (x6,false)))))
def n9 (k:Nat) (x1:Int) (x2:Ty8) (x3:Ty8):Option Ty8:=aDZ 24 x1 x2 x3
def fA:Nat→Ty8→Int→Int→Bool→Int→Option (Sum (Unit) (Ty8 × Int))
 | 0,_,_,_,_,_=>none
 | k+1,x1,x2,x3,x4,cC=>(if ltI cC (nI x1.length)=true then (if inI cC x1.length=true then ((x1[tN cC]?).bind fun iV=>(if eqI iV.1 x3=true then (if eqI iV.2.1 x2=true then (fA k x1 x2 x3 x4 (aH .i64 cC 1)) else (if x4=true then (some (.inr (x1,9))) else (if iV.2.2=true then (some (.inr (x1,9))) else (fA k x1 x2 x3 x4 (aH .i64 cC 1))))) else (fA k x1 x2 x3 x4 (aH .i64 cC 1)))) else none) else (some (.inl ())))
def sK (k:Nat) (x1:Ty8) (x2:Int) (x3:Int) (x4:Bool):Option (Ty8 × Int):=((nL k x1).bind fun x5=>((qJ k x1).bind fun x6=>(if x6=true then (if (hH x2 x3)=true then ((fA k x1 x2 x3 x4 0).bind (fun q=>Sum.elim (fun x8=>((fJ k x1 x3 x2 x4).bind fun x9=>(if x9.2=true then (if inI x9.1 x1.length=true then ((x1[tN x9.1]?).bind fun x10=>(if x10.2.2=true then (some ((List.set x1 (tN x9.1) (x10.1,x10.2.1,true)),0)) else (some ((List.set x1 (tN x9.1) (x10.1,x10.2.1,x4)),0)))) else none) else ((n9 k x9.1 x1 [(x3,x2,x4)]).bind fun x10=>(some (x10,0)))))) (fun x8=>(some x8)) q)) else (some (x1,2))) else (some (x1,2)))))
def gP (k:Nat) (x1:aG):Option Unit:=(if dF (x1.length*16)=true then (some ()) else none)
def nA:Unit:=()
def eP (k:Nat) (x1:aG):Option Unit:=gP k x1
def mL (k:Nat) (x1:Int) (x2:aG) (x3:Bool) (x4:Int):Option Unit:=((eP k x2).bind fun x5=>(some ()))
def hU (x1:Int) (x2:Int):Bool:=(!ltI x1 64)
def cJ:Nat→aG→Int→Option (Sum (Unit) (Int))
 | 0,_,_=>none
 | k+1,x1,cL=>(if ltI cL (nI x1.length)=true then (if inI cL x1.length=true then ((x1[tN cL]?).bind fun kJ=>(if (hU kJ.1 kJ.2)=true then (some (.inr cL)) else (cJ k x1 (aH .i64 cL 1)))) else none) else (some (.inl ())))
def jH (k:Nat) (x1:aG):Option Int:=((cJ k x1 0).bind (fun q=>Sum.elim (fun x3=>(some (-1))) (fun x3=>(some x3)) q))
def hX (k:Nat) (x1:aG):Option Bool:=((jH k x1).bind fun x2=>(some (!ltI x2 0)))
def lL (k:Nat) (x1:Int) (x2:aG) (x3:Bool) (x4:Int):Option Bool:=(if ltI x1 0=true then (some false) else (if ltI 3 x1=true then (some false) else (if ltI 50 (nI x2.length)=true then (some false) else ((hX k x2).bind fun x5=>(if x5=true then (some false) else (if eqI x4 1=true then (if eqI x1 3=true then (some true) else (if eqI x4 0=true then (if x3=true then (some (eqI x1 1)) else (some true)) else (some false))) else (if eqI x1 3=true then (some (eqI x4 2)) else (if eqI x4 0=true then (if x3=true then (some (eqI x1 1)) else (some true)) else (some false)))))))))
def vR (k:Nat) (x1:Int) (x2:aG) (x3:Bool) (x4:Int) (x5:Int) (x6:Int):Option (Int × aG × Bool × Int × Int):=((mL k x1 x2 x3 x4).bind fun x7=>((lL k x1 x2 x3 x4).bind fun x8=>(if x8=true then (if (hU x5 x6)=true then (some (x1,x2,x3,x4,2)) else (if eqI x1 0=true then (if ltI (nI x2.length) 50=true then (if dF (((x2++[(x5,x6)]).length)*16)=true then (some (x1,(x2++[(x5,x6)]),x3,x4,0)) else none) else (some (x1,x2,x3,x4,6))) else (some (x1,x2,x3,x4,13)))) else (some (x1,x2,x3,x4,2)))))
def fU:Nat→aG→Int→Int→Option (Sum (Unit) (Int))
 | 0,_,_,_=>none
 | k+1,x1,x2,cZ=>(if ltI cZ (nI x1.length)=true then (if inI cZ x1.length=true then ((x1[tN cZ]?).bind fun oI=>(if eqI oI.1 x2=true then (some (.inr oI.2)) else (fU k x1 x2 (aH .i64 cZ 1)))) else none) else (some (.inl ())))
def oS (k:Nat) (x1:aG) (x2:Int):Option Int:=((fU k x1 x2 0).bind (fun q=>Sum.elim (fun x4=>(some 0)) (fun x4=>(some x4)) q))
def iA (k:Nat) (x1:Int) (x2:aG) (x3:Bool) (x4:Int):Option Ty6:=((eP k x2).bind fun x5=>(some (x1,x2,x3,x4)))
def sM (k:Nat) (x1:Int) (x2:aG) (x3:Bool) (x4:Int) (x5:Bool):Option (Int × aG × Bool × Int × Int):=((iA k x1 x2 x3 x4).bind fun x6=>((lL k x6.1 x6.2.1 x6.2.2.1 x6.2.2.2).bind fun x7=>(if x7=true then (if eqI x6.1 0=true then (if x5=true then (some (1,x6.2.1,x6.2.2.1,x6.2.2.2,0)) else (some (2,x6.2.1,x6.2.2.1,x6.2.2.2,0))) else (some (x6.1,x6.2.1,x6.2.2.1,x6.2.2.2,13))) else (some (x6.1,x6.2.1,x6.2.2.1,x6.2.2.2,2)))))
def gQ (k:Nat) (x1:aG):Option Unit:=(if dF (x1.length*16)=true then (some ()) else none)
def mX:Unit:=()
def l7 (k:Nat) (x1:aG):Option Unit:=gQ k x1
def dO:Nat→aG→Int→Option zO
 | 0,_,_=>none
 | k+1,x1,bL=>(if ltI bL (nI x1.length)=true then (if inI bL x1.length=true then ((x1[tN bL]?).bind fun lI=>(if ltI lI.1 64=true then (if eqI lI.2 0=true then (some (.inr false)) else (if ltI 0 bL=true then (if inI (rH .i64 bL 1) x1.length=true then ((x1[tN (rH .i64 bL 1)]?).bind fun vV=>(if ltI vV.1 lI.1=true then (dO k x1 (aH .i64 bL 1)) else (some (.inr false)))) else none) else (dO k x1 (aH .i64 bL 1)))) else (some (.inr false)))) else none) else (some (.inl ())))
def nN (k:Nat) (x1:aG):Option Bool:=((dO k x1 0).bind (fun q=>Sum.elim (fun x3=>(some true)) (fun x3=>(some x3)) q))
def vX (x1:Int) (x2:Int):Unit:=()
def b7:Nat→aG→Int→Option (Sum (Unit) (Int))
 | 0,_,_=>none
 | k+1,x1,bX=>(if ltI bX (nI x1.length)=true then (if inI bX x1.length=true then ((x1[tN bX]?).bind fun mO=>(if ltI mO.1 64=true then (b7 k x1 (aH .i64 bX 1)) else (some (.inr bX)))) else none) else (some (.inl ())))
def iF (k:Nat) (x1:aG):Option Int:=((b7 k x1 0).bind (fun q=>Sum.elim (fun x3=>(some (-1))) (fun x3=>(some x3)) q))
def gE (k:Nat) (x1:aG):Option Bool:=((iF k x1).bind fun x2=>(some (!ltI x2 0)))
def uG (x1:Int) (x2:Int) (x3:Int):Unit:=()
def aR:Nat→aG→Int→Int→Int→Option (Int)
 | 0,_,_,_,_=>none
 | k+1,x1,x2,bY,cD=>(if ltI bY cD=true then (if inI (conv .i64 (rR .u64 (conv .u64 (aH .i64 bY cD)) 1)) x1.length=true then ((x1[tN (conv .i64 (rR .u64 (conv .u64 (aH .i64 bY cD)) 1))]?).bind fun oJ=>(if ltI (bA oJ.1 x2) 0=true then (aR k x1 x2 (aH .i64 (conv .i64 (rR .u64 (conv .u64 (aH .i64 bY cD)) 1)) 1) cD) else (aR k x1 x2 bY (conv .i64 (rR .u64 (conv .u64 (aH .i64 bY cD)) 1))))) else none) else (some bY))
def eE (k:Nat) (x1:aG) (x2:Int):Option (Int × Bool):=((aR k x1 x2 0 (nI x1.length)).bind (fun x4=>(if ltI x4 (nI x1.length)=true then (if inI x4 x1.length=true then ((x1[tN x4]?).bind fun x5=>(some (x4,eqI (bA x5.1 x2) 0))) else none) else (some (x4,false)))))
def o5 (k:Nat) (x1:aG) (x2:Int):Option (Int × Bool):=((eE k x1 x2).bind fun x3=>(some (x3.1,x3.2)))
def n8 (k:Nat) (x1:Int) (x2:Int) (x3:aG):Option aG:=delP x1 x2 x3
def lF (k:Nat) (x1:Int) (x2:aG) (x3:aG):Option aG:=aDZ 16 x1 x2 x3
def l6 (k:Nat) (x1:Int) (x2:Int) (x3:aG):Option aG:=delP x1 x2 x3
def dY:Nat→aG→Int→aG→Option (aG)
 | 0,_,_,_=>none
 | k+1,x2,bZ,aS=>(if ltI bZ (nI x2.length)=true then (if inI bZ x2.length=true then ((x2[tN bZ]?).bind fun bG=>((o5 k aS bG.1).bind fun aP=>(if aP.2=true then (if inI aP.1 aS.length=true then ((aS[tN aP.1]?).bind fun aQ=>(((List.set aS (tN aP.1) (aQ.1,aH .i64 aQ.2 bG.2))[tN aP.1]?).bind fun bM=>(if eqI bM.2 0=true then ((n8 k aP.1 (aH .i64 aP.1 1) (List.set aS (tN aP.1) (aQ.1,aH .i64 aQ.2 bG.2))).bind fun gH=>(dY k x2 (aH .i64 bZ 1) gH)) else (dY k x2 (aH .i64 bZ 1) (List.set aS (tN aP.1) (aQ.1,aH .i64 aQ.2 bG.2)))))) else none) else ((lF k aP.1 aS [(bG.1,0)]).bind fun aQ=>(if inI aP.1 aQ.length=true then ((aQ[tN aP.1]?).bind fun bM=>(((List.set aQ (tN aP.1) (bM.1,aH .i64 bM.2 bG.2))[tN aP.1]?).bind fun gH=>(if eqI gH.2 0=true then ((l6 k aP.1 (aH .i64 aP.1 1) (List.set aQ (tN aP.1) (bM.1,aH .i64 bM.2 bG.2))).bind fun kK=>(dY k x2 (aH .i64 bZ 1) kK)) else (dY k x2 (aH .i64 bZ 1) (List.set aQ (tN aP.1) (bM.1,aH .i64 bM.2 bG.2)))))) else none))))) else none) else (some aS))
def kO (k:Nat) (x1:aG) (x2:aG):Option (aG × Int):=((l7 k x1).bind fun x3=>((nN k x1).bind fun x4=>(if x4=true then ((gE k x2).bind fun x5=>(if x5=true then (some (x1,2)) else ((dY k x2 0 x1).bind (fun x7=>(some (x7,0)))))) else (some (x1,2)))))
def xA (x1:Int) (x2:Int) (x3:Bool) (x4:Int):Unit:=()
def bP:Nat→Ty8→Int→Int→Option (Sum (Unit) (Int))
 | 0,_,_,_=>none
 | k+1,x1,x2,cM=>(if ltI cM (nI x1.length)=true then (if inI cM x1.length=true then ((x1[tN cM]?).bind fun mH=>(if eqI mH.2.1 x2=true then (some (.inr cM)) else (bP k x1 x2 (aH .i64 cM 1)))) else none) else (some (.inl ())))
def hO (k:Nat) (x1:Ty8) (x2:Int):Option Int:=((bP k x1 x2 0).bind (fun q=>Sum.elim (fun x4=>(some (-1))) (fun x4=>(some x4)) q))
def bV:Nat→Ty8→Int→Int→Int→Ty8→Option (Int × Ty8)
 | 0,_,_,_,_,_=>none
 | k+1,x1,x2,cN,b8,cO=>(if ltI cN (nI x1.length)=true then (if inI cN x1.length=true then ((cO[tN cN]?).bind fun gW=>(if eqI gW.2.1 x2=true then (bV k x1 x2 (aH .i64 cN 1) b8 cO) else (if inI b8 x1.length=true then ((cO[tN b8]?).bind fun aLC=>(bV k x1 x2 (aH .i64 cN 1) (aH .i64 b8 1) (List.set cO (tN b8) gW))) else none))) else none) else (some (b8,cO)))
def iZ (k:Nat) (x1:Ty8) (x2:Int):Option (Nat × Ty8):=((hO k x1 x2).bind fun x3=>(if eqI x3 (-1)=true then (some (x1.length,x1)) else ((bV k x1 x2 (aH .i64 x3 1) x3 x1).bind (fun x5=>(if isZ x1.length=true then none else (if rU x1.length x5.2.length=true then (if leI x5.1 x1.length=true then (if isZ (x1.length - (tN x5.1))=true then (if leI x5.1 x5.2.length=true then (some (tN x5.1,x5.2)) else none) else (if rU (tN x5.1+(x1.length - (tN x5.1))) x5.2.length=true then (if rU (tN x5.1) x5.2.length=true then (if rU x1.length ((((List.take (tN x5.1) x5.2)++(List.replicate (x1.length - (tN x5.1)) (0,0,false)))++(List.drop (tN x5.1+(x1.length - (tN x5.1))) x5.2)).length)=true then (if leI x5.1 ((((List.take (tN x5.1) x5.2)++(List.replicate (x1.length - (tN x5.1)) (0,0,false)))++(List.drop (tN x5.1+(x1.length - (tN x5.1))) x5.2)).length)=true then (some (tN x5.1,(((List.take (tN x5.1) x5.2)++(List.replicate (x1.length - (tN x5.1)) (0,0,false)))++(List.drop (tN x5.1+(x1.length - (tN x5.1))) x5.2)))) else none) else none) else none) else none)) else none) else none))))))
def nM (k:Nat) (x1:Ty8) (x2:Int):Option Ty8:=((nL k x1).bind fun x3=>((iZ k x1 x2).bind fun x4=>(if rU x4.1 x4.2.length=true then (some (List.take x4.1 x4.2)) else none)))
def qQ (k:Nat) (x1:Int) (x2:aG) (x3:Bool) (x4:Int):Option (Int × aG × Bool × Int × aG × Int):=((iA k x1 x2 x3 x4).bind fun x5=>((lL k x5.1 x5.2.1 x5.2.2.1 x5.2.2.2).bind fun x6=>(if x6=true then (if eqI x5.1 1=true then (if x5.2.2.1=true then (some (x5.1,x5.2.1,x5.2.2.1,x5.2.2.2,[],8)) else ((eP k x5.2.1).bind fun x7=>(some (x5.1,x5.2.1,true,x5.2.2.2,x5.2.1,0)))) else (some (x5.1,x5.2.1,x5.2.2.1,x5.2.2.2,[],13))) else (some (x5.1,x5.2.1,x5.2.2.1,x5.2.2.2,[],2)))))
def lH (k:Nat) (x1:aG):Option aG:=oppP x1
def mW (k:Nat) (x1:Int) (x2:aG) (x3:Bool) (x4:Int) (x5:Int):Option (Int × aG × Bool × Int × aG × Int):=((iA k x1 x2 x3 x4).bind fun x6=>((lL k x6.1 x6.2.1 x6.2.2.1 x6.2.2.2).bind fun x7=>(if x7=true then (if eqI x5 1=true then (if eqI x6.2.2.2 x5=true then (some (x6.1,x6.2.1,x6.2.2.1,x6.2.2.2,[],0)) else (if eqI x6.1 3=true then (some (x6.1,x6.2.1,x6.2.2.1,x6.2.2.2,[],13)) else (if eqI x6.1 1=true then (if eqB (eqI x5 1) x6.2.2.1=true then (some (3,x6.2.1,x6.2.2.1,x5,[],0)) else (if x6.2.2.1=true then ((lH k x6.2.1).bind fun x8=>(some (3,x6.2.1,x6.2.2.1,x5,x8,0))) else ((eP k x6.2.1).bind fun x8=>(some (3,x6.2.1,x6.2.2.1,x5,x6.2.1,0))))) else (some (x6.1,x6.2.1,x6.2.2.1,x6.2.2.2,[],13))))) else (if eqI x5 2=true then (if eqI x6.2.2.2 x5=true then (some (x6.1,x6.2.1,x6.2.2.1,x6.2.2.2,[],0)) else (if eqI x6.1 3=true then (some (x6.1,x6.2.1,x6.2.2.1,x6.2.2.2,[],13)) else (if eqB (eqI x5 1) x6.2.2.1=true then (some (3,x6.2.1,x6.2.2.1,x5,[],0)) else (if x6.2.2.1=true then ((lH k x6.2.1).bind fun x8=>(some (3,x6.2.1,x6.2.2.1,x5,x8,0))) else ((eP k x6.2.1).bind fun x8=>(some (3,x6.2.1,x6.2.2.1,x5,x6.2.1,0))))))) else (some (x6.1,x6.2.1,x6.2.2.1,x6.2.2.2,[],2)))) else (some (x6.1,x6.2.1,x6.2.2.1,x6.2.2.2,[],2)))))
def qN (x1:aG) (x2:Ty8) (x3:Ty2) (x4:Ty7):Unit:=()
def bI:Nat→aG→Int→Int→Int→Int→aG→Ty8→Ty2→Ty7→(Ty8 × Int)→Int→Int→Option (Int)
 | 0,_,_,_,_,_,_,_,_,_,_,_,_=>none
 | k+1,x2,x5,x6,x7,x8,x9,x10,x11,x12,x13,cK,b5=>(if ltI b5 (nI x2.length)=true then (if inI b5 x2.length=true then ((x2[tN b5]?).bind fun mP=>(if eqI mP.1 x7=true then (bI k x2 x5 x6 x7 x8 x9 x10 x11 x12 x13 (aH .i64 cK mP.2) (aH .i64 b5 1)) else (bI k x2 x5 x6 x7 x8 x9 x10 x11 x12 x13 cK (aH .i64 b5 1)))) else none) else (some cK))
def gK (k:Nat) (x1:Int) (x2:aG) (x3:Bool) (x4:Int) (x5:Int) (x6:Int) (x7:Int) (x8:Int) (x9:aG) (x10:Ty8) (x11:Ty2) (x12:Ty7):Option (Ty8 × Ty2 × Int × Int):=(if eqI x1 0=true then ((sK k x10 x6 x7 (eqI x5 3)).bind fun x13=>(if eqI x13.2 0=true then (if eqI x5 3=true then ((vR k x1 x2 x3 x4 x7 x8).bind fun x14=>(if eqI x14.2.2.2.2 0=true then (if kS x11 x6=true then ((bD x11 x6).bind fun x15=>(some (x13.1,(aZ x11 x6 (x14.1,x14.2.1,x14.2.2.1,x14.2.2.2.1)),0,0))) else (some (x13.1,(aZ x11 x6 (x14.1,x14.2.1,x14.2.2.1,x14.2.2.2.1)),0,0))) else (some (x10,x11,x14.2.2.2.2,0)))) else ((oS k x9 x7).bind fun x14=>((bI k x2 x5 x6 x7 x8 x9 x10 x11 x12 x13 x14 0).bind (fun x16=>(some (x13.1,x11,0,x16)))))) else (some (x10,x11,x13.2,0)))) else (some (x10,x11,13,0)))
def j1 (k:Nat) (x1:Int) (x2:aG) (x3:Bool) (x4:Int) (x5:Int) (x6:Int) (x7:Int) (x8:Int) (x9:aG) (x10:Ty8) (x11:Ty2) (x12:Ty7):Option (aG × Ty8 × Ty2 × Int):=(if eqI x5 4=true then ((sM k x1 x2 x3 x4 (!eqI x8 0)).bind fun x13=>(if eqI x13.2.2.2.2 0=true then ((kO k x9 []).bind fun x14=>(if eqI x13.1 2=true then ((nM k x10 x6).bind fun x15=>(some (x14.1,x15,(aZ x11 x6 (x13.1,x13.2.1,x13.2.2.1,x13.2.2.2.1)),0))) else (some (x14.1,x10,(aZ x11 x6 (x13.1,x13.2.1,x13.2.2.1,x13.2.2.2.1)),0)))) else (some (x9,x10,x11,x13.2.2.2.2)))) else (if eqI x5 5=true then ((qQ k x1 x2 x3 x4).bind fun x13=>(if eqI x13.2.2.2.2.2 0=true then ((kO k x9 x13.2.2.2.2.1).bind fun x14=>((nM k x10 x6).bind fun x15=>(some (x14.1,x15,(aZ x11 x6 (x13.1,x13.2.1,x13.2.2.1,x13.2.2.2.1)),0)))) else (some (x9,x10,x11,x13.2.2.2.2.2)))) else (if eqI x8 1=true then ((mW k x1 x2 x3 x4 x8).bind fun x13=>(if eqI x13.2.2.2.2.2 0=true then ((kO k x9 x13.2.2.2.2.1).bind fun x14=>((nM k x10 x6).bind fun x15=>(some (x14.1,x15,(aZ x11 x6 (x13.1,x13.2.1,x13.2.2.1,x13.2.2.2.1)),0)))) else (some (x9,x10,x11,x13.2.2.2.2.2)))) else (if eqI x8 2=true then ((mW k x1 x2 x3 x4 x8).bind fun x13=>(if eqI x13.2.2.2.2.2 0=true then ((kO k x9 x13.2.2.2.2.1).bind fun x14=>((nM k x10 x6).bind fun x15=>(some (x14.1,x15,(aZ x11 x6 (x13.1,x13.2.1,x13.2.2.1,x13.2.2.2.1)),0)))) else (some (x9,x10,x11,x13.2.2.2.2.2)))) else (some (x9,x10,x11,2))))))
def iG (k:Nat) (x1:Int) (x2:aG) (x3:Bool) (x4:Int) (x5:Int) (x6:Int) (x7:Int) (x8:Int) (x9:aG) (x10:Ty8) (x11:Ty2) (x12:Ty7):Option (Int × Int × Ty8 × Ty2 × aG):=(if eqI x5 1=true then (some (0,0,x10,(aZ x11 x6 (x1,x2,x3,x4)),x9)) else (if eqI x5 2=true then ((gK k x1 x2 x3 x4 x5 x6 x7 x8 x9 x10 x11 x12).bind fun x13=>(some (x13.2.2.2,x13.2.2.1,x13.1,x13.2.1,x9))) else (if eqI x5 3=true then ((gK k x1 x2 x3 x4 x5 x6 x7 x8 x9 x10 x11 x12).bind fun x13=>(some (x13.2.2.2,x13.2.2.1,x13.1,x13.2.1,x9))) else ((j1 k x1 x2 x3 x4 x5 x6 x7 x8 x9 x10 x11 x12).bind fun x13=>(some (0,x13.2.2.2,x13.2.1,x13.2.2.1,x13.1))))))
def jN (k:Nat) (x1:Int) (x2:Int) (x3:Int) (x4:Int) (x5:aG) (x6:Ty8) (x7:Ty2) (x8:Ty7):Option (Int × Int × aG × Ty8 × Ty2 × Ty7):=(if ltI x1 1=true then (some (2,0,x5,x6,x7,x8)) else (if ltI 6 x1=true then (some (2,0,x5,x6,x7,x8)) else (if ltI x2 0=true then (some (2,0,x5,x6,x7,x8)) else (if ltI x2 1000=true then (if kS x7 x2=true then ((bD x7 x2).bind fun x9=>(if eqB true (eqI x1 1)=true then (some (8,0,x5,x6,x7,x8)) else ((iG k x9.1 x9.2.1 x9.2.2.1 x9.2.2.2 x1 x2 x3 x4 x5 x6 x7 x8).bind fun x10=>(if eqI x10.2.1 0=true then (if dF (((x8++[(x1,x2,x3,x4)]).length)*32)=true then (some (0,x10.1,x10.2.2.2.2,x10.2.2.1,x10.2.2.2.1,(x8++[(x1,x2,x3,x4)]))) else none) else (some (x10.2.1,0,x10.2.2.2.2,x10.2.2.1,x10.2.2.2.1,x8)))))) else (if eqB false (eqI x1 1)=true then (some (7,0,x5,x6,x7,x8)) else ((iG k 0 [] false 0 x1 x2 x3 x4 x5 x6 x7 x8).bind fun x9=>(if eqI x9.2.1 0=true then (if dF (((x8++[(x1,x2,x3,x4)]).length)*32)=true then (some (0,x9.1,x9.2.2.2.2,x9.2.2.1,x9.2.2.2.1,(x8++[(x1,x2,x3,x4)]))) else none) else (some (x9.2.1,0,x9.2.2.2.2,x9.2.2.1,x9.2.2.2.1,x8)))))) else (some (2,0,x5,x6,x7,x8))))))
def eQ:Nat→Ty7→Int→aG→Ty8→Ty2→Ty7→Option Ty0
 | 0,_,_,_,_,_,_=>none
 | k+1,x1,dA,eF,eG,d6,d7=>(if ltI dA (nI x1.length)=true then (if inI dA x1.length=true then ((x1[tN dA]?).bind fun iE=>((jN k iE.1 iE.2.1 iE.2.2.1 iE.2.2.2 eF eG d6 d7).bind fun dB=>(if eqI dB.1 0=true then (eQ k x1 (aH .i64 dA 1) dB.2.2.1 dB.2.2.2.1 dB.2.2.2.2.1 dB.2.2.2.2.2) else (some (.inr (.inr ())))))) else none) else (some (.inl (eF,eG,d6,d7))))
def o6 (k:Nat) (x1:Ty7):Option Ty1:=((eQ k x1 0 [] [] ([]:Ty2) []).bind (fun q=>Sum.elim (fun x3=>(some (.inl (x3.1,x3.2.1,x3.2.2.1,x3.2.2.2)))) (fun x3=>(some x3)) q))
def eT:Nat→Ty7→Int→aG→Option (aG)
 | 0,_,_,_=>none
 | k+1,x1,dW,dZ=>(if ltI dW (nI x1.length)=true then (if inI dW x1.length=true then ((x1[tN dW]?).bind fun iO=>(if eqI iO.1 6=true then (eT k x1 (aH .i64 dW 1) (aZ dZ iO.2.1 iO.2.2.2)) else (eT k x1 (aH .i64 dW 1) dZ))) else none) else (some dZ))
def jS (k:Nat) (x1:Ty7):Option (Sum (aG) (Unit)):=((o6 k x1).bind (fun q=>Sum.elim (fun x3=>((eT k x1 0 ([]:aG)).bind (fun x5=>(some (.inl x5))))) (fun x3=>(some (.inr ()))) q))
def fR:Nat→Ty7→Int→Option (Unit)
 | 0,_,_=>none
 | k+1,x1,eR=>(if ltI eR (nI x1.length)=true then (if inI eR x1.length=true then ((x1[tN eR]?).bind fun yP=>(fR k x1 (aH .i64 eR 1))) else none) else (some ()))
def dP:Nat→Ty7→aG→Int→Int→Option (Int)
 | 0,_,_,_,_=>none
 | k+1,x1,x3,d8,dJ=>(if ltI dJ (nI x1.length)=true then (if inI dJ x1.length=true then ((x1[tN dJ]?).bind fun oK=>(if eqI oK.1 5=true then (if kS x3 oK.2.1=true then ((bD x3 oK.2.1).bind fun aCH=>(if eqI aCH 2=true then (dP k x1 x3 (aH .i64 d8 1) (aH .i64 dJ 1)) else (dP k x1 x3 d8 (aH .i64 dJ 1)))) else (dP k x1 x3 d8 (aH .i64 dJ 1))) else (dP k x1 x3 d8 (aH .i64 dJ 1)))) else none) else (some d8))
def lT (k:Nat) (x1:Ty7):Option (Int × Int):=((jS k x1).bind (fun q=>Sum.elim (fun x3=>((dP k x1 x3 0 0).bind (fun x5=>(some (x5,0))))) (fun x3=>((fR k x1 0).bind (fun x5=>(some (0,4))))) q))
def cS:Nat→Ty7→aG→Int→aG→Option (aG)
 | 0,_,_,_,_=>none
 | k+1,x1,x3,b6,aL=>(if ltI b6 (nI x1.length)=true then (if inI b6 x1.length=true then ((x1[tN b6]?).bind fun cP=>(if eqI cP.1 3=true then (if kS x3 cP.2.1=true then ((bD x3 cP.2.1).bind fun vW=>(if eqI vW 1=true then (if dF (((aL++[cP.2.2]).length)*16)=true then (cS k x1 x3 (aH .i64 b6 1) (aL++[cP.2.2])) else none) else (cS k x1 x3 (aH .i64 b6 1) aL))) else (cS k x1 x3 (aH .i64 b6 1) aL)) else (cS k x1 x3 (aH .i64 b6 1) aL))) else none) else (some aL))
def kG (k:Nat) (x1:Ty7):Option (aG × Int):=((jS k x1).bind (fun q=>Sum.elim (fun x3=>((cS k x1 x3 0 []).bind (fun x5=>((kO k [] x5).bind fun x6=>(some (x6.1,x6.2)))))) (fun x3=>(some ([],4))) q))
def pH (x1:aG):Bool:=jY (x1++x1)
def nY (x1:aG) (x2:aG):Bool:=jY (x1++x2)
def pE (k:Nat):Option Bool:=(if eqI (nI aK.length) 0=true then (some false) else ((jS k aK).bind (fun q=>Sum.elim (fun x2=>((lT k aK).bind fun x3=>((kG k aK).bind fun x4=>(if leI 1 aK.length=true then ((jS k (List.drop 1 aK)).bind (fun q=>Sum.elim (fun x6=>(if eqI (nI x2.length) 1=true then (if kS x2 1=true then ((bD x2 1).bind fun x7=>(if eqI x7 2=true then (if eqI x3.1 1=true then (if eqI x3.2 0=true then (if eqI (nI x4.1.length) 0=true then (if eqI x4.2 0=true then (some false) else (some false)) else (some false)) else (some false)) else (some false)) else (some false))) else (some false)) else (some false))) (fun x6=>(if eqI (nI x2.length) 1=true then (if kS x2 1=true then ((bD x2 1).bind fun x7=>(if eqI x7 2=true then (if eqI x3.1 1=true then (if eqI x3.2 0=true then (if eqI (nI x4.1.length) 0=true then (if eqI x4.2 0=true then (if (pH x2)=true then (some (!(nY x2 (aZ ([]:aG) 1 1)))) else (some false)) else (some false)) else (some false)) else (some false)) else (some false)) else (some false))) else (some false)) else (some false))) q)) else none)))) (fun x2=>((lT k aK).bind fun x3=>((kG k aK).bind fun x4=>(if leI 1 aK.length=true then ((jS k (List.drop 1 aK)).bind (fun q=>Sum.elim (fun x6=>(some false)) (fun x6=>(some false)) q)) else none)))) q)))
def gR (k:Nat) (x1:Ty7):Option Unit:=(if dF (x1.length*32)=true then (some ()) else none)
def nD:Unit:=()
def mF (k:Nat) (x1:Ty7):Option Unit:=gR k x1
def mI (k:Nat) (x1:aG) (x2:Ty8) (x3:Ty2) (x4:Ty7):Option Unit:=((mF k x4).bind fun x5=>(some ()))
def qI (x1:aG) (x2:Ty8) (x3:Ty2) (x4:Ty7):Unit:=()
def g6:Nat→Int→aG→Bool→Int→Int→Option zO
 | 0,_,_,_,_,_=>none
 | k+1,x1,x2,x3,x4,fY=>(if ltI fY (nI x2.length)=true then (if inI fY x2.length=true then ((x2[tN fY]?).bind fun aGF=>(if ltI aGF.1 64=true then (g6 k x1 x2 x3 x4 (aH .i64 fY 1)) else (some (.inr false)))) else none) else (some (.inl ())))
def eO:Nat→aG→Int→aG→Option (aG)
 | 0,_,_,_=>none
 | k+1,x1,fZ,gX=>(if ltI fZ 0=true then (some gX) else (if inI fZ x1.length=true then ((x1[tN fZ]?).bind fun qA=>(if dF (((gX++[(qA.1,aAZ .i64 qA.2)]).length)*16)=true then (eO k x1 (rH .i64 fZ 1) (gX++[(qA.1,aAZ .i64 qA.2)])) else none)) else none))
def mK (x1:Int) (x2:Int):Bool:=(if ltI x2 64=true then (if ltI x1 0=true then false else ltI x1 1000) else false)
def dV:Nat→Ty8→Ty11→Int→Int→Option (Sum (Int) (Bool))
 | 0,_,_,_,_=>none
 | k+1,x1,bQ,d9,fD=>(if ltI d9 (nI x1.length)=true then (if eqI d9 fD=true then (dV k x1 bQ (aH .i64 d9 1) fD) else (if inI d9 x1.length=true then ((x1[tN d9]?).bind fun aGG=>(if eqI aGG.1 bQ.1=true then (if bQ.2.2=true then (some (.inr false)) else (dV k x1 bQ (aH .i64 d9 1) fD)) else (dV k x1 bQ (aH .i64 d9 1) fD))) else none)) else (some (.inl fD)))
def fO:Nat→Ty8→Int→Option zO
 | 0,_,_=>none
 | k+1,x1,dC=>(if ltI dC (nI x1.length)=true then (if inI dC x1.length=true then ((x1[tN dC]?).bind fun bQ=>(if (mK bQ.2.1 bQ.1)=true then (if ltI 0 dC=true then (if inI (rH .i64 dC 1) x1.length=true then ((x1[tN (rH .i64 dC 1)]?).bind fun tP=>(if ltI tP.1 bQ.1=true then ((dV k x1 bQ 0 dC).bind (fun q=>Sum.elim (fun jV=>(fO k x1 (aH .i64 jV 1))) (fun jV=>(some (.inr jV))) q)) else (if eqI tP.1 bQ.1=true then (if ltI tP.2.1 bQ.2.1=true then ((dV k x1 bQ 0 dC).bind (fun q=>Sum.elim (fun jV=>(fO k x1 (aH .i64 jV 1))) (fun jV=>(some (.inr jV))) q)) else (some (.inr false))) else (some (.inr false))))) else none) else ((dV k x1 bQ 0 dC).bind (fun q=>Sum.elim (fun tQ=>(fO k x1 (aH .i64 tQ 1))) (fun tQ=>(some (.inr tQ))) q))) else (some (.inr false)))) else none) else (some (.inl ())))
def gF:Nat→Ty8→Int→Int→Int→Option (Sum (Unit) (Int))
 | 0,_,_,_,_=>none
 | k+1,x1,x2,x3,fE=>(if ltI fE (nI x1.length)=true then (if inI fE x1.length=true then ((x1[tN fE]?).bind fun tR=>(if eqI tR.1 x3=true then (if eqI tR.2.1 x2=true then (if tR.2.2=true then (some (.inr 2)) else (some (.inr 1))) else (gF k x1 x2 x3 (aH .i64 fE 1))) else (gF k x1 x2 x3 (aH .i64 fE 1)))) else none) else (some (.inl ())))
def bJ:Nat→Ty8→Int→Int→Bool→Int→Ty8→Bool→Option (Bool × Bool × Ty8)
 | 0,_,_,_,_,_,_,_=>none
 | k+1,x1,x2,x3,cI,aX,aM,aN=>(if ltI aX (nI x1.length)=true then (if cI=true then (if inI aX x1.length=true then ((x1[tN aX]?).bind fun aO=>(if eqI aO.1 x3=true then (if eqI aO.2.1 x2=true then (bJ k x1 x2 x3 cI (aH .i64 aX 1) aM aN) else (if dF (((aM++[aO]).length)*24)=true then (bJ k x1 x2 x3 cI (aH .i64 aX 1) (aM++[aO]) aN) else none)) else (if dF (((aM++[aO]).length)*24)=true then (bJ k x1 x2 x3 cI (aH .i64 aX 1) (aM++[aO]) aN) else none))) else none) else (if inI aX x1.length=true then ((x1[tN aX]?).bind fun aO=>(if ltI x3 aO.1=true then (if dF (((aM++[(x3,x2,aN)]).length)*24)=true then (if eqI aO.1 x3=true then (if eqI aO.2.1 x2=true then (bJ k x1 x2 x3 true (aH .i64 aX 1) (aM++[(x3,x2,aN)]) aN) else (if dF ((((aM++[(x3,x2,aN)])++[aO]).length)*24)=true then (bJ k x1 x2 x3 true (aH .i64 aX 1) ((aM++[(x3,x2,aN)])++[aO]) aN) else none)) else (if dF ((((aM++[(x3,x2,aN)])++[aO]).length)*24)=true then (bJ k x1 x2 x3 true (aH .i64 aX 1) ((aM++[(x3,x2,aN)])++[aO]) aN) else none)) else none) else (if eqI x3 aO.1=true then (if ltI aO.2.1 x2=true then (if eqI aO.1 x3=true then (if eqI aO.2.1 x2=true then (bJ k x1 x2 x3 cI (aH .i64 aX 1) aM aN) else (if dF (((aM++[aO]).length)*24)=true then (bJ k x1 x2 x3 cI (aH .i64 aX 1) (aM++[aO]) aN) else none)) else (if dF (((aM++[aO]).length)*24)=true then (bJ k x1 x2 x3 cI (aH .i64 aX 1) (aM++[aO]) aN) else none)) else (if dF (((aM++[(x3,x2,aN)]).length)*24)=true then (if eqI aO.1 x3=true then (if eqI aO.2.1 x2=true then (bJ k x1 x2 x3 true (aH .i64 aX 1) (aM++[(x3,x2,aN)]) aN) else (if dF ((((aM++[(x3,x2,aN)])++[aO]).length)*24)=true then (bJ k x1 x2 x3 true (aH .i64 aX 1) ((aM++[(x3,x2,aN)])++[aO]) aN) else none)) else (if dF ((((aM++[(x3,x2,aN)])++[aO]).length)*24)=true then (bJ k x1 x2 x3 true (aH .i64 aX 1) ((aM++[(x3,x2,aN)])++[aO]) aN) else none)) else none)) else (if eqI aO.1 x3=true then (if eqI aO.2.1 x2=true then (bJ k x1 x2 x3 cI (aH .i64 aX 1) aM aN) else (if dF (((aM++[aO]).length)*24)=true then (bJ k x1 x2 x3 cI (aH .i64 aX 1) (aM++[aO]) aN) else none)) else (if dF (((aM++[aO]).length)*24)=true then (bJ k x1 x2 x3 cI (aH .i64 aX 1) (aM++[aO]) aN) else none))))) else none)) else (some (cI,aN,aM)))
def gG:Nat→Ty8→Int→Int→Bool→Int→Option (Sum (Unit) (Ty8 × Int))
 | 0,_,_,_,_,_=>none
 | k+1,x1,x2,x3,x4,eM=>(if ltI eM (nI x1.length)=true then (if inI eM x1.length=true then ((x1[tN eM]?).bind fun tS=>(if eqI tS.1 x3=true then (if eqI tS.2.1 x2=true then (gG k x1 x2 x3 x4 (aH .i64 eM 1)) else (if x4=true then (some (.inr (x1,9))) else (if tS.2.2=true then (some (.inr (x1,9))) else (gG k x1 x2 x3 x4 (aH .i64 eM 1))))) else (gG k x1 x2 x3 x4 (aH .i64 eM 1)))) else none) else (some (.inl ())))
def gI:Nat→aG→Int→Int→Option (Sum (Unit) (Int))
 | 0,_,_,_=>none
 | k+1,x1,x2,dD=>(if ltI dD (nI x1.length)=true then (if inI dD x1.length=true then ((x1[tN dD]?).bind fun oL=>(if eqI oL.1 x2=true then (some (.inr oL.2)) else (gI k x1 x2 (aH .i64 dD 1)))) else none) else (some (.inl ())))
def sP (k:Nat) (x1:aG) (x2:Int):Option Int:=((gI k x1 x2 0).bind (fun q=>Sum.elim (fun x4=>(some 0)) (fun x4=>(some x4)) q))
def lD (k:Nat) (x1:Int) (x2:aG) (x3:Ty8) (x4:Ty2) (x5:Ty7):Option (Int × Bool × Int × aG × Bool):=(if kS x4 x1=true then ((bD x4 x1).bind fun x6=>((eP k x6.2.1).bind fun x7=>(some (x6.1,x6.2.2.1,x6.2.2.2,x6.2.1,true)))) else ((eP k []).bind fun x6=>(some (0,false,0,[],false))))
def mN (k:Nat) (x1:Int) (x2:aG) (x3:Ty8) (x4:Ty2) (x5:Ty7):Option Int:=((oS k x2 x1).bind fun x6=>(some x6))
def cF:Nat→(aG × Ty8 × Ty2 × Ty7)→(aG × Int)→Bool→Int→Option zO
 | 0,_,_,_,_=>none
 | k+1,x4,x6,x10,dN=>(if ltI dN 64=true then (if x10=true then ((mN k dN x4.1 x4.2.1 x4.2.2.1 x4.2.2.2).bind fun zI=>((sP k x6.1 dN).bind fun zJ=>(if eqI zI zJ=true then (cF k x4 x6 x10 (aH .u8 dN 1)) else (some (.inr false))))) else (cF k x4 x6 x10 (aH .u8 dN 1))) else (some (.inl ())))
def bR:Nat→(aG × Ty8 × Ty2 × Ty7)→(aG × Int)→aG→Bool→Int→Option (Sum (Bool) (Bool))
 | 0,_,_,_,_,_=>none
 | k+1,x4,x6,x8,eS,cR=>(if ltI cR (nI x4.2.2.2.length)=true then (if inI cR x4.2.2.2.length=true then ((x4.2.2.2[tN cR]?).bind fun mU=>((lD k mU.2.1 x4.1 x4.2.1 x4.2.2.1 x4.2.2.2).bind fun fF=>(if fF.2.2.2.2=true then (if kS x8 mU.2.1=true then ((bD x8 mU.2.1).bind fun rA=>(if eqB (eqI fF.1 3) (!eqI rA 0)=true then (if eqI fF.2.2.1 rA=true then (if eS=true then (bR k x4 x6 x8 (eqI fF.1 3) (aH .i64 cR 1)) else (bR k x4 x6 x8 false (aH .i64 cR 1))) else (some (.inr false))) else (some (.inr false)))) else (if eqB (eqI fF.1 3) (!eqI 0 0)=true then (if eqI fF.2.2.1 0=true then (if eS=true then (bR k x4 x6 x8 (eqI fF.1 3) (aH .i64 cR 1)) else (bR k x4 x6 x8 false (aH .i64 cR 1))) else (some (.inr false))) else (some (.inr false)))) else (some (.inr false))))) else none) else (some (.inl eS)))
def cU:Nat→Ty7→Int→aG→Ty8→Ty2→Ty7→Option (aG × Ty8 × Ty2 × Ty7)
 | 0,_,_,_,_,_,_=>none
 | k+1,x1,eJ,fW,fX,fL,fM=>(if ltI eJ (nI x1.length)=true then (if inI eJ x1.length=true then ((x1[tN eJ]?).bind fun jX=>((jN k jX.1 jX.2.1 jX.2.2.1 jX.2.2.2 fW fX fL fM).bind fun fG=>(cU k x1 (aH .i64 eJ 1) fG.2.2.1 fG.2.2.2.1 fG.2.2.2.2.1 fG.2.2.2.2.2))) else none) else (some (fW,fX,fL,fM)))
def mC (k:Nat) (x1:Ty7):Option Bool:=((pE k).bind fun x2=>(if x2=true then (if ltI 100 (nI x1.length)=true then (some (!false)) else ((cU k x1 0 [] [] ([]:Ty2) []).bind (fun x4=>((mI k x4.1 x4.2.1 x4.2.2.1 x4.2.2.2).bind fun x5=>((kG k x4.2.2.2).bind fun x6=>((jS k x4.2.2.2).bind (fun q=>Sum.elim (fun x8=>(if eqI x6.2 0=true then ((bR k x4 x6 x8 true 0).bind (fun q=>Sum.elim (fun x10=>((cF k x4 x6 x10 0).bind (fun q=>Sum.elim (fun x12=>(some true)) (fun x12=>(some x12)) q))) (fun x10=>(some x10)) q)) else (some false))) (fun x8=>(if eqI x6.2 0=true then (some false) else (some false))) q))))))) else (some false)))
end Go.Ws
