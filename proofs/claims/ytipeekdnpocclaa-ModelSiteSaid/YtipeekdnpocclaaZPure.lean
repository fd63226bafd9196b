/-
  The functions as plain Lean functions. (Printed by my own program.)
  Conditions: none.
-/
import Derived.Test.YtipeekdnpocclaaZB2
import Derived.Test.YtipeekdnpocclaaZOppDef
import Derived.Test.YtipeekdnpocclaaZAgrDef
set_option linter.unusedVariables false
set_option linter.unusedSimpArgs false
namespace Go.Ws
abbrev aL:=List (Int × Int)
abbrev Ty11:=Int × Int × Bool
abbrev z7:=Sum (Unit) (Bool)
abbrev Ty9:=Int × Int × Int × Int
abbrev Ty8:=List Ty11
abbrev Ty7:=List Ty9
abbrev Ty6:=Int × aL × Bool × Int
abbrev Ty4:=Int × Ty6
abbrev Ty2:=List Ty4
abbrev Ty1:=Sum (aL × Ty8 × Ty2 × Ty7) (Unit)
abbrev Ty0:=Sum (aL × Ty8 × Ty2 × Ty7) (Ty1)
set_option linter.unusedVariables false
def aC:Ty7:=[(1,1,0,0),(3,1,0,5),(4,1,0,1),(5,1,0,0),(6,1,0,2)]
def aF5:Unit:=()
def jQ (k:Nat) (x1:Ty8):Option Unit:=(if dV (x1.length*24)=true then (some ()) else none)
def rA:Unit:=()
def oS (k:Nat) (x1:Ty8):Option Unit:=jQ k x1
def iK (x1:Int) (x2:Int):Bool:=(if ltI x2 64=true then (if ltI x1 0=true then false else ltI x1 1000) else false)
def iV (x1:Int):Bool:=(!eqI x1 x1)
def bK (x1:Int) (x2:Int):Int:=(if (iV x1)=true then (if (iV x2)=true then 0 else (-1)) else (if (iV x2)=true then 1 else (if ltI x1 x2=true then (-1) else (if ltI x2 x1=true then 1 else 0))))
def eW (x1:Int):Bool:=(!eqI x1 x1)
def dX (x1:Int) (x2:Int):Int:=(if (eW x1)=true then (if (eW x2)=true then 0 else (-1)) else (if (eW x2)=true then 1 else (if ltI x1 x2=true then (-1) else (if ltI x2 x1=true then 1 else 0))))
def k9:Nat→(List Int)→Int→Option (Sum (Unit) (Int))
 | 0,_,_=>none
 | k+1,x1,dM=>(if ltI dM (nI x1.length)=true then (if inI dM x1.length=true then ((x1[tN dM]?).bind fun pJ=>(if eqI pJ 0=true then (k9 k x1 (aM .i64 dM 1)) else (some (.inr pJ)))) else none) else (some (.inl ())))
def aDW (k:Nat) (x1:List Int):Option Int:=((k9 k x1 0).bind (fun q=>Sum.elim (fun x3=>(some 0)) (fun x3=>(some x3)) q))
def oB (k:Nat) (x1:Int) (x2:Int) (x3:Bool) (x4:Int) (x5:Int) (x6:Bool):Option Int:=((aDW k [(bK x1 x4),(dX x2 x5)]).bind fun x7=>(some x7))
def eX:Nat→Ty8→Int→Option z7
 | 0,_,_=>none
 | k+1,x1,bQ=>(if ltI bQ (nI x1.length)=true then (if inI bQ x1.length=true then ((x1[tN bQ]?).bind fun aV=>(if (iK aV.2.1 aV.1)=true then (if eqI bQ 0=true then (eX k x1 (aM .i64 bQ 1)) else (if inI (sO .i64 bQ 1) x1.length=true then ((x1[tN (sO .i64 bQ 1)]?).bind fun cN=>((oB k cN.1 cN.2.1 cN.2.2 aV.1 aV.2.1 aV.2.2).bind fun nH=>(if ltI nH 0=true then (if eqI cN.1 aV.1=true then (if cN.2.2=true then (some (.inr false)) else (if aV.2.2=true then (some (.inr false)) else (eX k x1 (aM .i64 bQ 1)))) else (eX k x1 (aM .i64 bQ 1))) else (some (.inr false))))) else none)) else (some (.inr false)))) else none) else (some (.inl ())))
def rX (k:Nat) (x1:Ty8):Option Bool:=((eX k x1 0).bind (fun q=>Sum.elim (fun x3=>(some true)) (fun x3=>(some x3)) q))
def bG:Nat→Ty8→Int→Int→Bool→Int→Int→Option (Int)
 | 0,_,_,_,_,_,_=>none
 | k+1,x1,x2,x3,x4,cD,cO=>(if ltI cD cO=true then (if inI (conv .i64 (sH .u64 (conv .u64 (aM .i64 cD cO)) 1)) x1.length=true then ((x1[tN (conv .i64 (sH .u64 (conv .u64 (aM .i64 cD cO)) 1))]?).bind fun iE=>((oB k iE.1 iE.2.1 iE.2.2 x2 x3 x4).bind fun uM=>(if ltI uM 0=true then (bG k x1 x2 x3 x4 (aM .i64 (conv .i64 (sH .u64 (conv .u64 (aM .i64 cD cO)) 1)) 1) cO) else (bG k x1 x2 x3 x4 cD (conv .i64 (sH .u64 (conv .u64 (aM .i64 cD cO)) 1)))))) else none) else (some cD))
def f3 (k:Nat) (x1:Ty8) (x2:Int) (x3:Int) (x4:Bool):Option (Int × Bool):=((bG k x1 x2 x3 x4 0 (nI x1.length)).bind (fun x6=>(if ltI x6 (nI x1.length)=true then (if inI x6 x1.length=true then ((x1[tN x6]?).bind fun x7=>((oB k x7.1 x7.2.1 x7.2.2 x2 x3 x4).bind fun x8=>(some (x6,eqI x8 0)))) else none) else (some (x6,false)))))
def pD (k:Nat) (x1:Int) (x2:Ty8) (x3:Ty8):Option Ty8:=aEI 24 x1 x2 x3
def fU:Nat→Ty8→Int→Int→Bool→Int→Option (Sum (Unit) (Ty8 × Int))
 | 0,_,_,_,_,_=>none
 | k+1,x1,x2,x3,x4,cP=>(if ltI cP (nI x1.length)=true then (if inI cP x1.length=true then ((x1[tN cP]?).bind fun iF=>(if eqI iF.1 x3=true then (if eqI iF.2.1 x2=true then (fU k x1 x2 x3 x4 (aM .i64 cP 1)) else (if x4=true then (some (.inr (x1,9))) else (if iF.2.2=true then (some (.inr (x1,9))) else (fU k x1 x2 x3 x4 (aM .i64 cP 1))))) else (fU k x1 x2 x3 x4 (aM .i64 cP 1)))) else none) else (some (.inl ())))
def tU (k:Nat) (x1:Ty8) (x2:Int) (x3:Int) (x4:Bool):Option (Ty8 × Int):=((oS k x1).bind fun x5=>((rX k x1).bind fun x6=>(if x6=true then (if (iK x2 x3)=true then ((fU k x1 x2 x3 x4 0).bind (fun q=>Sum.elim (fun x8=>((f3 k x1 x3 x2 x4).bind fun x9=>(if x9.2=true then (if inI x9.1 x1.length=true then ((x1[tN x9.1]?).bind fun x10=>(if x10.2.2=true then (some ((List.set x1 (tN x9.1) (x10.1,x10.2.1,true)),0)) else (some ((List.set x1 (tN x9.1) (x10.1,x10.2.1,x4)),0)))) else none) else ((pD k x9.1 x1 [(x3,x2,x4)]).bind fun x10=>(some (x10,0)))))) (fun x8=>(some x8)) q)) else (some (x1,2))) else (some (x1,2)))))
def hO (k:Nat) (x1:aL):Option Unit:=(if dV (x1.length*16)=true then (some ()) else none)
def oM:Unit:=()
def fH (k:Nat) (x1:aL):Option Unit:=hO k x1
def nP (k:Nat) (x1:Int) (x2:aL) (x3:Bool) (x4:Int):Option Unit:=((fH k x2).bind fun x5=>(some ()))
def hU (x1:Int) (x2:Int):Bool:=(!ltI x1 64)
def cU:Nat→aL→Int→Option (Sum (Unit) (Int))
 | 0,_,_=>none
 | k+1,x1,cW=>(if ltI cW (nI x1.length)=true then (if inI cW x1.length=true then ((x1[tN cW]?).bind fun iG=>(if (hU iG.1 iG.2)=true then (some (.inr cW)) else (cU k x1 (aM .i64 cW 1)))) else none) else (some (.inl ())))
def kC (k:Nat) (x1:aL):Option Int:=((cU k x1 0).bind (fun q=>Sum.elim (fun x3=>(some (-1))) (fun x3=>(some x3)) q))
def iT (k:Nat) (x1:aL):Option Bool:=((kC k x1).bind fun x2=>(some (!ltI x2 0)))
def mP (k:Nat) (x1:Int) (x2:aL) (x3:Bool) (x4:Int):Option Bool:=(if ltI x1 0=true then (some false) else (if ltI 3 x1=true then (some false) else (if ltI 50 (nI x2.length)=true then (some false) else ((iT k x2).bind fun x5=>(if x5=true then (some false) else (if eqI x4 1=true then (if eqI x1 3=true then (some true) else (if eqI x4 0=true then (if x3=true then (some (eqI x1 1)) else (some true)) else (some false))) else (if eqI x1 3=true then (some (eqI x4 2)) else (if eqI x4 0=true then (if x3=true then (some (eqI x1 1)) else (some true)) else (some false)))))))))
def vM (k:Nat) (x1:Int) (x2:aL) (x3:Bool) (x4:Int) (x5:Int) (x6:Int):Option (Int × aL × Bool × Int × Int):=((nP k x1 x2 x3 x4).bind fun x7=>((mP k x1 x2 x3 x4).bind fun x8=>(if x8=true then (if (hU x5 x6)=true then (some (x1,x2,x3,x4,2)) else (if eqI x1 0=true then (if ltI (nI x2.length) 50=true then (if dV (((x2++[(x5,x6)]).length)*16)=true then (some (x1,(x2++[(x5,x6)]),x3,x4,0)) else none) else (some (x1,x2,x3,x4,6))) else (some (x1,x2,x3,x4,13)))) else (some (x1,x2,x3,x4,2)))))
def gI:Nat→aL→Int→Int→Option (Sum (Unit) (Int))
 | 0,_,_,_=>none
 | k+1,x1,x2,dN=>(if ltI dN (nI x1.length)=true then (if inI dN x1.length=true then ((x1[tN dN]?).bind fun nJ=>(if eqI nJ.1 x2=true then (some (.inr nJ.2)) else (gI k x1 x2 (aM .i64 dN 1)))) else none) else (some (.inl ())))
def pT (k:Nat) (x1:aL) (x2:Int):Option Int:=((gI k x1 x2 0).bind (fun q=>Sum.elim (fun x4=>(some 0)) (fun x4=>(some x4)) q))
def iY (k:Nat) (x1:Int) (x2:aL) (x3:Bool) (x4:Int):Option Ty6:=((fH k x2).bind fun x5=>(some (x1,x2,x3,x4)))
def tS (k:Nat) (x1:Int) (x2:aL) (x3:Bool) (x4:Int) (x5:Bool):Option (Int × aL × Bool × Int × Int):=((iY k x1 x2 x3 x4).bind fun x6=>((mP k x6.1 x6.2.1 x6.2.2.1 x6.2.2.2).bind fun x7=>(if x7=true then (if eqI x6.1 0=true then (if x5=true then (some (1,x6.2.1,x6.2.2.1,x6.2.2.2,0)) else (some (2,x6.2.1,x6.2.2.1,x6.2.2.2,0))) else (some (x6.1,x6.2.1,x6.2.2.1,x6.2.2.2,13))) else (some (x6.1,x6.2.1,x6.2.2.1,x6.2.2.2,2)))))
def iB (k:Nat) (x1:aL):Option Unit:=(if dV (x1.length*16)=true then (some ()) else none)
def oF:Unit:=()
def m7 (k:Nat) (x1:aL):Option Unit:=iB k x1
def d8:Nat→aL→Int→Option z7
 | 0,_,_=>none
 | k+1,x1,bX=>(if ltI bX (nI x1.length)=true then (if inI bX x1.length=true then ((x1[tN bX]?).bind fun iR=>(if ltI iR.1 64=true then (if eqI iR.2 0=true then (some (.inr false)) else (if ltI 0 bX=true then (if inI (sO .i64 bX 1) x1.length=true then ((x1[tN (sO .i64 bX 1)]?).bind fun uN=>(if ltI uN.1 iR.1=true then (d8 k x1 (aM .i64 bX 1)) else (some (.inr false)))) else none) else (d8 k x1 (aM .i64 bX 1)))) else (some (.inr false)))) else none) else (some (.inl ())))
def oQ (k:Nat) (x1:aL):Option Bool:=((d8 k x1 0).bind (fun q=>Sum.elim (fun x3=>(some true)) (fun x3=>(some x3)) q))
def xA (x1:Int) (x2:Int):Unit:=()
def cJ:Nat→aL→Int→Option (Sum (Unit) (Int))
 | 0,_,_=>none
 | k+1,x1,cE=>(if ltI cE (nI x1.length)=true then (if inI cE x1.length=true then ((x1[tN cE]?).bind fun jB=>(if ltI jB.1 64=true then (cJ k x1 (aM .i64 cE 1)) else (some (.inr cE)))) else none) else (some (.inl ())))
def jA (k:Nat) (x1:aL):Option Int:=((cJ k x1 0).bind (fun q=>Sum.elim (fun x3=>(some (-1))) (fun x3=>(some x3)) q))
def gW (k:Nat) (x1:aL):Option Bool:=((jA k x1).bind fun x2=>(some (!ltI x2 0)))
def vJ (x1:Int) (x2:Int) (x3:Int):Unit:=()
def aZ:Nat→aL→Int→Int→Int→Option (Int)
 | 0,_,_,_,_=>none
 | k+1,x1,x2,cF,cQ=>(if ltI cF cQ=true then (if inI (conv .i64 (sH .u64 (conv .u64 (aM .i64 cF cQ)) 1)) x1.length=true then ((x1[tN (conv .i64 (sH .u64 (conv .u64 (aM .i64 cF cQ)) 1))]?).bind fun kT=>(if ltI (bK kT.1 x2) 0=true then (aZ k x1 x2 (aM .i64 (conv .i64 (sH .u64 (conv .u64 (aM .i64 cF cQ)) 1)) 1) cQ) else (aZ k x1 x2 cF (conv .i64 (sH .u64 (conv .u64 (aM .i64 cF cQ)) 1))))) else none) else (some cF))
def eT (k:Nat) (x1:aL) (x2:Int):Option (Int × Bool):=((aZ k x1 x2 0 (nI x1.length)).bind (fun x4=>(if ltI x4 (nI x1.length)=true then (if inI x4 x1.length=true then ((x1[tN x4]?).bind fun x5=>(some (x4,eqI (bK x5.1 x2) 0))) else none) else (some (x4,false)))))
def p8 (k:Nat) (x1:aL) (x2:Int):Option (Int × Bool):=((eT k x1 x2).bind fun x3=>(some (x3.1,x3.2)))
def o5 (k:Nat) (x1:Int) (x2:Int) (x3:aL):Option aL:=delP x1 x2 x3
def mC (k:Nat) (x1:Int) (x2:aL) (x3:aL):Option aL:=aEI 16 x1 x2 x3
def m6 (k:Nat) (x1:Int) (x2:Int) (x3:aL):Option aL:=delP x1 x2 x3
def eK:Nat→aL→Int→aL→Option (aL)
 | 0,_,_,_=>none
 | k+1,x2,cG,aQ=>(if ltI cG (nI x2.length)=true then (if inI cG x2.length=true then ((x2[tN cG]?).bind fun bC=>((p8 k aQ bC.1).bind fun aU=>(if aU.2=true then (if inI aU.1 aQ.length=true then ((aQ[tN aU.1]?).bind fun aS=>(((List.set aQ (tN aU.1) (aS.1,aM .i64 aS.2 bC.2))[tN aU.1]?).bind fun bL=>(if eqI bL.2 0=true then ((o5 k aU.1 (aM .i64 aU.1 1) (List.set aQ (tN aU.1) (aS.1,aM .i64 aS.2 bC.2))).bind fun gN=>(eK k x2 (aM .i64 cG 1) gN)) else (eK k x2 (aM .i64 cG 1) (List.set aQ (tN aU.1) (aS.1,aM .i64 aS.2 bC.2)))))) else none) else ((mC k aU.1 aQ [(bC.1,0)]).bind fun aS=>(if inI aU.1 aS.length=true then ((aS[tN aU.1]?).bind fun bL=>(((List.set aS (tN aU.1) (bL.1,aM .i64 bL.2 bC.2))[tN aU.1]?).bind fun gN=>(if eqI gN.2 0=true then ((m6 k aU.1 (aM .i64 aU.1 1) (List.set aS (tN aU.1) (bL.1,aM .i64 bL.2 bC.2))).bind fun lK=>(eK k x2 (aM .i64 cG 1) lK)) else (eK k x2 (aM .i64 cG 1) (List.set aS (tN aU.1) (bL.1,aM .i64 bL.2 bC.2)))))) else none))))) else none) else (some aQ))
def lL (k:Nat) (x1:aL) (x2:aL):Option (aL × Int):=((m7 k x1).bind fun x3=>((oQ k x1).bind fun x4=>(if x4=true then ((gW k x2).bind fun x5=>(if x5=true then (some (x1,2)) else ((eK k x2 0 x1).bind (fun x7=>(some (x7,0)))))) else (some (x1,2)))))
def y7 (x1:Int) (x2:Int) (x3:Bool) (x4:Int):Unit:=()
def bY:Nat→Ty8→Int→Int→Option (Sum (Unit) (Int))
 | 0,_,_,_=>none
 | k+1,x1,x2,cX=>(if ltI cX (nI x1.length)=true then (if inI cX x1.length=true then ((x1[tN cX]?).bind fun iS=>(if eqI iS.2.1 x2=true then (some (.inr cX)) else (bY k x1 x2 (aM .i64 cX 1)))) else none) else (some (.inl ())))
def iU (k:Nat) (x1:Ty8) (x2:Int):Option Int:=((bY k x1 x2 0).bind (fun q=>Sum.elim (fun x4=>(some (-1))) (fun x4=>(some x4)) q))
def cC:Nat→Ty8→Int→Int→Int→Ty8→Option (Int × Ty8)
 | 0,_,_,_,_,_=>none
 | k+1,x1,x2,cY,cL,cZ=>(if ltI cY (nI x1.length)=true then (if inI cY x1.length=true then ((cZ[tN cY]?).bind fun eV=>(if eqI eV.2.1 x2=true then (cC k x1 x2 (aM .i64 cY 1) cL cZ) else (if inI cL x1.length=true then ((cZ[tN cL]?).bind fun aLS=>(cC k x1 x2 (aM .i64 cY 1) (aM .i64 cL 1) (List.set cZ (tN cL) eV))) else none))) else none) else (some (cL,cZ)))
def jN (k:Nat) (x1:Ty8) (x2:Int):Option (Nat × Ty8):=((iU k x1 x2).bind fun x3=>(if eqI x3 (-1)=true then (some (x1.length,x1)) else ((cC k x1 x2 (aM .i64 x3 1) x3 x1).bind (fun x5=>(if isZ x1.length=true then none else (if s6 x1.length x5.2.length=true then (if leI x5.1 x1.length=true then (if isZ (x1.length - (tN x5.1))=true then (if leI x5.1 x5.2.length=true then (some (tN x5.1,x5.2)) else none) else (if s6 (tN x5.1+(x1.length - (tN x5.1))) x5.2.length=true then (if s6 (tN x5.1) x5.2.length=true then (if s6 x1.length ((((List.take (tN x5.1) x5.2)++(List.replicate (x1.length - (tN x5.1)) (0,0,false)))++(List.drop (tN x5.1+(x1.length - (tN x5.1))) x5.2)).length)=true then (if leI x5.1 ((((List.take (tN x5.1) x5.2)++(List.replicate (x1.length - (tN x5.1)) (0,0,false)))++(List.drop (tN x5.1+(x1.length - (tN x5.1))) x5.2)).length)=true then (some (tN x5.1,(((List.take (tN x5.1) x5.2)++(List.replicate (x1.length - (tN x5.1)) (0,0,false)))++(List.drop (tN x5.1+(x1.length - (tN x5.1))) x5.2)))) else none) else none) else none) else none)) else none) else none))))))
def oT (k:Nat) (x1:Ty8) (x2:Int):Option Ty8:=((oS k x1).bind fun x3=>((jN k x1 x2).bind fun x4=>(if s6 x4.1 x4.2.length=true then (some (List.take x4.1 x4.2)) else none)))
def rR (k:Nat) (x1:Int) (x2:aL) (x3:Bool) (x4:Int):Option (Int × aL × Bool × Int × aL × Int):=((iY k x1 x2 x3 x4).bind fun x5=>((mP k x5.1 x5.2.1 x5.2.2.1 x5.2.2.2).bind fun x6=>(if x6=true then (if eqI x5.1 1=true then (if x5.2.2.1=true then (some (x5.1,x5.2.1,x5.2.2.1,x5.2.2.2,[],8)) else ((fH k x5.2.1).bind fun x7=>(some (x5.1,x5.2.1,true,x5.2.2.2,x5.2.1,0)))) else (some (x5.1,x5.2.1,x5.2.2.1,x5.2.2.2,[],13))) else (some (x5.1,x5.2.1,x5.2.2.1,x5.2.2.2,[],2)))))
def mE (k:Nat) (x1:aL):Option aL:=oppP x1
def nX (k:Nat) (x1:Int) (x2:aL) (x3:Bool) (x4:Int) (x5:Int):Option (Int × aL × Bool × Int × aL × Int):=((iY k x1 x2 x3 x4).bind fun x6=>((mP k x6.1 x6.2.1 x6.2.2.1 x6.2.2.2).bind fun x7=>(if x7=true then (if eqI x5 1=true then (if eqI x6.2.2.2 x5=true then (some (x6.1,x6.2.1,x6.2.2.1,x6.2.2.2,[],0)) else (if eqI x6.1 3=true then (some (x6.1,x6.2.1,x6.2.2.1,x6.2.2.2,[],13)) else (if eqI x6.1 1=true then (if eqB (eqI x5 1) x6.2.2.1=true then (some (3,x6.2.1,x6.2.2.1,x5,[],0)) else (if x6.2.2.1=true then ((mE k x6.2.1).bind fun x8=>(some (3,x6.2.1,x6.2.2.1,x5,x8,0))) else ((fH k x6.2.1).bind fun x8=>(some (3,x6.2.1,x6.2.2.1,x5,x6.2.1,0))))) else (some (x6.1,x6.2.1,x6.2.2.1,x6.2.2.2,[],13))))) else (if eqI x5 2=true then (if eqI x6.2.2.2 x5=true then (some (x6.1,x6.2.1,x6.2.2.1,x6.2.2.2,[],0)) else (if eqI x6.1 3=true then (some (x6.1,x6.2.1,x6.2.2.1,x6.2.2.2,[],13)) else (if eqB (eqI x5 1) x6.2.2.1=true then (some (3,x6.2.1,x6.2.2.1,x5,[],0)) else (if x6.2.2.1=true then ((mE k x6.2.1).bind fun x8=>(some (3,x6.2.1,x6.2.2.1,x5,x8,0))) else ((fH k x6.2.1).bind fun x8=>(some (3,x6.2.1,x6.2.2.1,x5,x6.2.1,0))))))) else (some (x6.1,x6.2.1,x6.2.2.1,x6.2.2.2,[],2)))) else (some (x6.1,x6.2.1,x6.2.2.1,x6.2.2.2,[],2)))))
def rV (x1:aL) (x2:Ty8) (x3:Ty2) (x4:Ty7):Unit:=()
def bV:Nat→aL→Int→Int→Int→Int→aL→Ty8→Ty2→Ty7→(Ty8 × Int)→Int→Int→Option (Int)
 | 0,_,_,_,_,_,_,_,_,_,_,_,_=>none
 | k+1,x2,x5,x6,x7,x8,x9,x10,x11,x12,x13,cV,cH=>(if ltI cH (nI x2.length)=true then (if inI cH x2.length=true then ((x2[tN cH]?).bind fun lA=>(if eqI lA.1 x7=true then (bV k x2 x5 x6 x7 x8 x9 x10 x11 x12 x13 (aM .i64 cV lA.2) (aM .i64 cH 1)) else (bV k x2 x5 x6 x7 x8 x9 x10 x11 x12 x13 cV (aM .i64 cH 1)))) else none) else (some cV))
def g9 (k:Nat) (x1:Int) (x2:aL) (x3:Bool) (x4:Int) (x5:Int) (x6:Int) (x7:Int) (x8:Int) (x9:aL) (x10:Ty8) (x11:Ty2) (x12:Ty7):Option (Ty8 × Ty2 × Int × Int):=(if eqI x1 0=true then ((tU k x10 x6 x7 (eqI x5 3)).bind fun x13=>(if eqI x13.2 0=true then (if eqI x5 3=true then ((vM k x1 x2 x3 x4 x7 x8).bind fun x14=>(if eqI x14.2.2.2.2 0=true then (if lS x11 x6=true then ((bN x11 x6).bind fun x15=>(some (x13.1,(bE x11 x6 (x14.1,x14.2.1,x14.2.2.1,x14.2.2.2.1)),0,0))) else (some (x13.1,(bE x11 x6 (x14.1,x14.2.1,x14.2.2.1,x14.2.2.2.1)),0,0))) else (some (x10,x11,x14.2.2.2.2,0)))) else ((pT k x9 x7).bind fun x14=>((bV k x2 x5 x6 x7 x8 x9 x10 x11 x12 x13 x14 0).bind (fun x16=>(some (x13.1,x11,0,x16)))))) else (some (x10,x11,x13.2,0)))) else (some (x10,x11,13,0)))
def k7 (k:Nat) (x1:Int) (x2:aL) (x3:Bool) (x4:Int) (x5:Int) (x6:Int) (x7:Int) (x8:Int) (x9:aL) (x10:Ty8) (x11:Ty2) (x12:Ty7):Option (aL × Ty8 × Ty2 × Int):=(if eqI x5 4=true then ((tS k x1 x2 x3 x4 (!eqI x8 0)).bind fun x13=>(if eqI x13.2.2.2.2 0=true then ((lL k x9 []).bind fun x14=>(if eqI x13.1 2=true then ((oT k x10 x6).bind fun x15=>(some (x14.1,x15,(bE x11 x6 (x13.1,x13.2.1,x13.2.2.1,x13.2.2.2.1)),0))) else (some (x14.1,x10,(bE x11 x6 (x13.1,x13.2.1,x13.2.2.1,x13.2.2.2.1)),0)))) else (some (x9,x10,x11,x13.2.2.2.2)))) else (if eqI x5 5=true then ((rR k x1 x2 x3 x4).bind fun x13=>(if eqI x13.2.2.2.2.2 0=true then ((lL k x9 x13.2.2.2.2.1).bind fun x14=>((oT k x10 x6).bind fun x15=>(some (x14.1,x15,(bE x11 x6 (x13.1,x13.2.1,x13.2.2.1,x13.2.2.2.1)),0)))) else (some (x9,x10,x11,x13.2.2.2.2.2)))) else (if eqI x8 1=true then ((nX k x1 x2 x3 x4 x8).bind fun x13=>(if eqI x13.2.2.2.2.2 0=true then ((lL k x9 x13.2.2.2.2.1).bind fun x14=>((oT k x10 x6).bind fun x15=>(some (x14.1,x15,(bE x11 x6 (x13.1,x13.2.1,x13.2.2.1,x13.2.2.2.1)),0)))) else (some (x9,x10,x11,x13.2.2.2.2.2)))) else (if eqI x8 2=true then ((nX k x1 x2 x3 x4 x8).bind fun x13=>(if eqI x13.2.2.2.2.2 0=true then ((lL k x9 x13.2.2.2.2.1).bind fun x14=>((oT k x10 x6).bind fun x15=>(some (x14.1,x15,(bE x11 x6 (x13.1,x13.2.1,x13.2.2.1,x13.2.2.2.1)),0)))) else (some (x9,x10,x11,x13.2.2.2.2.2)))) else (some (x9,x10,x11,2))))))
def i9 (k:Nat) (x1:Int) (x2:aL) (x3:Bool) (x4:Int) (x5:Int) (x6:Int) (x7:Int) (x8:Int) (x9:aL) (x10:Ty8) (x11:Ty2) (x12:Ty7):Option (Int × Int × Ty8 × Ty2 × aL):=(if eqI x5 1=true then (some (0,0,x10,(bE x11 x6 (x1,x2,x3,x4)),x9)) else (if eqI x5 2=true then ((g9 k x1 x2 x3 x4 x5 x6 x7 x8 x9 x10 x11 x12).bind fun x13=>(some (x13.2.2.2,x13.2.2.1,x13.1,x13.2.1,x9))) else (if eqI x5 3=true then ((g9 k x1 x2 x3 x4 x5 x6 x7 x8 x9 x10 x11 x12).bind fun x13=>(some (x13.2.2.2,x13.2.2.1,x13.1,x13.2.1,x9))) else ((k7 k x1 x2 x3 x4 x5 x6 x7 x8 x9 x10 x11 x12).bind fun x13=>(some (0,x13.2.2.2,x13.2.1,x13.2.2.1,x13.1))))))
def kL (k:Nat) (x1:Int) (x2:Int) (x3:Int) (x4:Int) (x5:aL) (x6:Ty8) (x7:Ty2) (x8:Ty7):Option (Int × Int × aL × Ty8 × Ty2 × Ty7):=(if ltI x1 1=true then (some (2,0,x5,x6,x7,x8)) else (if ltI 6 x1=true then (some (2,0,x5,x6,x7,x8)) else (if ltI x2 0=true then (some (2,0,x5,x6,x7,x8)) else (if ltI x2 1000=true then (if lS x7 x2=true then ((bN x7 x2).bind fun x9=>(if eqB true (eqI x1 1)=true then (some (8,0,x5,x6,x7,x8)) else ((i9 k x9.1 x9.2.1 x9.2.2.1 x9.2.2.2 x1 x2 x3 x4 x5 x6 x7 x8).bind fun x10=>(if eqI x10.2.1 0=true then (if dV (((x8++[(x1,x2,x3,x4)]).length)*32)=true then (some (0,x10.1,x10.2.2.2.2,x10.2.2.1,x10.2.2.2.1,(x8++[(x1,x2,x3,x4)]))) else none) else (some (x10.2.1,0,x10.2.2.2.2,x10.2.2.1,x10.2.2.2.1,x8)))))) else (if eqB false (eqI x1 1)=true then (some (7,0,x5,x6,x7,x8)) else ((i9 k 0 [] false 0 x1 x2 x3 x4 x5 x6 x7 x8).bind fun x9=>(if eqI x9.2.1 0=true then (if dV (((x8++[(x1,x2,x3,x4)]).length)*32)=true then (some (0,x9.1,x9.2.2.2.2,x9.2.2.1,x9.2.2.2.1,(x8++[(x1,x2,x3,x4)]))) else none) else (some (x9.2.1,0,x9.2.2.2.2,x9.2.2.1,x9.2.2.2.1,x8)))))) else (some (2,0,x5,x6,x7,x8))))))
def fI:Nat→Ty7→Int→aL→Ty8→Ty2→Ty7→Option Ty0
 | 0,_,_,_,_,_,_=>none
 | k+1,x1,dO,eM,eN,eG,eH=>(if ltI dO (nI x1.length)=true then (if inI dO x1.length=true then ((x1[tN dO]?).bind fun fD=>((kL k fD.1 fD.2.1 fD.2.2.1 fD.2.2.2 eM eN eG eH).bind fun dA=>(if eqI dA.1 0=true then (fI k x1 (aM .i64 dO 1) dA.2.2.1 dA.2.2.2.1 dA.2.2.2.2.1 dA.2.2.2.2.2) else (some (.inr (.inr ())))))) else none) else (some (.inl (eM,eN,eG,eH))))
def qG (k:Nat) (x1:Ty7):Option Ty1:=((fI k x1 0 [] [] ([]:Ty2) []).bind (fun q=>Sum.elim (fun x3=>(some (.inl (x3.1,x3.2.1,x3.2.2.1,x3.2.2.2)))) (fun x3=>(some x3)) q))
def fL:Nat→Ty7→Int→aL→Option (aL)
 | 0,_,_,_=>none
 | k+1,x1,eI,eL=>(if ltI eI (nI x1.length)=true then (if inI eI x1.length=true then ((x1[tN eI]?).bind fun g8=>(if eqI g8.1 6=true then (fL k x1 (aM .i64 eI 1) (bE eL g8.2.1 g8.2.2.2)) else (fL k x1 (aM .i64 eI 1) eL))) else none) else (some eL))
def kK (k:Nat) (x1:Ty7):Option (Sum (aL) (Unit)):=((qG k x1).bind (fun q=>Sum.elim (fun x3=>((fL k x1 0 ([]:aL)).bind (fun x5=>(some (.inl x5))))) (fun x3=>(some (.inr ()))) q))
def gJ:Nat→Ty7→Int→Option (Unit)
 | 0,_,_=>none
 | k+1,x1,fJ=>(if ltI fJ (nI x1.length)=true then (if inI fJ x1.length=true then ((x1[tN fJ]?).bind fun zE=>(gJ k x1 (aM .i64 fJ 1))) else none) else (some ()))
def eB:Nat→Ty7→aL→Int→Int→Option (Int)
 | 0,_,_,_,_=>none
 | k+1,x1,x3,eO,dY=>(if ltI dY (nI x1.length)=true then (if inI dY x1.length=true then ((x1[tN dY]?).bind fun kU=>(if eqI kU.1 5=true then (if lS x3 kU.2.1=true then ((bN x3 kU.2.1).bind fun zF=>(if eqI zF 2=true then (eB k x1 x3 (aM .i64 eO 1) (aM .i64 dY 1)) else (eB k x1 x3 eO (aM .i64 dY 1)))) else (eB k x1 x3 eO (aM .i64 dY 1))) else (eB k x1 x3 eO (aM .i64 dY 1)))) else none) else (some eO))
def mM (k:Nat) (x1:Ty7):Option (Int × Int):=((kK k x1).bind (fun q=>Sum.elim (fun x3=>((eB k x1 x3 0 0).bind (fun x5=>(some (x5,0))))) (fun x3=>((gJ k x1 0).bind (fun x5=>(some (0,4))))) q))
def dF:Nat→Ty7→aL→Int→aL→Option (aL)
 | 0,_,_,_,_=>none
 | k+1,x1,x3,cI,aR=>(if ltI cI (nI x1.length)=true then (if inI cI x1.length=true then ((x1[tN cI]?).bind fun cK=>(if eqI cK.1 3=true then (if lS x3 cK.2.1=true then ((bN x3 cK.2.1).bind fun uO=>(if eqI uO 1=true then (if dV (((aR++[cK.2.2]).length)*16)=true then (dF k x1 x3 (aM .i64 cI 1) (aR++[cK.2.2])) else none) else (dF k x1 x3 (aM .i64 cI 1) aR))) else (dF k x1 x3 (aM .i64 cI 1) aR)) else (dF k x1 x3 (aM .i64 cI 1) aR))) else none) else (some aR))
def lI (k:Nat) (x1:Ty7):Option (aL × Int):=((kK k x1).bind (fun q=>Sum.elim (fun x3=>((dF k x1 x3 0 []).bind (fun x5=>((lL k [] x5).bind fun x6=>(some (x6.1,x6.2)))))) (fun x3=>(some ([],4))) q))
def qH (x1:aL):Bool:=kZ (x1++x1)
def pF (x1:aL) (x2:aL):Bool:=kZ (x1++x2)
def qA (k:Nat):Option Bool:=(if eqI (nI aC.length) 0=true then (some false) else ((kK k aC).bind (fun q=>Sum.elim (fun x2=>((mM k aC).bind fun x3=>((lI k aC).bind fun x4=>(if leI 1 aC.length=true then ((kK k (List.drop 1 aC)).bind (fun q=>Sum.elim (fun x6=>(if eqI (nI x2.length) 1=true then (if lS x2 1=true then ((bN x2 1).bind fun x7=>(if eqI x7 2=true then (if eqI x3.1 1=true then (if eqI x3.2 0=true then (if eqI (nI x4.1.length) 0=true then (if eqI x4.2 0=true then (some false) else (some false)) else (some false)) else (some false)) else (some false)) else (some false))) else (some false)) else (some false))) (fun x6=>(if eqI (nI x2.length) 1=true then (if lS x2 1=true then ((bN x2 1).bind fun x7=>(if eqI x7 2=true then (if eqI x3.1 1=true then (if eqI x3.2 0=true then (if eqI (nI x4.1.length) 0=true then (if eqI x4.2 0=true then (if (qH x2)=true then (some (!(pF x2 (bE ([]:aL) 1 1)))) else (some false)) else (some false)) else (some false)) else (some false)) else (some false)) else (some false))) else (some false)) else (some false))) q)) else none)))) (fun x2=>((mM k aC).bind fun x3=>((lI k aC).bind fun x4=>(if leI 1 aC.length=true then ((kK k (List.drop 1 aC)).bind (fun q=>Sum.elim (fun x6=>(some false)) (fun x6=>(some false)) q)) else none)))) q)))
def iA (k:Nat) (x1:Ty7):Option Unit:=(if dV (x1.length*32)=true then (some ()) else none)
def oI:Unit:=()
def nE (k:Nat) (x1:Ty7):Option Unit:=iA k x1
def nM (k:Nat) (x1:aL) (x2:Ty8) (x3:Ty2) (x4:Ty7):Option Unit:=((nE k x4).bind fun x5=>(some ()))
def rU (x1:aL) (x2:Ty8) (x3:Ty2) (x4:Ty7):Unit:=()
def iQ:Nat→Int→aL→Bool→Int→Int→Option z7
 | 0,_,_,_,_,_=>none
 | k+1,x1,x2,x3,x4,gO=>(if ltI gO (nI x2.length)=true then (if inI gO x2.length=true then ((x2[tN gO]?).bind fun aGV=>(if ltI aGV.1 64=true then (iQ k x1 x2 x3 x4 (aM .i64 gO 1)) else (some (.inr false)))) else none) else (some (.inl ())))
def fG:Nat→aL→Int→aL→Option (aL)
 | 0,_,_,_=>none
 | k+1,x1,gP,iH=>(if ltI gP 0=true then (some iH) else (if inI gP x1.length=true then ((x1[tN gP]?).bind fun rG=>(if dV (((iH++[(rG.1,aBK .i64 rG.2)]).length)*16)=true then (fG k x1 (sO .i64 gP 1) (iH++[(rG.1,aBK .i64 rG.2)])) else none)) else none))
def nQ (x1:Int) (x2:Int):Bool:=(if ltI x2 64=true then (if ltI x1 0=true then false else ltI x1 1000) else false)
def eF:Nat→Ty8→Ty11→Int→Int→Option (Sum (Int) (Bool))
 | 0,_,_,_,_=>none
 | k+1,x1,b6,eP,fX=>(if ltI eP (nI x1.length)=true then (if eqI eP fX=true then (eF k x1 b6 (aM .i64 eP 1) fX) else (if inI eP x1.length=true then ((x1[tN eP]?).bind fun aGW=>(if eqI aGW.1 b6.1=true then (if b6.2.2=true then (some (.inr false)) else (eF k x1 b6 (aM .i64 eP 1) fX)) else (eF k x1 b6 (aM .i64 eP 1) fX))) else none)) else (some (.inl fX)))
def gD:Nat→Ty8→Int→Option z7
 | 0,_,_=>none
 | k+1,x1,dP=>(if ltI dP (nI x1.length)=true then (if inI dP x1.length=true then ((x1[tN dP]?).bind fun b6=>(if (nQ b6.2.1 b6.1)=true then (if ltI 0 dP=true then (if inI (sO .i64 dP 1) x1.length=true then ((x1[tN (sO .i64 dP 1)]?).bind fun uP=>(if ltI uP.1 b6.1=true then ((eF k x1 b6 0 dP).bind (fun q=>Sum.elim (fun kV=>(gD k x1 (aM .i64 kV 1))) (fun kV=>(some (.inr kV))) q)) else (if eqI uP.1 b6.1=true then (if ltI uP.2.1 b6.2.1=true then ((eF k x1 b6 0 dP).bind (fun q=>Sum.elim (fun kV=>(gD k x1 (aM .i64 kV 1))) (fun kV=>(some (.inr kV))) q)) else (some (.inr false))) else (some (.inr false))))) else none) else ((eF k x1 b6 0 dP).bind (fun q=>Sum.elim (fun uQ=>(gD k x1 (aM .i64 uQ 1))) (fun uQ=>(some (.inr uQ))) q))) else (some (.inr false)))) else none) else (some (.inl ())))
def gZ:Nat→Ty8→Int→Int→Int→Option (Sum (Unit) (Int))
 | 0,_,_,_,_=>none
 | k+1,x1,x2,x3,fY=>(if ltI fY (nI x1.length)=true then (if inI fY x1.length=true then ((x1[tN fY]?).bind fun uR=>(if eqI uR.1 x3=true then (if eqI uR.2.1 x2=true then (if uR.2.2=true then (some (.inr 2)) else (some (.inr 1))) else (gZ k x1 x2 x3 (aM .i64 fY 1))) else (gZ k x1 x2 x3 (aM .i64 fY 1)))) else none) else (some (.inl ())))
def bW:Nat→Ty8→Int→Int→Bool→Int→Ty8→Bool→Option (Bool × Bool × Ty8)
 | 0,_,_,_,_,_,_,_=>none
 | k+1,x1,x2,x3,cT,bI,aW,aX=>(if ltI bI (nI x1.length)=true then (if cT=true then (if inI bI x1.length=true then ((x1[tN bI]?).bind fun aY=>(if eqI aY.1 x3=true then (if eqI aY.2.1 x2=true then (bW k x1 x2 x3 cT (aM .i64 bI 1) aW aX) else (if dV (((aW++[aY]).length)*24)=true then (bW k x1 x2 x3 cT (aM .i64 bI 1) (aW++[aY]) aX) else none)) else (if dV (((aW++[aY]).length)*24)=true then (bW k x1 x2 x3 cT (aM .i64 bI 1) (aW++[aY]) aX) else none))) else none) else (if inI bI x1.length=true then ((x1[tN bI]?).bind fun aY=>(if ltI x3 aY.1=true then (if dV (((aW++[(x3,x2,aX)]).length)*24)=true then (if eqI aY.1 x3=true then (if eqI aY.2.1 x2=true then (bW k x1 x2 x3 true (aM .i64 bI 1) (aW++[(x3,x2,aX)]) aX) else (if dV ((((aW++[(x3,x2,aX)])++[aY]).length)*24)=true then (bW k x1 x2 x3 true (aM .i64 bI 1) ((aW++[(x3,x2,aX)])++[aY]) aX) else none)) else (if dV ((((aW++[(x3,x2,aX)])++[aY]).length)*24)=true then (bW k x1 x2 x3 true (aM .i64 bI 1) ((aW++[(x3,x2,aX)])++[aY]) aX) else none)) else none) else (if eqI x3 aY.1=true then (if ltI aY.2.1 x2=true then (if eqI aY.1 x3=true then (if eqI aY.2.1 x2=true then (bW k x1 x2 x3 cT (aM .i64 bI 1) aW aX) else (if dV (((aW++[aY]).length)*24)=true then (bW k x1 x2 x3 cT (aM .i64 bI 1) (aW++[aY]) aX) else none)) else (if dV (((aW++[aY]).length)*24)=true then (bW k x1 x2 x3 cT (aM .i64 bI 1) (aW++[aY]) aX) else none)) else (if dV (((aW++[(x3,x2,aX)]).length)*24)=true then (if eqI aY.1 x3=true then (if eqI aY.2.1 x2=true then (bW k x1 x2 x3 true (aM .i64 bI 1) (aW++[(x3,x2,aX)]) aX) else (if dV ((((aW++[(x3,x2,aX)])++[aY]).length)*24)=true then (bW k x1 x2 x3 true (aM .i64 bI 1) ((aW++[(x3,x2,aX)])++[aY]) aX) else none)) else (if dV ((((aW++[(x3,x2,aX)])++[aY]).length)*24)=true then (bW k x1 x2 x3 true (aM .i64 bI 1) ((aW++[(x3,x2,aX)])++[aY]) aX) else none)) else none)) else (if eqI aY.1 x3=true then (if eqI aY.2.1 x2=true then (bW k x1 x2 x3 cT (aM .i64 bI 1) aW aX) else (if dV (((aW++[aY]).length)*24)=true then (bW k x1 x2 x3 cT (aM .i64 bI 1) (aW++[aY]) aX) else none)) else (if dV (((aW++[aY]).length)*24)=true then (bW k x1 x2 x3 cT (aM .i64 bI 1) (aW++[aY]) aX) else none))))) else none)) else (some (cT,aX,aW)))
def g4:Nat→Ty8→Int→Int→Bool→Int→Option (Sum (Unit) (Ty8 × Int))
 | 0,_,_,_,_,_=>none
 | k+1,x1,x2,x3,x4,fE=>(if ltI fE (nI x1.length)=true then (if inI fE x1.length=true then ((x1[tN fE]?).bind fun uS=>(if eqI uS.1 x3=true then (if eqI uS.2.1 x2=true then (g4 k x1 x2 x3 x4 (aM .i64 fE 1)) else (if x4=true then (some (.inr (x1,9))) else (if uS.2.2=true then (some (.inr (x1,9))) else (g4 k x1 x2 x3 x4 (aM .i64 fE 1))))) else (g4 k x1 x2 x3 x4 (aM .i64 fE 1)))) else none) else (some (.inl ())))
def g7:Nat→aL→Int→Int→Option (Sum (Unit) (Int))
 | 0,_,_,_=>none
 | k+1,x1,x2,dQ=>(if ltI dQ (nI x1.length)=true then (if inI dQ x1.length=true then ((x1[tN dQ]?).bind fun oN=>(if eqI oN.1 x2=true then (some (.inr oN.2)) else (g7 k x1 x2 (aM .i64 dQ 1)))) else none) else (some (.inl ())))
def tP (k:Nat) (x1:aL) (x2:Int):Option Int:=((g7 k x1 x2 0).bind (fun q=>Sum.elim (fun x4=>(some 0)) (fun x4=>(some x4)) q))
def mD (k:Nat) (x1:Int) (x2:aL) (x3:Ty8) (x4:Ty2) (x5:Ty7):Option (Int × Bool × Int × aL × Bool):=(if lS x4 x1=true then ((bN x4 x1).bind fun x6=>((fH k x6.2.1).bind fun x7=>(some (x6.1,x6.2.2.1,x6.2.2.2,x6.2.1,true)))) else ((fH k []).bind fun x6=>(some (0,false,0,[],false))))
def nL (k:Nat) (x1:Int) (x2:aL) (x3:Ty8) (x4:Ty2) (x5:Ty7):Option Int:=((pT k x2 x1).bind fun x6=>(some x6))
def cR:Nat→(aL × Ty8 × Ty2 × Ty7)→(aL × Int)→Bool→Int→Option z7
 | 0,_,_,_,_=>none
 | k+1,x4,x6,x10,dW=>(if ltI dW 64=true then (if x10=true then ((nL k dW x4.1 x4.2.1 x4.2.2.1 x4.2.2.2).bind fun tO=>((tP k x6.1 dW).bind fun xK=>(if eqI tO xK=true then (cR k x4 x6 x10 (aM .u8 dW 1)) else (some (.inr false))))) else (cR k x4 x6 x10 (aM .u8 dW 1))) else (some (.inl ())))
def b7:Nat→(aL × Ty8 × Ty2 × Ty7)→(aL × Int)→aL→Bool→Int→Option (Sum (Bool) (Bool))
 | 0,_,_,_,_,_=>none
 | k+1,x4,x6,x8,fK,dC=>(if ltI dC (nI x4.2.2.2.length)=true then (if inI dC x4.2.2.2.length=true then ((x4.2.2.2[tN dC]?).bind fun eY=>((mD k eY.2.1 x4.1 x4.2.1 x4.2.2.1 x4.2.2.2).bind fun dK=>(if dK.2.2.2.2=true then (if lS x8 eY.2.1=true then ((bN x8 eY.2.1).bind fun mX=>(if eqB (eqI dK.1 3) (!eqI mX 0)=true then (if eqI dK.2.2.1 mX=true then (if fK=true then (b7 k x4 x6 x8 (eqI dK.1 3) (aM .i64 dC 1)) else (b7 k x4 x6 x8 false (aM .i64 dC 1))) else (some (.inr false))) else (some (.inr false)))) else (if eqB (eqI dK.1 3) (!eqI 0 0)=true then (if eqI dK.2.2.1 0=true then (if fK=true then (b7 k x4 x6 x8 (eqI dK.1 3) (aM .i64 dC 1)) else (b7 k x4 x6 x8 false (aM .i64 dC 1))) else (some (.inr false))) else (some (.inr false)))) else (some (.inr false))))) else none) else (some (.inl fK)))
def dD:Nat→Ty7→Int→aL→Ty8→Ty2→Ty7→Option (aL × Ty8 × Ty2 × Ty7)
 | 0,_,_,_,_,_,_=>none
 | k+1,x1,eZ,gL,gM,gB,gC=>(if ltI eZ (nI x1.length)=true then (if inI eZ x1.length=true then ((x1[tN eZ]?).bind fun kX=>((kL k kX.1 kX.2.1 kX.2.2.1 kX.2.2.2 gL gM gB gC).bind fun fZ=>(dD k x1 (aM .i64 eZ 1) fZ.2.2.1 fZ.2.2.2.1 fZ.2.2.2.2.1 fZ.2.2.2.2.2))) else none) else (some (gL,gM,gB,gC)))
def nG (k:Nat) (x1:Ty7):Option Bool:=((qA k).bind fun x2=>(if x2=true then (if ltI 100 (nI x1.length)=true then (some (!false)) else ((dD k x1 0 [] [] ([]:Ty2) []).bind (fun x4=>((nM k x4.1 x4.2.1 x4.2.2.1 x4.2.2.2).bind fun x5=>((lI k x4.2.2.2).bind fun x6=>((kK k x4.2.2.2).bind (fun q=>Sum.elim (fun x8=>(if eqI x6.2 0=true then ((b7 k x4 x6 x8 true 0).bind (fun q=>Sum.elim (fun x10=>((cR k x4 x6 x10 0).bind (fun q=>Sum.elim (fun x12=>(some true)) (fun x12=>(some x12)) q))) (fun x10=>(some x10)) q)) else (some false))) (fun x8=>(if eqI x6.2 0=true then (some false) else (some false))) q))))))) else (some false)))
end Go.Ws
