/-
  The functions as plain Lean functions. (Printed by my own program.)
  Conditions: none.
-/
import Derived.Test.YtipeekdnpocclaaZB2
import Derived.Test.YtipeekdnpocclaaZOppDef
import Derived.Test.YtipeekdnpocclaaZAgrDef
set_option linter.unusedVariables false
set_option linter.unusedSimpArgs false
namespace Go.Ws
abbrev aG:=List (Int × Int)
abbrev Ty11:=Int × Int × Bool
abbrev xE:=Sum (Unit) (Bool)
abbrev Ty9:=Int × Int × Int × Int
abbrev Ty8:=List Ty11
abbrev Ty7:=List Ty9
abbrev Ty6:=Int × aG × Bool × Int
abbrev Ty4:=Int × Ty6
abbrev Ty2:=List Ty4
abbrev Ty1:=Sum (aG × Ty8 × Ty2 × Ty7) (Unit)
abbrev Ty0:=Sum (aG × Ty8 × Ty2 × Ty7) (Ty1)
set_option linter.unusedVariables false
def aJ:Ty7:=[(1,1,0,0),(3,1,0,5),(4,1,0,1),(5,1,0,0),(6,1,0,2)]
def aHY:Unit:=()
def jH (k:Nat) (x1:Ty8):Option Unit:=(if cR (x1.length*24)=true then (some ()) else none)
def qL:Unit:=()
def oM (k:Nat) (x1:Ty8):Option Unit:=jH k x1
def iB (x1:Int) (x2:Int):Bool:=(if ltI x2 64=true then (if ltI x1 0=true then false else ltI x1 1000) else false)
def iH (x1:Int):Bool:=(!eqI x1 x1)
def bD (x1:Int) (x2:Int):Int:=(if (iH x1)=true then (if (iH x2)=true then 0 else (-1)) else (if (iH x2)=true then 1 else (if ltI x1 x2=true then (-1) else (if ltI x2 x1=true then 1 else 0))))
def eQ (x1:Int):Bool:=(!eqI x1 x1)
def dK (x1:Int) (x2:Int):Int:=(if (eQ x1)=true then (if (eQ x2)=true then 0 else (-1)) else (if (eQ x2)=true then 1 else (if ltI x1 x2=true then (-1) else (if ltI x2 x1=true then 1 else 0))))
def kT:Nat→(List Int)→Int→Option (Sum (Unit) (Int))
 | 0,_,_=>none
 | k+1,x1,dA=>(if ltI dA (nI x1.length)=true then (if inI dA x1.length=true then ((x1[tN dA]?).bind fun rC=>(if eqI rC 0=true then (kT k x1 (aH .i64 dA 1)) else (some (.inr rC)))) else none) else (some (.inl ())))
def aET (k:Nat) (x1:List Int):Option Int:=((kT k x1 0).bind (fun q=>Sum.elim (fun x3=>(some 0)) (fun x3=>(some x3)) q))
def oH (k:Nat) (x1:Int) (x2:Int) (x3:Bool) (x4:Int) (x5:Int) (x6:Bool):Option Int:=((aET k [(bD x1 x4),(dK x2 x5)]).bind fun x7=>(some x7))
def eR:Nat→Ty8→Int→Option xE
 | 0,_,_=>none
 | k+1,x1,bF=>(if ltI bF (nI x1.length)=true then (if inI bF x1.length=true then ((x1[tN bF]?).bind fun dN=>(if (iB dN.2.1 dN.1)=true then (if eqI bF 0=true then (eR k x1 (aH .i64 bF 1)) else (if inI (sM .i64 bF 1) x1.length=true then ((x1[tN (sM .i64 bF 1)]?).bind fun g7=>((oH k g7.1 g7.2.1 g7.2.2 dN.1 dN.2.1 dN.2.2).bind fun xH=>(if ltI xH 0=true then (if eqI g7.1 dN.1=true then (if g7.2.2=true then (some (.inr false)) else (if dN.2.2=true then (some (.inr false)) else (eR k x1 (aH .i64 bF 1)))) else (eR k x1 (aH .i64 bF 1))) else (some (.inr false))))) else none)) else (some (.inr false)))) else none) else (some (.inl ())))
def rQ (k:Nat) (x1:Ty8):Option Bool:=((eR k x1 0).bind (fun q=>Sum.elim (fun x3=>(some true)) (fun x3=>(some x3)) q))
def aW:Nat→Ty8→Int→Int→Bool→Int→Int→Option (Int)
 | 0,_,_,_,_,_,_=>none
 | k+1,x1,x2,x3,x4,bV,cD=>(if ltI bV cD=true then (if inI (conv .i64 (sX .u64 (conv .u64 (aH .i64 bV cD)) 1)) x1.length=true then ((x1[tN (conv .i64 (sX .u64 (conv .u64 (aH .i64 bV cD)) 1))]?).bind fun lD=>((oH k lD.1 lD.2.1 lD.2.2 x2 x3 x4).bind fun xI=>(if ltI xI 0=true then (aW k x1 x2 x3 x4 (aH .i64 (conv .i64 (sX .u64 (conv .u64 (aH .i64 bV cD)) 1)) 1) cD) else (aW k x1 x2 x3 x4 bV (conv .i64 (sX .u64 (conv .u64 (aH .i64 bV cD)) 1)))))) else none) else (some bV))
def fO (k:Nat) (x1:Ty8) (x2:Int) (x3:Int) (x4:Bool):Option (Int × Bool):=((aW k x1 x2 x3 x4 0 (nI x1.length)).bind (fun x6=>(if ltI x6 (nI x1.length)=true then (if inI x6 x1.length=true then ((x1[tN x6]?).bind fun x7=>((oH k x7.1 x7.2.1 x7.2.2 x2 x3 x4).bind fun x8=>(some (x6,eqI x8 0)))) else none) else (some (x6,false)))))
def pC (k:Nat) (x1:Int) (x2:Ty8) (x3:Ty8):Option Ty8:=aFP 24 x1 x2 x3
def fI:Nat→Ty8→Int→Int→Bool→Int→Option (Sum (Unit) (Ty8 × Int))
 | 0,_,_,_,_,_=>none
 | k+1,x1,x2,x3,x4,cE=>(if ltI cE (nI x1.length)=true then (if inI cE x1.length=true then ((x1[tN cE]?).bind fun jE=>(if eqI jE.1 x3=true then (if eqI jE.2.1 x2=true then (fI k x1 x2 x3 x4 (aH .i64 cE 1)) else (if x4=true then (some (.inr (x1,9))) else (if jE.2.2=true then (some (.inr (x1,9))) else (fI k x1 x2 x3 x4 (aH .i64 cE 1))))) else (fI k x1 x2 x3 x4 (aH .i64 cE 1)))) else none) else (some (.inl ())))
def r9 (k:Nat) (x1:Ty8) (x2:Int) (x3:Int) (x4:Bool):Option (Ty8 × Int):=((oM k x1).bind fun x5=>((rQ k x1).bind fun x6=>(if x6=true then (if (iB x2 x3)=true then ((fI k x1 x2 x3 x4 0).bind (fun q=>Sum.elim (fun x8=>((fO k x1 x3 x2 x4).bind fun x9=>(if x9.2=true then (if inI x9.1 x1.length=true then ((x1[tN x9.1]?).bind fun x10=>(if x10.2.2=true then (some ((List.set x1 (tN x9.1) (x10.1,x10.2.1,true)),0)) else (some ((List.set x1 (tN x9.1) (x10.1,x10.2.1,x4)),0)))) else none) else ((pC k x9.1 x1 [(x3,x2,x4)]).bind fun x10=>(some (x10,0)))))) (fun x8=>(some x8)) q)) else (some (x1,2))) else (some (x1,2)))))
def gX (k:Nat) (x1:aG):Option Unit:=(if cR (x1.length*16)=true then (some ()) else none)
def nX:Unit:=()
def eZ (k:Nat) (x1:aG):Option Unit:=gX k x1
def nG (k:Nat) (x1:Int) (x2:aG) (x3:Bool) (x4:Int):Option Unit:=((eZ k x2).bind fun x5=>(some ()))
def iJ (x1:Int) (x2:Int):Bool:=(!ltI x1 64)
def cK:Nat→aG→Int→Option (Sum (Unit) (Int))
 | 0,_,_=>none
 | k+1,x1,cM=>(if ltI cM (nI x1.length)=true then (if inI cM x1.length=true then ((x1[tN cM]?).bind fun lE=>(if (iJ lE.1 lE.2)=true then (some (.inr cM)) else (cK k x1 (aH .i64 cM 1)))) else none) else (some (.inl ())))
def kD (k:Nat) (x1:aG):Option Int:=((cK k x1 0).bind (fun q=>Sum.elim (fun x3=>(some (-1))) (fun x3=>(some x3)) q))
def iG (k:Nat) (x1:aG):Option Bool:=((kD k x1).bind fun x2=>(some (!ltI x2 0)))
def mP (k:Nat) (x1:Int) (x2:aG) (x3:Bool) (x4:Int):Option Bool:=(if ltI x1 0=true then (some false) else (if ltI 3 x1=true then (some false) else (if ltI 50 (nI x2.length)=true then (some false) else ((iG k x2).bind fun x5=>(if x5=true then (some false) else (if eqI x4 1=true then (if eqI x1 3=true then (some true) else (if eqI x4 0=true then (if x3=true then (some (eqI x1 1)) else (some true)) else (some false))) else (if eqI x1 3=true then (some (eqI x4 2)) else (if eqI x4 0=true then (if x3=true then (some (eqI x1 1)) else (some true)) else (some false)))))))))
def uR (k:Nat) (x1:Int) (x2:aG) (x3:Bool) (x4:Int) (x5:Int) (x6:Int):Option (Int × aG × Bool × Int × Int):=((nG k x1 x2 x3 x4).bind fun x7=>((mP k x1 x2 x3 x4).bind fun x8=>(if x8=true then (if (iJ x5 x6)=true then (some (x1,x2,x3,x4,2)) else (if eqI x1 0=true then (if ltI (nI x2.length) 50=true then (if cR (((x2++[(x5,x6)]).length)*16)=true then (some (x1,(x2++[(x5,x6)]),x3,x4,0)) else none) else (some (x1,x2,x3,x4,6))) else (some (x1,x2,x3,x4,13)))) else (some (x1,x2,x3,x4,2)))))
def fY:Nat→aG→Int→Int→Option (Sum (Unit) (Int))
 | 0,_,_,_=>none
 | k+1,x1,x2,dB=>(if ltI dB (nI x1.length)=true then (if inI dB x1.length=true then ((x1[tN dB]?).bind fun pD=>(if eqI pD.1 x2=true then (some (.inr pD.2)) else (fY k x1 x2 (aH .i64 dB 1)))) else none) else (some (.inl ())))
def oD (k:Nat) (x1:aG) (x2:Int):Option Int:=((fY k x1 x2 0).bind (fun q=>Sum.elim (fun x4=>(some 0)) (fun x4=>(some x4)) q))
def iK (k:Nat) (x1:Int) (x2:aG) (x3:Bool) (x4:Int):Option Ty6:=((eZ k x2).bind fun x5=>(some (x1,x2,x3,x4)))
def rZ (k:Nat) (x1:Int) (x2:aG) (x3:Bool) (x4:Int) (x5:Bool):Option (Int × aG × Bool × Int × Int):=((iK k x1 x2 x3 x4).bind fun x6=>((mP k x6.1 x6.2.1 x6.2.2.1 x6.2.2.2).bind fun x7=>(if x7=true then (if eqI x6.1 0=true then (if x5=true then (some (1,x6.2.1,x6.2.2.1,x6.2.2.2,0)) else (some (2,x6.2.1,x6.2.2.1,x6.2.2.2,0))) else (some (x6.1,x6.2.1,x6.2.2.1,x6.2.2.2,13))) else (some (x6.1,x6.2.1,x6.2.2.1,x6.2.2.2,2)))))
def gY (k:Nat) (x1:aG):Option Unit:=(if cR (x1.length*16)=true then (some ()) else none)
def n0:Unit:=()
def m8 (k:Nat) (x1:aG):Option Unit:=gY k x1
def dR:Nat→aG→Int→Option xE
 | 0,_,_=>none
 | k+1,x1,bL=>(if ltI bL (nI x1.length)=true then (if inI bL x1.length=true then ((x1[tN bL]?).bind fun mF=>(if ltI mF.1 64=true then (if eqI mF.2 0=true then (some (.inr false)) else (if ltI 0 bL=true then (if inI (sM .i64 bL 1) x1.length=true then ((x1[tN (sM .i64 bL 1)]?).bind fun xJ=>(if ltI xJ.1 mF.1=true then (dR k x1 (aH .i64 bL 1)) else (some (.inr false)))) else none) else (dR k x1 (aH .i64 bL 1)))) else (some (.inr false)))) else none) else (some (.inl ())))
def oO (k:Nat) (x1:aG):Option Bool:=((dR k x1 0).bind (fun q=>Sum.elim (fun x3=>(some true)) (fun x3=>(some x3)) q))
def yC (x1:Int) (x2:Int):Unit:=()
def b6:Nat→aG→Int→Option (Sum (Unit) (Int))
 | 0,_,_=>none
 | k+1,x1,bW=>(if ltI bW (nI x1.length)=true then (if inI bW x1.length=true then ((x1[tN bW]?).bind fun nM=>(if ltI nM.1 64=true then (b6 k x1 (aH .i64 bW 1)) else (some (.inr bW)))) else none) else (some (.inl ())))
def iO (k:Nat) (x1:aG):Option Int:=((b6 k x1 0).bind (fun q=>Sum.elim (fun x3=>(some (-1))) (fun x3=>(some x3)) q))
def gL (k:Nat) (x1:aG):Option Bool:=((iO k x1).bind fun x2=>(some (!ltI x2 0)))
def v4 (x1:Int) (x2:Int) (x3:Int):Unit:=()
def aU:Nat→aG→Int→Int→Int→Option (Int)
 | 0,_,_,_,_=>none
 | k+1,x1,x2,bX,cF=>(if ltI bX cF=true then (if inI (conv .i64 (sX .u64 (conv .u64 (aH .i64 bX cF)) 1)) x1.length=true then ((x1[tN (conv .i64 (sX .u64 (conv .u64 (aH .i64 bX cF)) 1))]?).bind fun pE=>(if ltI (bD pE.1 x2) 0=true then (aU k x1 x2 (aH .i64 (conv .i64 (sX .u64 (conv .u64 (aH .i64 bX cF)) 1)) 1) cF) else (aU k x1 x2 bX (conv .i64 (sX .u64 (conv .u64 (aH .i64 bX cF)) 1))))) else none) else (some bX))
def eN (k:Nat) (x1:aG) (x2:Int):Option (Int × Bool):=((aU k x1 x2 0 (nI x1.length)).bind (fun x4=>(if ltI x4 (nI x1.length)=true then (if inI x4 x1.length=true then ((x1[tN x4]?).bind fun x5=>(some (x4,eqI (bD x5.1 x2) 0))) else none) else (some (x4,false)))))
def p7 (k:Nat) (x1:aG) (x2:Int):Option (Int × Bool):=((eN k x1 x2).bind fun x3=>(some (x3.1,x3.2)))
def o6 (k:Nat) (x1:Int) (x2:Int) (x3:aG):Option aG:=delP x1 x2 x3
def lZ (k:Nat) (x1:Int) (x2:aG) (x3:aG):Option aG:=aFP 16 x1 x2 x3
def mY (k:Nat) (x1:Int) (x2:Int) (x3:aG):Option aG:=delP x1 x2 x3
def d9:Nat→aG→Int→aG→Option (aG)
 | 0,_,_,_=>none
 | k+1,x2,bY,aV=>(if ltI bY (nI x2.length)=true then (if inI bY x2.length=true then ((x2[tN bY]?).bind fun bH=>((p7 k aV bH.1).bind fun aP=>(if aP.2=true then (if inI aP.1 aV.length=true then ((aV[tN aP.1]?).bind fun aQ=>(((List.set aV (tN aP.1) (aQ.1,aH .i64 aQ.2 bH.2))[tN aP.1]?).bind fun bM=>(if eqI bM.2 0=true then ((o6 k aP.1 (aH .i64 aP.1 1) (List.set aV (tN aP.1) (aQ.1,aH .i64 aQ.2 bH.2))).bind fun gO=>(d9 k x2 (aH .i64 bY 1) gO)) else (d9 k x2 (aH .i64 bY 1) (List.set aV (tN aP.1) (aQ.1,aH .i64 aQ.2 bH.2)))))) else none) else ((lZ k aP.1 aV [(bH.1,0)]).bind fun aQ=>(if inI aP.1 aQ.length=true then ((aQ[tN aP.1]?).bind fun bM=>(((List.set aQ (tN aP.1) (bM.1,aH .i64 bM.2 bH.2))[tN aP.1]?).bind fun gO=>(if eqI gO.2 0=true then ((mY k aP.1 (aH .i64 aP.1 1) (List.set aQ (tN aP.1) (bM.1,aH .i64 bM.2 bH.2))).bind fun lF=>(d9 k x2 (aH .i64 bY 1) lF)) else (d9 k x2 (aH .i64 bY 1) (List.set aQ (tN aP.1) (bM.1,aH .i64 bM.2 bH.2)))))) else none))))) else none) else (some aV))
def iE (k:Nat) (x1:aG) (x2:aG):Option (aG × Int):=((m8 k x1).bind fun x3=>((oO k x1).bind fun x4=>(if x4=true then ((gL k x2).bind fun x5=>(if x5=true then (some (x1,2)) else ((d9 k x2 0 x1).bind (fun x7=>(some (x7,0)))))) else (some (x1,2)))))
def zG (x1:Int) (x2:Int) (x3:Bool) (x4:Int):Unit:=()
def bN:Nat→Ty8→Int→Int→Option (Sum (Unit) (Int))
 | 0,_,_,_=>none
 | k+1,x1,x2,cN=>(if ltI cN (nI x1.length)=true then (if inI cN x1.length=true then ((x1[tN cN]?).bind fun nD=>(if eqI nD.2.1 x2=true then (some (.inr cN)) else (bN k x1 x2 (aH .i64 cN 1)))) else none) else (some (.inl ())))
def iI (k:Nat) (x1:Ty8) (x2:Int):Option Int:=((bN k x1 x2 0).bind (fun q=>Sum.elim (fun x4=>(some (-1))) (fun x4=>(some x4)) q))
def bT:Nat→Ty8→Int→Int→Int→Ty8→Option (Int × Ty8)
 | 0,_,_,_,_,_=>none
 | k+1,x1,x2,cO,b9,cP=>(if ltI cO (nI x1.length)=true then (if inI cO x1.length=true then ((cP[tN cO]?).bind fun g8=>(if eqI g8.2.1 x2=true then (bT k x1 x2 (aH .i64 cO 1) b9 cP) else (if inI b9 x1.length=true then ((cP[tN b9]?).bind fun aM2=>(bT k x1 x2 (aH .i64 cO 1) (aH .i64 b9 1) (List.set cP (tN b9) g8))) else none))) else none) else (some (b9,cP)))
def jN (k:Nat) (x1:Ty8) (x2:Int):Option (Nat × Ty8):=((iI k x1 x2).bind fun x3=>(if eqI x3 (-1)=true then (some (x1.length,x1)) else ((bT k x1 x2 (aH .i64 x3 1) x3 x1).bind (fun x5=>(if isZ x1.length=true then none else (if tC x1.length x5.2.length=true then (if leI x5.1 x1.length=true then (if isZ (x1.length - (tN x5.1))=true then (if leI x5.1 x5.2.length=true then (some (tN x5.1,x5.2)) else none) else (if tC (tN x5.1+(x1.length - (tN x5.1))) x5.2.length=true then (if tC (tN x5.1) x5.2.length=true then (if tC x1.length ((((List.take (tN x5.1) x5.2)++(List.replicate (x1.length - (tN x5.1)) (0,0,false)))++(List.drop (tN x5.1+(x1.length - (tN x5.1))) x5.2)).length)=true then (if leI x5.1 ((((List.take (tN x5.1) x5.2)++(List.replicate (x1.length - (tN x5.1)) (0,0,false)))++(List.drop (tN x5.1+(x1.length - (tN x5.1))) x5.2)).length)=true then (some (tN x5.1,(((List.take (tN x5.1) x5.2)++(List.replicate (x1.length - (tN x5.1)) (0,0,false)))++(List.drop (tN x5.1+(x1.length - (tN x5.1))) x5.2)))) else none) else none) else none) else none)) else none) else none))))))
def j6 (k:Nat) (x1:Ty8) (x2:Int):Option Ty8:=((oM k x1).bind fun x3=>((jN k x1 x2).bind fun x4=>(if tC x4.1 x4.2.length=true then (some (List.take x4.1 x4.2)) else none)))
def pW (k:Nat) (x1:Int) (x2:aG) (x3:Bool) (x4:Int):Option (Int × aG × Bool × Int × aG × Int):=((iK k x1 x2 x3 x4).bind fun x5=>((mP k x5.1 x5.2.1 x5.2.2.1 x5.2.2.2).bind fun x6=>(if x6=true then (if eqI x5.1 1=true then (if x5.2.2.1=true then (some (x5.1,x5.2.1,x5.2.2.1,x5.2.2.2,[],8)) else ((eZ k x5.2.1).bind fun x7=>(some (x5.1,x5.2.1,true,x5.2.2.2,x5.2.1,0)))) else (some (x5.1,x5.2.1,x5.2.2.1,x5.2.2.2,[],13))) else (some (x5.1,x5.2.1,x5.2.2.1,x5.2.2.2,[],2)))))
def l9 (k:Nat) (x1:aG):Option aG:=oppP x1
def lA (k:Nat) (x1:Int) (x2:aG) (x3:Bool) (x4:Int) (x5:Int):Option (Int × aG × Bool × Int × aG × Int):=((iK k x1 x2 x3 x4).bind fun x6=>((mP k x6.1 x6.2.1 x6.2.2.1 x6.2.2.2).bind fun x7=>(if x7=true then (if eqI x5 1=true then (if eqI x6.2.2.2 x5=true then (some (x6.1,x6.2.1,x6.2.2.1,x6.2.2.2,[],0)) else (if eqI x6.1 3=true then (some (x6.1,x6.2.1,x6.2.2.1,x6.2.2.2,[],13)) else (if eqI x6.1 1=true then (if eqB (eqI x5 1) x6.2.2.1=true then (some (3,x6.2.1,x6.2.2.1,x5,[],0)) else (if x6.2.2.1=true then ((l9 k x6.2.1).bind fun x8=>(some (3,x6.2.1,x6.2.2.1,x5,x8,0))) else ((eZ k x6.2.1).bind fun x8=>(some (3,x6.2.1,x6.2.2.1,x5,x6.2.1,0))))) else (some (x6.1,x6.2.1,x6.2.2.1,x6.2.2.2,[],13))))) else (if eqI x5 2=true then (if eqI x6.2.2.2 x5=true then (some (x6.1,x6.2.1,x6.2.2.1,x6.2.2.2,[],0)) else (if eqI x6.1 3=true then (some (x6.1,x6.2.1,x6.2.2.1,x6.2.2.2,[],13)) else (if eqB (eqI x5 1) x6.2.2.1=true then (some (3,x6.2.1,x6.2.2.1,x5,[],0)) else (if x6.2.2.1=true then ((l9 k x6.2.1).bind fun x8=>(some (3,x6.2.1,x6.2.2.1,x5,x8,0))) else ((eZ k x6.2.1).bind fun x8=>(some (3,x6.2.1,x6.2.2.1,x5,x6.2.1,0))))))) else (some (x6.1,x6.2.1,x6.2.2.1,x6.2.2.2,[],2)))) else (some (x6.1,x6.2.1,x6.2.2.1,x6.2.2.2,[],2)))))
def rP (x1:aG) (x2:Ty8) (x3:Ty2) (x4:Ty7):Unit:=()
def bI:Nat→aG→Int→Int→Int→Int→aG→Ty8→Ty2→Ty7→(Ty8 × Int)→Int→Int→Option (Int)
 | 0,_,_,_,_,_,_,_,_,_,_,_,_=>none
 | k+1,x2,x5,x6,x7,x8,x9,x10,x11,x12,x13,cL,bZ=>(if ltI bZ (nI x2.length)=true then (if inI bZ x2.length=true then ((x2[tN bZ]?).bind fun nN=>(if eqI nN.1 x7=true then (bI k x2 x5 x6 x7 x8 x9 x10 x11 x12 x13 (aH .i64 cL nN.2) (aH .i64 bZ 1)) else (bI k x2 x5 x6 x7 x8 x9 x10 x11 x12 x13 cL (aH .i64 bZ 1)))) else none) else (some cL))
def gS (k:Nat) (x1:Int) (x2:aG) (x3:Bool) (x4:Int) (x5:Int) (x6:Int) (x7:Int) (x8:Int) (x9:aG) (x10:Ty8) (x11:Ty2) (x12:Ty7):Option (Ty8 × Ty2 × Int × Int):=(if eqI x1 0=true then ((r9 k x10 x6 x7 (eqI x5 3)).bind fun x13=>(if eqI x13.2 0=true then (if eqI x5 3=true then ((uR k x1 x2 x3 x4 x7 x8).bind fun x14=>(if eqI x14.2.2.2.2 0=true then (if lB x11 x6=true then ((bC x11 x6).bind fun x15=>(some (x13.1,(aR x11 x6 (x14.1,x14.2.1,x14.2.2.1,x14.2.2.2.1)),0,0))) else (some (x13.1,(aR x11 x6 (x14.1,x14.2.1,x14.2.2.1,x14.2.2.2.1)),0,0))) else (some (x10,x11,x14.2.2.2.2,0)))) else ((oD k x9 x7).bind fun x14=>((bI k x2 x5 x6 x7 x8 x9 x10 x11 x12 x13 x14 0).bind (fun x16=>(some (x13.1,x11,0,x16)))))) else (some (x10,x11,x13.2,0)))) else (some (x10,x11,13,0)))
def kS (k:Nat) (x1:Int) (x2:aG) (x3:Bool) (x4:Int) (x5:Int) (x6:Int) (x7:Int) (x8:Int) (x9:aG) (x10:Ty8) (x11:Ty2) (x12:Ty7):Option (aG × Ty8 × Ty2 × Int):=(if eqI x5 4=true then ((rZ k x1 x2 x3 x4 (!eqI x8 0)).bind fun x13=>(if eqI x13.2.2.2.2 0=true then ((iE k x9 []).bind fun x14=>(if eqI x13.1 2=true then ((j6 k x10 x6).bind fun x15=>(some (x14.1,x15,(aR x11 x6 (x13.1,x13.2.1,x13.2.2.1,x13.2.2.2.1)),0))) else (some (x14.1,x10,(aR x11 x6 (x13.1,x13.2.1,x13.2.2.1,x13.2.2.2.1)),0)))) else (some (x9,x10,x11,x13.2.2.2.2)))) else (if eqI x5 5=true then ((pW k x1 x2 x3 x4).bind fun x13=>(if eqI x13.2.2.2.2.2 0=true then ((iE k x9 x13.2.2.2.2.1).bind fun x14=>((j6 k x10 x6).bind fun x15=>(some (x14.1,x15,(aR x11 x6 (x13.1,x13.2.1,x13.2.2.1,x13.2.2.2.1)),0)))) else (some (x9,x10,x11,x13.2.2.2.2.2)))) else (if eqI x8 1=true then ((lA k x1 x2 x3 x4 x8).bind fun x13=>(if eqI x13.2.2.2.2.2 0=true then ((iE k x9 x13.2.2.2.2.1).bind fun x14=>((j6 k x10 x6).bind fun x15=>(some (x14.1,x15,(aR x11 x6 (x13.1,x13.2.1,x13.2.2.1,x13.2.2.2.1)),0)))) else (some (x9,x10,x11,x13.2.2.2.2.2)))) else (if eqI x8 2=true then ((lA k x1 x2 x3 x4 x8).bind fun x13=>(if eqI x13.2.2.2.2.2 0=true then ((iE k x9 x13.2.2.2.2.1).bind fun x14=>((j6 k x10 x6).bind fun x15=>(some (x14.1,x15,(aR x11 x6 (x13.1,x13.2.1,x13.2.2.1,x13.2.2.2.1)),0)))) else (some (x9,x10,x11,x13.2.2.2.2.2)))) else (some (x9,x10,x11,2))))))
def iN (k:Nat) (x1:Int) (x2:aG) (x3:Bool) (x4:Int) (x5:Int) (x6:Int) (x7:Int) (x8:Int) (x9:aG) (x10:Ty8) (x11:Ty2) (x12:Ty7):Option (Int × Int × Ty8 × Ty2 × aG):=(if eqI x5 1=true then (some (0,0,x10,(aR x11 x6 (x1,x2,x3,x4)),x9)) else (if eqI x5 2=true then ((gS k x1 x2 x3 x4 x5 x6 x7 x8 x9 x10 x11 x12).bind fun x13=>(some (x13.2.2.2,x13.2.2.1,x13.1,x13.2.1,x9))) else (if eqI x5 3=true then ((gS k x1 x2 x3 x4 x5 x6 x7 x8 x9 x10 x11 x12).bind fun x13=>(some (x13.2.2.2,x13.2.2.1,x13.1,x13.2.1,x9))) else ((kS k x1 x2 x3 x4 x5 x6 x7 x8 x9 x10 x11 x12).bind fun x13=>(some (0,x13.2.2.2,x13.2.1,x13.2.2.1,x13.1))))))
def kK (k:Nat) (x1:Int) (x2:Int) (x3:Int) (x4:Int) (x5:aG) (x6:Ty8) (x7:Ty2) (x8:Ty7):Option (Int × Int × aG × Ty8 × Ty2 × Ty7):=(if ltI x1 1=true then (some (2,0,x5,x6,x7,x8)) else (if ltI 6 x1=true then (some (2,0,x5,x6,x7,x8)) else (if ltI x2 0=true then (some (2,0,x5,x6,x7,x8)) else (if ltI x2 1000=true then (if lB x7 x2=true then ((bC x7 x2).bind fun x9=>(if eqB true (eqI x1 1)=true then (some (8,0,x5,x6,x7,x8)) else ((iN k x9.1 x9.2.1 x9.2.2.1 x9.2.2.2 x1 x2 x3 x4 x5 x6 x7 x8).bind fun x10=>(if eqI x10.2.1 0=true then (if cR (((x8++[(x1,x2,x3,x4)]).length)*32)=true then (some (0,x10.1,x10.2.2.2.2,x10.2.2.1,x10.2.2.2.1,(x8++[(x1,x2,x3,x4)]))) else none) else (some (x10.2.1,0,x10.2.2.2.2,x10.2.2.1,x10.2.2.2.1,x8)))))) else (if eqB false (eqI x1 1)=true then (some (7,0,x5,x6,x7,x8)) else ((iN k 0 [] false 0 x1 x2 x3 x4 x5 x6 x7 x8).bind fun x9=>(if eqI x9.2.1 0=true then (if cR (((x8++[(x1,x2,x3,x4)]).length)*32)=true then (some (0,x9.1,x9.2.2.2.2,x9.2.2.1,x9.2.2.2.1,(x8++[(x1,x2,x3,x4)]))) else none) else (some (x9.2.1,0,x9.2.2.2.2,x9.2.2.1,x9.2.2.2.1,x8)))))) else (some (2,0,x5,x6,x7,x8))))))
def eY:Nat→Ty7→Int→aG→Ty8→Ty2→Ty7→Option Ty0
 | 0,_,_,_,_,_,_=>none
 | k+1,x1,dC,eO,eP,eE,eF=>(if ltI dC (nI x1.length)=true then (if inI dC x1.length=true then ((x1[tN dC]?).bind fun iM=>((kK k iM.1 iM.2.1 iM.2.2.1 iM.2.2.2 eO eP eE eF).bind fun dD=>(if eqI dD.1 0=true then (eY k x1 (aH .i64 dC 1) dD.2.2.1 dD.2.2.2.1 dD.2.2.2.2.1 dD.2.2.2.2.2) else (some (.inr (.inr ())))))) else none) else (some (.inl (eO,eP,eE,eF))))
def qD (k:Nat) (x1:Ty7):Option Ty1:=((eY k x1 0 [] [] ([]:Ty2) []).bind (fun q=>Sum.elim (fun x3=>(some (.inl (x3.1,x3.2.1,x3.2.2.1,x3.2.2.2)))) (fun x3=>(some x3)) q))
def fC:Nat→Ty7→Int→aG→Option (aG)
 | 0,_,_,_=>none
 | k+1,x1,dZ,eA=>(if ltI dZ (nI x1.length)=true then (if inI dZ x1.length=true then ((x1[tN dZ]?).bind fun iY=>(if eqI iY.1 6=true then (fC k x1 (aH .i64 dZ 1) (aR eA iY.2.1 iY.2.2.2)) else (fC k x1 (aH .i64 dZ 1) eA))) else none) else (some eA))
def lG (k:Nat) (x1:Ty7):Option (Sum (aG) (Unit)):=((qD k x1).bind (fun q=>Sum.elim (fun x3=>((fC k x1 0 ([]:aG)).bind (fun x5=>(some (.inl x5))))) (fun x3=>(some (.inr ()))) q))
def fZ:Nat→Ty7→Int→Option (Unit)
 | 0,_,_=>none
 | k+1,x1,fA=>(if ltI fA (nI x1.length)=true then (if inI fA x1.length=true then ((x1[tN fA]?).bind fun z4=>(fZ k x1 (aH .i64 fA 1))) else none) else (some ()))
def dS:Nat→Ty7→aG→Int→Int→Option (Int)
 | 0,_,_,_,_=>none
 | k+1,x1,x3,eG,dL=>(if ltI dL (nI x1.length)=true then (if inI dL x1.length=true then ((x1[tN dL]?).bind fun pF=>(if eqI pF.1 5=true then (if lB x3 pF.2.1=true then ((bC x3 pF.2.1).bind fun aD0=>(if eqI aD0 2=true then (dS k x1 x3 (aH .i64 eG 1) (aH .i64 dL 1)) else (dS k x1 x3 eG (aH .i64 dL 1)))) else (dS k x1 x3 eG (aH .i64 dL 1))) else (dS k x1 x3 eG (aH .i64 dL 1)))) else none) else (some eG))
def mN (k:Nat) (x1:Ty7):Option (Int × Int):=((lG k x1).bind (fun q=>Sum.elim (fun x3=>((dS k x1 x3 0 0).bind (fun x5=>(some (x5,0))))) (fun x3=>((fZ k x1 0).bind (fun x5=>(some (0,4))))) q))
def cT:Nat→Ty7→aG→Int→aG→Option (aG)
 | 0,_,_,_,_=>none
 | k+1,x1,x3,b5,aL=>(if ltI b5 (nI x1.length)=true then (if inI b5 x1.length=true then ((x1[tN b5]?).bind fun cQ=>(if eqI cQ.1 3=true then (if lB x3 cQ.2.1=true then ((bC x3 cQ.2.1).bind fun xK=>(if eqI xK 1=true then (if cR (((aL++[cQ.2.2]).length)*16)=true then (cT k x1 x3 (aH .i64 b5 1) (aL++[cQ.2.2])) else none) else (cT k x1 x3 (aH .i64 b5 1) aL))) else (cT k x1 x3 (aH .i64 b5 1) aL)) else (cT k x1 x3 (aH .i64 b5 1) aL))) else none) else (some aL))
def jX (k:Nat) (x1:Ty7):Option (aG × Int):=((lG k x1).bind (fun q=>Sum.elim (fun x3=>((cT k x1 x3 0 []).bind (fun x5=>((iE k [] x5).bind fun x6=>(some (x6.1,x6.2)))))) (fun x3=>(some ([],4))) q))
def qA (x1:aG):Bool:=kQ (x1++x1)
def oW (x1:aG) (x2:aG):Bool:=kQ (x1++x2)
def pX (k:Nat):Option Bool:=(if eqI (nI aJ.length) 0=true then (some false) else ((lG k aJ).bind (fun q=>Sum.elim (fun x2=>((mN k aJ).bind fun x3=>((jX k aJ).bind fun x4=>(if leI 1 aJ.length=true then ((lG k (List.drop 1 aJ)).bind (fun q=>Sum.elim (fun x6=>(if eqI (nI x2.length) 1=true then (if lB x2 1=true then ((bC x2 1).bind fun x7=>(if eqI x7 2=true then (if eqI x3.1 1=true then (if eqI x3.2 0=true then (if eqI (nI x4.1.length) 0=true then (if eqI x4.2 0=true then (some false) else (some false)) else (some false)) else (some false)) else (some false)) else (some false))) else (some false)) else (some false))) (fun x6=>(if eqI (nI x2.length) 1=true then (if lB x2 1=true then ((bC x2 1).bind fun x7=>(if eqI x7 2=true then (if eqI x3.1 1=true then (if eqI x3.2 0=true then (if eqI (nI x4.1.length) 0=true then (if eqI x4.2 0=true then (if (qA x2)=true then (some (!(oW x2 (aR ([]:aG) 1 1)))) else (some false)) else (some false)) else (some false)) else (some false)) else (some false)) else (some false))) else (some false)) else (some false))) q)) else none)))) (fun x2=>((mN k aJ).bind fun x3=>((jX k aJ).bind fun x4=>(if leI 1 aJ.length=true then ((lG k (List.drop 1 aJ)).bind (fun q=>Sum.elim (fun x6=>(some false)) (fun x6=>(some false)) q)) else none)))) q)))
def g5 (k:Nat) (x1:Ty7):Option Unit:=(if cR (x1.length*32)=true then (some ()) else none)
def oB:Unit:=()
def kW (k:Nat) (x1:Ty7):Option Unit:=g5 k x1
def nE (k:Nat) (x1:aG) (x2:Ty8) (x3:Ty2) (x4:Ty7):Option Unit:=((kW k x4).bind fun x5=>(some ()))
def rW (x1:aG) (x2:Ty8) (x3:Ty2) (x4:Ty7):Unit:=()
def jO (k:Nat) (x1:aG) (x2:Ty8) (x3:Ty2) (x4:Ty7):Option Unit:=((kW k x4).bind fun x5=>(some ()))
def iC:Nat→Int→aG→Bool→Int→Int→Option xE
 | 0,_,_,_,_,_=>none
 | k+1,x1,x2,x3,x4,gB=>(if ltI gB (nI x2.length)=true then (if inI gB x2.length=true then ((x2[tN gB]?).bind fun aH4=>(if ltI aH4.1 64=true then (iC k x1 x2 x3 x4 (aH .i64 gB 1)) else (some (.inr false)))) else none) else (some (.inl ())))
def eW:Nat→aG→Int→aG→Option (aG)
 | 0,_,_,_=>none
 | k+1,x1,gC,g9=>(if ltI gC 0=true then (some g9) else (if inI gC x1.length=true then ((x1[tN gC]?).bind fun rD=>(if cR (((g9++[(rD.1,aCO .i64 rD.2)]).length)*16)=true then (eW k x1 (sM .i64 gC 1) (g9++[(rD.1,aCO .i64 rD.2)])) else none)) else none))
def nH (x1:Int) (x2:Int):Bool:=(if ltI x2 64=true then (if ltI x1 0=true then false else ltI x1 1000) else false)
def dW:Nat→Ty8→Ty11→Int→Int→Option (Sum (Int) (Bool))
 | 0,_,_,_,_=>none
 | k+1,x1,bQ,eH,fK=>(if ltI eH (nI x1.length)=true then (if eqI eH fK=true then (dW k x1 bQ (aH .i64 eH 1) fK) else (if inI eH x1.length=true then ((x1[tN eH]?).bind fun aH5=>(if eqI aH5.1 bQ.1=true then (if bQ.2.2=true then (some (.inr false)) else (dW k x1 bQ (aH .i64 eH 1) fK)) else (dW k x1 bQ (aH .i64 eH 1) fK))) else none)) else (some (.inl fK)))
def fU:Nat→Ty8→Int→Option xE
 | 0,_,_=>none
 | k+1,x1,dE=>(if ltI dE (nI x1.length)=true then (if inI dE x1.length=true then ((x1[tN dE]?).bind fun bQ=>(if (nH bQ.2.1 bQ.1)=true then (if ltI 0 dE=true then (if inI (sM .i64 dE 1) x1.length=true then ((x1[tN (sM .i64 dE 1)]?).bind fun uV=>(if ltI uV.1 bQ.1=true then ((dW k x1 bQ 0 dE).bind (fun q=>Sum.elim (fun kN=>(fU k x1 (aH .i64 kN 1))) (fun kN=>(some (.inr kN))) q)) else (if eqI uV.1 bQ.1=true then (if ltI uV.2.1 bQ.2.1=true then ((dW k x1 bQ 0 dE).bind (fun q=>Sum.elim (fun kN=>(fU k x1 (aH .i64 kN 1))) (fun kN=>(some (.inr kN))) q)) else (some (.inr false))) else (some (.inr false))))) else none) else ((dW k x1 bQ 0 dE).bind (fun q=>Sum.elim (fun uW=>(fU k x1 (aH .i64 uW 1))) (fun uW=>(some (.inr uW))) q))) else (some (.inr false)))) else none) else (some (.inl ())))
def gN:Nat→Ty8→Int→Int→Int→Option (Sum (Unit) (Int))
 | 0,_,_,_,_=>none
 | k+1,x1,x2,x3,fL=>(if ltI fL (nI x1.length)=true then (if inI fL x1.length=true then ((x1[tN fL]?).bind fun uX=>(if eqI uX.1 x3=true then (if eqI uX.2.1 x2=true then (if uX.2.2=true then (some (.inr 2)) else (some (.inr 1))) else (gN k x1 x2 x3 (aH .i64 fL 1))) else (gN k x1 x2 x3 (aH .i64 fL 1)))) else none) else (some (.inl ())))
def bK:Nat→Ty8→Int→Int→Bool→Int→Ty8→Bool→Option (Bool × Bool × Ty8)
 | 0,_,_,_,_,_,_,_=>none
 | k+1,x1,x2,x3,cJ,aY,aM,aN=>(if ltI aY (nI x1.length)=true then (if cJ=true then (if inI aY x1.length=true then ((x1[tN aY]?).bind fun aO=>(if eqI aO.1 x3=true then (if eqI aO.2.1 x2=true then (bK k x1 x2 x3 cJ (aH .i64 aY 1) aM aN) else (if cR (((aM++[aO]).length)*24)=true then (bK k x1 x2 x3 cJ (aH .i64 aY 1) (aM++[aO]) aN) else none)) else (if cR (((aM++[aO]).length)*24)=true then (bK k x1 x2 x3 cJ (aH .i64 aY 1) (aM++[aO]) aN) else none))) else none) else (if inI aY x1.length=true then ((x1[tN aY]?).bind fun aO=>(if ltI x3 aO.1=true then (if cR (((aM++[(x3,x2,aN)]).length)*24)=true then (if eqI aO.1 x3=true then (if eqI aO.2.1 x2=true then (bK k x1 x2 x3 true (aH .i64 aY 1) (aM++[(x3,x2,aN)]) aN) else (if cR ((((aM++[(x3,x2,aN)])++[aO]).length)*24)=true then (bK k x1 x2 x3 true (aH .i64 aY 1) ((aM++[(x3,x2,aN)])++[aO]) aN) else none)) else (if cR ((((aM++[(x3,x2,aN)])++[aO]).length)*24)=true then (bK k x1 x2 x3 true (aH .i64 aY 1) ((aM++[(x3,x2,aN)])++[aO]) aN) else none)) else none) else (if eqI x3 aO.1=true then (if ltI aO.2.1 x2=true then (if eqI aO.1 x3=true then (if eqI aO.2.1 x2=true then (bK k x1 x2 x3 cJ (aH .i64 aY 1) aM aN) else (if cR (((aM++[aO]).length)*24)=true then (bK k x1 x2 x3 cJ (aH .i64 aY 1) (aM++[aO]) aN) else none)) else (if cR (((aM++[aO]).length)*24)=true then (bK k x1 x2 x3 cJ (aH .i64 aY 1) (aM++[aO]) aN) else none)) else (if cR (((aM++[(x3,x2,aN)]).length)*24)=true then (if eqI aO.1 x3=true then (if eqI aO.2.1 x2=true then (bK k x1 x2 x3 true (aH .i64 aY 1) (aM++[(x3,x2,aN)]) aN) else (if cR ((((aM++[(x3,x2,aN)])++[aO]).length)*24)=true then (bK k x1 x2 x3 true (aH .i64 aY 1) ((aM++[(x3,x2,aN)])++[aO]) aN) else none)) else (if cR ((((aM++[(x3,x2,aN)])++[aO]).length)*24)=true then (bK k x1 x2 x3 true (aH .i64 aY 1) ((aM++[(x3,x2,aN)])++[aO]) aN) else none)) else none)) else (if eqI aO.1 x3=true then (if eqI aO.2.1 x2=true then (bK k x1 x2 x3 cJ (aH .i64 aY 1) aM aN) else (if cR (((aM++[aO]).length)*24)=true then (bK k x1 x2 x3 cJ (aH .i64 aY 1) (aM++[aO]) aN) else none)) else (if cR (((aM++[aO]).length)*24)=true then (bK k x1 x2 x3 cJ (aH .i64 aY 1) (aM++[aO]) aN) else none))))) else none)) else (some (cJ,aN,aM)))
def gM:Nat→Ty8→Int→Int→Bool→Int→Option (Sum (Unit) (Ty8 × Int))
 | 0,_,_,_,_,_=>none
 | k+1,x1,x2,x3,x4,eV=>(if ltI eV (nI x1.length)=true then (if inI eV x1.length=true then ((x1[tN eV]?).bind fun uY=>(if eqI uY.1 x3=true then (if eqI uY.2.1 x2=true then (gM k x1 x2 x3 x4 (aH .i64 eV 1)) else (if x4=true then (some (.inr (x1,9))) else (if uY.2.2=true then (some (.inr (x1,9))) else (gM k x1 x2 x3 x4 (aH .i64 eV 1))))) else (gM k x1 x2 x3 x4 (aH .i64 eV 1)))) else none) else (some (.inl ())))
def gP:Nat→aG→Int→Int→Option (Sum (Unit) (Int))
 | 0,_,_,_=>none
 | k+1,x1,x2,dF=>(if ltI dF (nI x1.length)=true then (if inI dF x1.length=true then ((x1[tN dF]?).bind fun pG=>(if eqI pG.1 x2=true then (some (.inr pG.2)) else (gP k x1 x2 (aH .i64 dF 1)))) else none) else (some (.inl ())))
def tY (k:Nat) (x1:aG) (x2:Int):Option Int:=((gP k x1 x2 0).bind (fun q=>Sum.elim (fun x4=>(some 0)) (fun x4=>(some x4)) q))
def f3:Nat→aG→aG→Int→Option xE
 | 0,_,_,_=>none
 | k+1,x1,x2,cH=>(if ltI cH (nI x1.length)=true then (if inI cH x1.length=true then ((x1[tN cH]?).bind fun oK=>(if inI cH x2.length=true then ((x2[tN cH]?).bind fun oL=>(if eqI oK.1 oL.1=true then (if eqI oK.2 oL.2=true then (f3 k x1 x2 (aH .i64 cH 1)) else (some (.inr false))) else (some (.inr false)))) else none)) else none) else (some (.inl ())))
def r7 (k:Nat) (x1:aG) (x2:aG):Option Bool:=(if eqI (nI x1.length) (nI x2.length)=true then ((f3 k x1 x2 0).bind (fun q=>Sum.elim (fun x4=>(some true)) (fun x4=>(some x4)) q)) else (some false))
def mA (k:Nat) (x1:Int) (x2:aG) (x3:Ty8) (x4:Ty2) (x5:Ty7):Option (Int × Bool × Int × aG × Bool):=(if lB x4 x1=true then ((bC x4 x1).bind fun x6=>((eZ k x6.2.1).bind fun x7=>(some (x6.1,x6.2.2.1,x6.2.2.2,x6.2.1,true)))) else ((eZ k []).bind fun x6=>(some (0,false,0,[],false))))
def nJ (k:Nat) (x1:Int) (x2:aG) (x3:Ty8) (x4:Ty2) (x5:Ty7):Option Int:=((oD k x2 x1).bind fun x6=>(some x6))
def cG:Nat→aG→Int→Int→Int→Int→aG→Ty8→Ty2→Ty7→(Ty8 × Int)→Int→Int→Option (Int)
 | 0,_,_,_,_,_,_,_,_,_,_,_,_=>none
 | k+1,x2,x5,x6,x7,x8,x9,x10,x11,x12,x13,eB,dH=>(if ltI dH (nI x2.length)=true then (if inI dH x2.length=true then ((x2[tN dH]?).bind fun sA=>(if eqI sA.1 x7=true then (cG k x2 x5 x6 x7 x8 x9 x10 x11 x12 x13 (aH .i64 eB sA.2) (aH .i64 dH 1)) else (cG k x2 x5 x6 x7 x8 x9 x10 x11 x12 x13 eB (aH .i64 dH 1)))) else none) else (some eB))
def gR (k:Nat) (x1:Int) (x2:aG) (x3:Bool) (x4:Int) (x5:Int) (x6:Int) (x7:Int) (x8:Int) (x9:aG) (x10:Ty8) (x11:Ty2) (x12:Ty7):Option (Ty8 × Ty2 × Int × Int):=(if eqI x1 0=true then ((r9 k x10 x6 x7 (eqI x5 3)).bind fun x13=>(if eqI x13.2 0=true then (if eqI x5 3=true then ((uR k x1 x2 x3 x4 x7 x8).bind fun x14=>(if eqI x14.2.2.2.2 0=true then (if lB x11 x6=true then ((bC x11 x6).bind fun x15=>(some (x13.1,(aR x11 x6 (x14.1,x14.2.1,x14.2.2.1,x14.2.2.2.1)),0,0))) else (some (x13.1,(aR x11 x6 (x14.1,x14.2.1,x14.2.2.1,x14.2.2.2.1)),0,0))) else (some (x10,x11,x14.2.2.2.2,0)))) else ((oD k x9 x7).bind fun x14=>((cG k x2 x5 x6 x7 x8 x9 x10 x11 x12 x13 x14 0).bind (fun x16=>(some (x13.1,x11,0,x16)))))) else (some (x10,x11,x13.2,0)))) else (some (x10,x11,13,0)))
def kV (k:Nat) (x1:Int) (x2:aG) (x3:Bool) (x4:Int) (x5:Int) (x6:Int) (x7:Int) (x8:Int) (x9:aG) (x10:Ty8) (x11:Ty2) (x12:Ty7):Option (aG × Ty8 × Ty2 × Int):=(if eqI x5 4=true then ((rZ k x1 x2 x3 x4 (!eqI x8 0)).bind fun x13=>(if eqI x13.2.2.2.2 0=true then ((iE k x9 []).bind fun x14=>(if eqI x13.1 2=true then ((j6 k x10 x6).bind fun x15=>(some (x14.1,x15,(aR x11 x6 (x13.1,x13.2.1,x13.2.2.1,x13.2.2.2.1)),0))) else (some (x14.1,x10,(aR x11 x6 (x13.1,x13.2.1,x13.2.2.1,x13.2.2.2.1)),0)))) else (some (x9,x10,x11,x13.2.2.2.2)))) else (if eqI x5 5=true then ((pW k x1 x2 x3 x4).bind fun x13=>(if eqI x13.2.2.2.2.2 0=true then ((iE k x9 x13.2.2.2.2.1).bind fun x14=>((j6 k x10 x6).bind fun x15=>(some (x14.1,x15,(aR x11 x6 (x13.1,x13.2.1,x13.2.2.1,x13.2.2.2.1)),0)))) else (some (x9,x10,x11,x13.2.2.2.2.2)))) else (if eqI x8 1=true then ((lA k x1 x2 x3 x4 x8).bind fun x13=>(if eqI x13.2.2.2.2.2 0=true then ((iE k x9 x13.2.2.2.2.1).bind fun x14=>((j6 k x10 x6).bind fun x15=>(some (x14.1,x15,(aR x11 x6 (x13.1,x13.2.1,x13.2.2.1,x13.2.2.2.1)),0)))) else (some (x9,x10,x11,x13.2.2.2.2.2)))) else (if eqI x8 2=true then ((lA k x1 x2 x3 x4 x8).bind fun x13=>(if eqI x13.2.2.2.2.2 0=true then ((iE k x9 x13.2.2.2.2.1).bind fun x14=>((j6 k x10 x6).bind fun x15=>(some (x14.1,x15,(aR x11 x6 (x13.1,x13.2.1,x13.2.2.1,x13.2.2.2.1)),0)))) else (some (x9,x10,x11,x13.2.2.2.2.2)))) else (some (x9,x10,x11,2))))))
def iP (k:Nat) (x1:Int) (x2:aG) (x3:Bool) (x4:Int) (x5:Int) (x6:Int) (x7:Int) (x8:Int) (x9:aG) (x10:Ty8) (x11:Ty2) (x12:Ty7):Option (Int × Int × Ty8 × Ty2 × aG):=(if eqI x5 1=true then (some (0,0,x10,(aR x11 x6 (x1,x2,x3,x4)),x9)) else (if eqI x5 2=true then ((gR k x1 x2 x3 x4 x5 x6 x7 x8 x9 x10 x11 x12).bind fun x13=>(some (x13.2.2.2,x13.2.2.1,x13.1,x13.2.1,x9))) else (if eqI x5 3=true then ((gR k x1 x2 x3 x4 x5 x6 x7 x8 x9 x10 x11 x12).bind fun x13=>(some (x13.2.2.2,x13.2.2.1,x13.1,x13.2.1,x9))) else ((kV k x1 x2 x3 x4 x5 x6 x7 x8 x9 x10 x11 x12).bind fun x13=>(some (0,x13.2.2.2,x13.2.1,x13.2.2.1,x13.1))))))
def lX (k:Nat) (x1:Int) (x2:Int) (x3:Int) (x4:Int) (x5:aG) (x6:Ty8) (x7:Ty2) (x8:Ty7):Option (Int × Int × aG × Ty8 × Ty2 × Ty7):=(if ltI x1 1=true then (some (2,0,x5,x6,x7,x8)) else (if ltI 6 x1=true then (some (2,0,x5,x6,x7,x8)) else (if ltI x2 0=true then (some (2,0,x5,x6,x7,x8)) else (if ltI x2 1000=true then (if lB x7 x2=true then ((bC x7 x2).bind fun x9=>(if eqB true (eqI x1 1)=true then (some (8,0,x5,x6,x7,x8)) else ((iP k x9.1 x9.2.1 x9.2.2.1 x9.2.2.2 x1 x2 x3 x4 x5 x6 x7 x8).bind fun x10=>(if eqI x10.2.1 0=true then (if cR (((x8++[(x1,x2,x3,x4)]).length)*32)=true then (some (0,x10.1,x10.2.2.2.2,x10.2.2.1,x10.2.2.2.1,(x8++[(x1,x2,x3,x4)]))) else none) else (some (x10.2.1,0,x10.2.2.2.2,x10.2.2.1,x10.2.2.2.1,x8)))))) else (if eqB false (eqI x1 1)=true then (some (7,0,x5,x6,x7,x8)) else ((iP k 0 [] false 0 x1 x2 x3 x4 x5 x6 x7 x8).bind fun x9=>(if eqI x9.2.1 0=true then (if cR (((x8++[(x1,x2,x3,x4)]).length)*32)=true then (some (0,x9.1,x9.2.2.2.2,x9.2.2.1,x9.2.2.2.1,(x8++[(x1,x2,x3,x4)]))) else none) else (some (x9.2.1,0,x9.2.2.2.2,x9.2.2.1,x9.2.2.2.1,x8)))))) else (some (2,0,x5,x6,x7,x8))))))
def cS:Nat→(aG × Int)→(aG × Ty8 × Ty2 × Ty7)→(aG × Int)→Int→Option xE
 | 0,_,_,_,_=>none
 | k+1,x6,x9,x11,eK=>(if ltI eK 64=true then ((nJ k eK x9.1 x9.2.1 x9.2.2.1 x9.2.2.2).bind fun aAU=>((tY k x6.1 eK).bind fun aAV=>(if eqI aAU aAV=true then (cS k x6 x9 x11 (aH .u8 eK 1)) else (some (.inr false))))) else (some (.inl ())))
def cI:Nat→(aG × Ty8 × Ty2 × Ty7)→(aG × Int)→Int→aG→Ty8→Ty2→Ty7→Option (Sum (aG × Ty8 × Ty2 × Ty7) (Bool))
 | 0,_,_,_,_,_,_,_=>none
 | k+1,x4,x6,d6,eC,eD,dP,dQ=>(if ltI d6 (nI x4.2.2.2.length)=true then (if inI d6 x4.2.2.2.length=true then ((x4.2.2.2[tN d6]?).bind fun pQ=>((mA k pQ.2.1 eC eD dP dQ).bind fun rE=>(if eqI rE.1 3=true then (cI k x4 x6 (aH .i64 d6 1) eC eD dP dQ) else ((lX k 6 pQ.2.1 0 2 eC eD dP dQ).bind fun fR=>(if eqI fR.1 0=true then (cI k x4 x6 (aH .i64 d6 1) fR.2.2.1 fR.2.2.2.1 fR.2.2.2.2.1 fR.2.2.2.2.2) else (some (.inr false))))))) else none) else (some (.inl (eC,eD,dP,dQ))))
def cV:Nat→Ty7→Int→aG→Ty8→Ty2→Ty7→Option (aG × Ty8 × Ty2 × Ty7)
 | 0,_,_,_,_,_,_=>none
 | k+1,x1,eS,f6,gA,fS,fT=>(if ltI eS (nI x1.length)=true then (if inI eS x1.length=true then ((x1[tN eS]?).bind fun kP=>((kK k kP.1 kP.2.1 kP.2.2.1 kP.2.2.2 f6 gA fS fT).bind fun fM=>(cV k x1 (aH .i64 eS 1) fM.2.2.1 fM.2.2.2.1 fM.2.2.2.2.1 fM.2.2.2.2.2))) else none) else (some (f6,gA,fS,fT)))
def nB (k:Nat) (x1:Ty7):Option Bool:=((pX k).bind fun x2=>(if x2=true then (if ltI 100 (nI x1.length)=true then (some (!false)) else ((cV k x1 0 [] [] ([]:Ty2) []).bind (fun x4=>((nE k x4.1 x4.2.1 x4.2.2.1 x4.2.2.2).bind fun x5=>((jX k x4.2.2.2).bind fun x6=>((jO k x4.1 x4.2.1 x4.2.2.1 x4.2.2.2).bind fun x7=>((cI k x4 x6 0 x4.1 x4.2.1 x4.2.2.1 x4.2.2.2).bind (fun q=>Sum.elim (fun x9=>((jO k x9.1 x9.2.1 x9.2.2.1 x9.2.2.2).bind fun x10=>((jX k x9.2.2.2).bind fun x11=>((cS k x6 x9 x11 0).bind (fun q=>Sum.elim (fun x13=>(if eqI x6.2 0=true then (if eqI x11.2 0=true then ((r7 k x6.1 x11.1).bind fun x14=>(some x14)) else (some false)) else (some false))) (fun x13=>(some x13)) q))))) (fun x9=>(some x9)) q)))))))) else (some false)))
end Go.Ws
