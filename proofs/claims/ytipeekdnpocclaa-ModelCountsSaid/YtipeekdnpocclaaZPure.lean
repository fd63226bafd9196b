/-
  The functions as plain Lean functions. (Printed by my own program.)
  Conditions: none.
-/
import Derived.Test.YtipeekdnpocclaaZB2
import Derived.Test.YtipeekdnpocclaaZOppDef
import Derived.Test.YtipeekdnpocclaaZAgrDef
set_option linter.unusedVariables false
set_option linter.unusedSimpArgs false
namespace Go.Ws
abbrev aL:=List (Int × Int)
abbrev Ty11:=Int × Int × Bool
abbrev aDF:=Sum (Unit) (Bool)
abbrev Ty9:=Int × Int × Int × Int
abbrev Ty8:=List Ty11
abbrev Ty7:=List Ty9
abbrev Ty6:=Int × aL × Bool × Int
abbrev Ty4:=Int × Ty6
abbrev Ty2:=List Ty4
abbrev Ty1:=Sum (aL × Ty8 × Ty2 × Ty7) (Unit)
abbrev Ty0:=Sum (aL × Ty8 × Ty2 × Ty7) (Ty1)
set_option linter.unusedVariables false
def aC:Ty7:=[(1,1,0,0),(3,1,0,5),(4,1,0,1),(5,1,0,0),(6,1,0,2)]
def aEV:Unit:=()
def jI (k:Nat) (x1:Ty8):Option Unit:=(if dR (x1.length*24)=true then (some ()) else none)
def qL:Unit:=()
def oF (k:Nat) (x1:Ty8):Option Unit:=jI k x1
def iH (x1:Int) (x2:Int):Bool:=(if ltI x2 64=true then (if ltI x1 0=true then false else ltI x1 1000) else false)
def iO (x1:Int):Bool:=(!eqI x1 x1)
def bK (x1:Int) (x2:Int):Int:=(if (iO x1)=true then (if (iO x2)=true then 0 else (-1)) else (if (iO x2)=true then 1 else (if ltI x1 x2=true then (-1) else (if ltI x2 x1=true then 1 else 0))))
def eT (x1:Int):Bool:=(!eqI x1 x1)
def dV (x1:Int) (x2:Int):Int:=(if (eT x1)=true then (if (eT x2)=true then 0 else (-1)) else (if (eT x2)=true then 1 else (if ltI x1 x2=true then (-1) else (if ltI x2 x1=true then 1 else 0))))
def kW:Nat→(List Int)→Int→Option (Sum (Unit) (Int))
 | 0,_,_=>none
 | k+1,x1,dM=>(if ltI dM (nI x1.length)=true then (if inI dM x1.length=true then ((x1[tN dM]?).bind fun o9=>(if eqI o9 0=true then (kW k x1 (aM .i64 dM 1)) else (some (.inr o9)))) else none) else (some (.inl ())))
def aCB (k:Nat) (x1:List Int):Option Int:=((kW k x1 0).bind (fun q=>Sum.elim (fun x3=>(some 0)) (fun x3=>(some x3)) q))
def nW (k:Nat) (x1:Int) (x2:Int) (x3:Bool) (x4:Int) (x5:Int) (x6:Bool):Option Int:=((aCB k [(bK x1 x4),(dV x2 x5)]).bind fun x7=>(some x7))
def eS:Nat→Ty8→Int→Option aDF
 | 0,_,_=>none
 | k+1,x1,bP=>(if ltI bP (nI x1.length)=true then (if inI bP x1.length=true then ((x1[tN bP]?).bind fun aV=>(if (iH aV.2.1 aV.1)=true then (if eqI bP 0=true then (eS k x1 (aM .i64 bP 1)) else (if inI (rW .i64 bP 1) x1.length=true then ((x1[tN (rW .i64 bP 1)]?).bind fun cN=>((nW k cN.1 cN.2.1 cN.2.2 aV.1 aV.2.1 aV.2.2).bind fun m5=>(if ltI m5 0=true then (if eqI cN.1 aV.1=true then (if cN.2.2=true then (some (.inr false)) else (if aV.2.2=true then (some (.inr false)) else (eS k x1 (aM .i64 bP 1)))) else (eS k x1 (aM .i64 bP 1))) else (some (.inr false))))) else none)) else (some (.inr false)))) else none) else (some (.inl ())))
def qZ (k:Nat) (x1:Ty8):Option Bool:=((eS k x1 0).bind (fun q=>Sum.elim (fun x3=>(some true)) (fun x3=>(some x3)) q))
def bG:Nat→Ty8→Int→Int→Bool→Int→Int→Option (Int)
 | 0,_,_,_,_,_,_=>none
 | k+1,x1,x2,x3,x4,b9,cO=>(if ltI b9 cO=true then (if inI (conv .i64 (sA .u64 (conv .u64 (aM .i64 b9 cO)) 1)) x1.length=true then ((x1[tN (conv .i64 (sA .u64 (conv .u64 (aM .i64 b9 cO)) 1))]?).bind fun g9=>((nW k g9.1 g9.2.1 g9.2.2 x2 x3 x4).bind fun tZ=>(if ltI tZ 0=true then (bG k x1 x2 x3 x4 (aM .i64 (conv .i64 (sA .u64 (conv .u64 (aM .i64 b9 cO)) 1)) 1) cO) else (bG k x1 x2 x3 x4 b9 (conv .i64 (sA .u64 (conv .u64 (aM .i64 b9 cO)) 1)))))) else none) else (some b9))
def fS (k:Nat) (x1:Ty8) (x2:Int) (x3:Int) (x4:Bool):Option (Int × Bool):=((bG k x1 x2 x3 x4 0 (nI x1.length)).bind (fun x6=>(if ltI x6 (nI x1.length)=true then (if inI x6 x1.length=true then ((x1[tN x6]?).bind fun x7=>((nW k x7.1 x7.2.1 x7.2.2 x2 x3 x4).bind fun x8=>(some (x6,eqI x8 0)))) else none) else (some (x6,false)))))
def o7 (k:Nat) (x1:Int) (x2:Ty8) (x3:Ty8):Option Ty8:=aDN 24 x1 x2 x3
def fM:Nat→Ty8→Int→Int→Bool→Int→Option (Sum (Unit) (Ty8 × Int))
 | 0,_,_,_,_,_=>none
 | k+1,x1,x2,x3,x4,cP=>(if ltI cP (nI x1.length)=true then (if inI cP x1.length=true then ((x1[tN cP]?).bind fun hH=>(if eqI hH.1 x3=true then (if eqI hH.2.1 x2=true then (fM k x1 x2 x3 x4 (aM .i64 cP 1)) else (if x4=true then (some (.inr (x1,9))) else (if hH.2.2=true then (some (.inr (x1,9))) else (fM k x1 x2 x3 x4 (aM .i64 cP 1))))) else (fM k x1 x2 x3 x4 (aM .i64 cP 1)))) else none) else (some (.inl ())))
def s5 (k:Nat) (x1:Ty8) (x2:Int) (x3:Int) (x4:Bool):Option (Ty8 × Int):=((oF k x1).bind fun x5=>((qZ k x1).bind fun x6=>(if x6=true then (if (iH x2 x3)=true then ((fM k x1 x2 x3 x4 0).bind (fun q=>Sum.elim (fun x8=>((fS k x1 x3 x2 x4).bind fun x9=>(if x9.2=true then (if inI x9.1 x1.length=true then ((x1[tN x9.1]?).bind fun x10=>(if x10.2.2=true then (some ((List.set x1 (tN x9.1) (x10.1,x10.2.1,true)),0)) else (some ((List.set x1 (tN x9.1) (x10.1,x10.2.1,x4)),0)))) else none) else ((o7 k x9.1 x1 [(x3,x2,x4)]).bind fun x10=>(some (x10,0)))))) (fun x8=>(some x8)) q)) else (some (x1,2))) else (some (x1,2)))))
def g7 (k:Nat) (x1:aL):Option Unit:=(if dR (x1.length*16)=true then (some ()) else none)
def nM:Unit:=()
def gS (k:Nat) (x1:aL):Option Unit:=g7 k x1
def nB (k:Nat) (x1:Int) (x2:aL) (x3:Bool) (x4:Int):Option Unit:=((gS k x2).bind fun x5=>(some ()))
def g4 (x1:Int) (x2:Int):Bool:=(!ltI x1 64)
def cU:Nat→aL→Int→Option (Sum (Unit) (Int))
 | 0,_,_=>none
 | k+1,x1,cX=>(if ltI cX (nI x1.length)=true then (if inI cX x1.length=true then ((x1[tN cX]?).bind fun hI=>(if (g4 hI.1 hI.2)=true then (some (.inr cX)) else (cU k x1 (aM .i64 cX 1)))) else none) else (some (.inl ())))
def j8 (k:Nat) (x1:aL):Option Int:=((cU k x1 0).bind (fun q=>Sum.elim (fun x3=>(some (-1))) (fun x3=>(some x3)) q))
def iP (k:Nat) (x1:aL):Option Bool:=((j8 k x1).bind fun x2=>(some (!ltI x2 0)))
def mL (k:Nat) (x1:Int) (x2:aL) (x3:Bool) (x4:Int):Option Bool:=(if ltI x1 0=true then (some false) else (if ltI 3 x1=true then (some false) else (if ltI 50 (nI x2.length)=true then (some false) else ((iP k x2).bind fun x5=>(if x5=true then (some false) else (if eqI x4 1=true then (if eqI x1 3=true then (some true) else (if eqI x4 0=true then (if x3=true then (some (eqI x1 1)) else (some true)) else (some false))) else (if eqI x1 3=true then (some (eqI x4 2)) else (if eqI x4 0=true then (if x3=true then (some (eqI x1 1)) else (some true)) else (some false)))))))))
def vL (k:Nat) (x1:Int) (x2:aL) (x3:Bool) (x4:Int) (x5:Int) (x6:Int):Option (Int × aL × Bool × Int × Int):=((nB k x1 x2 x3 x4).bind fun x7=>((mL k x1 x2 x3 x4).bind fun x8=>(if x8=true then (if (g4 x5 x6)=true then (some (x1,x2,x3,x4,2)) else (if eqI x1 0=true then (if ltI (nI x2.length) 50=true then (if dR (((x2++[(x5,x6)]).length)*16)=true then (some (x1,(x2++[(x5,x6)]),x3,x4,0)) else none) else (some (x1,x2,x3,x4,6))) else (some (x1,x2,x3,x4,13)))) else (some (x1,x2,x3,x4,2)))))
def f7:Nat→aL→Int→Int→Option (Sum (Unit) (Int))
 | 0,_,_,_=>none
 | k+1,x1,x2,dN=>(if ltI dN (nI x1.length)=true then (if inI dN x1.length=true then ((x1[tN dN]?).bind fun m6=>(if eqI m6.1 x2=true then (some (.inr m6.2)) else (f7 k x1 x2 (aM .i64 dN 1)))) else none) else (some (.inl ())))
def q8 (k:Nat) (x1:aL) (x2:Int):Option Int:=((f7 k x1 x2 0).bind (fun q=>Sum.elim (fun x4=>(some 0)) (fun x4=>(some x4)) q))
def iR (k:Nat) (x1:Int) (x2:aL) (x3:Bool) (x4:Int):Option Ty6:=((gS k x2).bind fun x5=>(some (x1,x2,x3,x4)))
def s4 (k:Nat) (x1:Int) (x2:aL) (x3:Bool) (x4:Int) (x5:Bool):Option (Int × aL × Bool × Int × Int):=((iR k x1 x2 x3 x4).bind fun x6=>((mL k x6.1 x6.2.1 x6.2.2.1 x6.2.2.2).bind fun x7=>(if x7=true then (if eqI x6.1 0=true then (if x5=true then (some (1,x6.2.1,x6.2.2.1,x6.2.2.2,0)) else (some (2,x6.2.1,x6.2.2.1,x6.2.2.2,0))) else (some (x6.1,x6.2.1,x6.2.2.1,x6.2.2.2,13))) else (some (x6.1,x6.2.1,x6.2.2.1,x6.2.2.2,2)))))
def g8 (k:Nat) (x1:aL):Option Unit:=(if dR (x1.length*16)=true then (some ()) else none)
def oA:Unit:=()
def mW (k:Nat) (x1:aL):Option Unit:=g8 k x1
def d8:Nat→aL→Int→Option aDF
 | 0,_,_=>none
 | k+1,x1,bW=>(if ltI bW (nI x1.length)=true then (if inI bW x1.length=true then ((x1[tN bW]?).bind fun iK=>(if ltI iK.1 64=true then (if eqI iK.2 0=true then (some (.inr false)) else (if ltI 0 bW=true then (if inI (rW .i64 bW 1) x1.length=true then ((x1[tN (rW .i64 bW 1)]?).bind fun t4=>(if ltI t4.1 iK.1=true then (d8 k x1 (aM .i64 bW 1)) else (some (.inr false)))) else none) else (d8 k x1 (aM .i64 bW 1)))) else (some (.inr false)))) else none) else (some (.inl ())))
def oH (k:Nat) (x1:aL):Option Bool:=((d8 k x1 0).bind (fun q=>Sum.elim (fun x3=>(some true)) (fun x3=>(some x3)) q))
def wC (x1:Int) (x2:Int):Unit:=()
def cH:Nat→aL→Int→Option (Sum (Unit) (Int))
 | 0,_,_=>none
 | k+1,x1,cA=>(if ltI cA (nI x1.length)=true then (if inI cA x1.length=true then ((x1[tN cA]?).bind fun i5=>(if ltI i5.1 64=true then (cH k x1 (aM .i64 cA 1)) else (some (.inr cA)))) else none) else (some (.inl ())))
def iW (k:Nat) (x1:aL):Option Int:=((cH k x1 0).bind (fun q=>Sum.elim (fun x3=>(some (-1))) (fun x3=>(some x3)) q))
def gO (k:Nat) (x1:aL):Option Bool:=((iW k x1).bind fun x2=>(some (!ltI x2 0)))
def uS (x1:Int) (x2:Int) (x3:Int):Unit:=()
def aZ:Nat→aL→Int→Int→Int→Option (Int)
 | 0,_,_,_,_=>none
 | k+1,x1,x2,cC,cQ=>(if ltI cC cQ=true then (if inI (conv .i64 (sA .u64 (conv .u64 (aM .i64 cC cQ)) 1)) x1.length=true then ((x1[tN (conv .i64 (sA .u64 (conv .u64 (aM .i64 cC cQ)) 1))]?).bind fun kP=>(if ltI (bK kP.1 x2) 0=true then (aZ k x1 x2 (aM .i64 (conv .i64 (sA .u64 (conv .u64 (aM .i64 cC cQ)) 1)) 1) cQ) else (aZ k x1 x2 cC (conv .i64 (sA .u64 (conv .u64 (aM .i64 cC cQ)) 1))))) else none) else (some cC))
def eQ (k:Nat) (x1:aL) (x2:Int):Option (Int × Bool):=((aZ k x1 x2 0 (nI x1.length)).bind (fun x4=>(if ltI x4 (nI x1.length)=true then (if inI x4 x1.length=true then ((x1[tN x4]?).bind fun x5=>(some (x4,eqI (bK x5.1 x2) 0))) else none) else (some (x4,false)))))
def pO (k:Nat) (x1:aL) (x2:Int):Option (Int × Bool):=((eQ k x1 x2).bind fun x3=>(some (x3.1,x3.2)))
def o8 (k:Nat) (x1:Int) (x2:Int) (x3:aL):Option aL:=delP x1 x2 x3
def mB (k:Nat) (x1:Int) (x2:aL) (x3:aL):Option aL:=aDN 16 x1 x2 x3
def mZ (k:Nat) (x1:Int) (x2:Int) (x3:aL):Option aL:=delP x1 x2 x3
def eH:Nat→aL→Int→aL→Option (aL)
 | 0,_,_,_=>none
 | k+1,x2,cD,aP=>(if ltI cD (nI x2.length)=true then (if inI cD x2.length=true then ((x2[tN cD]?).bind fun bA=>((pO k aP bA.1).bind fun aT=>(if aT.2=true then (if inI aT.1 aP.length=true then ((aP[tN aT.1]?).bind fun aS=>(((List.set aP (tN aT.1) (aS.1,aM .i64 aS.2 bA.2))[tN aT.1]?).bind fun bL=>(if eqI bL.2 0=true then ((o8 k aT.1 (aM .i64 aT.1 1) (List.set aP (tN aT.1) (aS.1,aM .i64 aS.2 bA.2))).bind fun gE=>(eH k x2 (aM .i64 cD 1) gE)) else (eH k x2 (aM .i64 cD 1) (List.set aP (tN aT.1) (aS.1,aM .i64 aS.2 bA.2)))))) else none) else ((mB k aT.1 aP [(bA.1,0)]).bind fun aS=>(if inI aT.1 aS.length=true then ((aS[tN aT.1]?).bind fun bL=>(((List.set aS (tN aT.1) (bL.1,aM .i64 bL.2 bA.2))[tN aT.1]?).bind fun gE=>(if eqI gE.2 0=true then ((mZ k aT.1 (aM .i64 aT.1 1) (List.set aS (tN aT.1) (bL.1,aM .i64 bL.2 bA.2))).bind fun lH=>(eH k x2 (aM .i64 cD 1) lH)) else (eH k x2 (aM .i64 cD 1) (List.set aS (tN aT.1) (bL.1,aM .i64 bL.2 bA.2)))))) else none))))) else none) else (some aP))
def lI (k:Nat) (x1:aL) (x2:aL):Option (aL × Int):=((mW k x1).bind fun x3=>((oH k x1).bind fun x4=>(if x4=true then ((gO k x2).bind fun x5=>(if x5=true then (some (x1,2)) else ((eH k x2 0 x1).bind (fun x7=>(some (x7,0)))))) else (some (x1,2)))))
def xB (x1:Int) (x2:Int) (x3:Bool) (x4:Int):Unit:=()
def bX:Nat→Ty8→Int→Int→Option (Sum (Unit) (Int))
 | 0,_,_,_=>none
 | k+1,x1,x2,cY=>(if ltI cY (nI x1.length)=true then (if inI cY x1.length=true then ((x1[tN cY]?).bind fun iL=>(if eqI iL.2.1 x2=true then (some (.inr cY)) else (bX k x1 x2 (aM .i64 cY 1)))) else none) else (some (.inl ())))
def iN (k:Nat) (x1:Ty8) (x2:Int):Option Int:=((bX k x1 x2 0).bind (fun q=>Sum.elim (fun x4=>(some (-1))) (fun x4=>(some x4)) q))
def b8:Nat→Ty8→Int→Int→Int→Ty8→Option (Int × Ty8)
 | 0,_,_,_,_,_=>none
 | k+1,x1,x2,cZ,cK,dA=>(if ltI cZ (nI x1.length)=true then (if inI cZ x1.length=true then ((dA[tN cZ]?).bind fun eR=>(if eqI eR.2.1 x2=true then (b8 k x1 x2 (aM .i64 cZ 1) cK dA) else (if inI cK x1.length=true then ((dA[tN cK]?).bind fun aKV=>(b8 k x1 x2 (aM .i64 cZ 1) (aM .i64 cK 1) (List.set dA (tN cK) eR))) else none))) else none) else (some (cK,dA)))
def jM (k:Nat) (x1:Ty8) (x2:Int):Option (Nat × Ty8):=((iN k x1 x2).bind fun x3=>(if eqI x3 (-1)=true then (some (x1.length,x1)) else ((b8 k x1 x2 (aM .i64 x3 1) x3 x1).bind (fun x5=>(if isZ x1.length=true then none else (if sG x1.length x5.2.length=true then (if leI x5.1 x1.length=true then (if isZ (x1.length - (tN x5.1))=true then (if leI x5.1 x5.2.length=true then (some (tN x5.1,x5.2)) else none) else (if sG (tN x5.1+(x1.length - (tN x5.1))) x5.2.length=true then (if sG (tN x5.1) x5.2.length=true then (if sG x1.length ((((List.take (tN x5.1) x5.2)++(List.replicate (x1.length - (tN x5.1)) (0,0,false)))++(List.drop (tN x5.1+(x1.length - (tN x5.1))) x5.2)).length)=true then (if leI x5.1 ((((List.take (tN x5.1) x5.2)++(List.replicate (x1.length - (tN x5.1)) (0,0,false)))++(List.drop (tN x5.1+(x1.length - (tN x5.1))) x5.2)).length)=true then (some (tN x5.1,(((List.take (tN x5.1) x5.2)++(List.replicate (x1.length - (tN x5.1)) (0,0,false)))++(List.drop (tN x5.1+(x1.length - (tN x5.1))) x5.2)))) else none) else none) else none) else none)) else none) else none))))))
def oC (k:Nat) (x1:Ty8) (x2:Int):Option Ty8:=((oF k x1).bind fun x3=>((jM k x1 x2).bind fun x4=>(if sG x4.1 x4.2.length=true then (some (List.take x4.1 x4.2)) else none)))
def rC (k:Nat) (x1:Int) (x2:aL) (x3:Bool) (x4:Int):Option (Int × aL × Bool × Int × aL × Int):=((iR k x1 x2 x3 x4).bind fun x5=>((mL k x5.1 x5.2.1 x5.2.2.1 x5.2.2.2).bind fun x6=>(if x6=true then (if eqI x5.1 1=true then (if x5.2.2.1=true then (some (x5.1,x5.2.1,x5.2.2.1,x5.2.2.2,[],8)) else ((gS k x5.2.1).bind fun x7=>(some (x5.1,x5.2.1,true,x5.2.2.2,x5.2.1,0)))) else (some (x5.1,x5.2.1,x5.2.2.1,x5.2.2.2,[],13))) else (some (x5.1,x5.2.1,x5.2.2.1,x5.2.2.2,[],2)))))
def mD (k:Nat) (x1:aL):Option aL:=oppP x1
def nS (k:Nat) (x1:Int) (x2:aL) (x3:Bool) (x4:Int) (x5:Int):Option (Int × aL × Bool × Int × aL × Int):=((iR k x1 x2 x3 x4).bind fun x6=>((mL k x6.1 x6.2.1 x6.2.2.1 x6.2.2.2).bind fun x7=>(if x7=true then (if eqI x5 1=true then (if eqI x6.2.2.2 x5=true then (some (x6.1,x6.2.1,x6.2.2.1,x6.2.2.2,[],0)) else (if eqI x6.1 3=true then (some (x6.1,x6.2.1,x6.2.2.1,x6.2.2.2,[],13)) else (if eqI x6.1 1=true then (if eqB (eqI x5 1) x6.2.2.1=true then (some (3,x6.2.1,x6.2.2.1,x5,[],0)) else (if x6.2.2.1=true then ((mD k x6.2.1).bind fun x8=>(some (3,x6.2.1,x6.2.2.1,x5,x8,0))) else ((gS k x6.2.1).bind fun x8=>(some (3,x6.2.1,x6.2.2.1,x5,x6.2.1,0))))) else (some (x6.1,x6.2.1,x6.2.2.1,x6.2.2.2,[],13))))) else (if eqI x5 2=true then (if eqI x6.2.2.2 x5=true then (some (x6.1,x6.2.1,x6.2.2.1,x6.2.2.2,[],0)) else (if eqI x6.1 3=true then (some (x6.1,x6.2.1,x6.2.2.1,x6.2.2.2,[],13)) else (if eqB (eqI x5 1) x6.2.2.1=true then (some (3,x6.2.1,x6.2.2.1,x5,[],0)) else (if x6.2.2.1=true then ((mD k x6.2.1).bind fun x8=>(some (3,x6.2.1,x6.2.2.1,x5,x8,0))) else ((gS k x6.2.1).bind fun x8=>(some (3,x6.2.1,x6.2.2.1,x5,x6.2.1,0))))))) else (some (x6.1,x6.2.1,x6.2.2.1,x6.2.2.2,[],2)))) else (some (x6.1,x6.2.1,x6.2.2.1,x6.2.2.2,[],2)))))
def rA (x1:aL) (x2:Ty8) (x3:Ty2) (x4:Ty7):Unit:=()
def bT:Nat→aL→Int→Int→Int→Int→aL→Ty8→Ty2→Ty7→(Ty8 × Int)→Int→Int→Option (Int)
 | 0,_,_,_,_,_,_,_,_,_,_,_,_=>none
 | k+1,x2,x5,x6,x7,x8,x9,x10,x11,x12,x13,cW,cE=>(if ltI cE (nI x2.length)=true then (if inI cE x2.length=true then ((x2[tN cE]?).bind fun k8=>(if eqI k8.1 x7=true then (bT k x2 x5 x6 x7 x8 x9 x10 x11 x12 x13 (aM .i64 cW k8.2) (aM .i64 cE 1)) else (bT k x2 x5 x6 x7 x8 x9 x10 x11 x12 x13 cW (aM .i64 cE 1)))) else none) else (some cW))
def gV (k:Nat) (x1:Int) (x2:aL) (x3:Bool) (x4:Int) (x5:Int) (x6:Int) (x7:Int) (x8:Int) (x9:aL) (x10:Ty8) (x11:Ty2) (x12:Ty7):Option (Ty8 × Ty2 × Int × Int):=(if eqI x1 0=true then ((s5 k x10 x6 x7 (eqI x5 3)).bind fun x13=>(if eqI x13.2 0=true then (if eqI x5 3=true then ((vL k x1 x2 x3 x4 x7 x8).bind fun x14=>(if eqI x14.2.2.2.2 0=true then (if nL x11 x6=true then ((bR x11 x6).bind fun x15=>(some (x13.1,(bF x11 x6 (x14.1,x14.2.1,x14.2.2.1,x14.2.2.2.1)),0,0))) else (some (x13.1,(bF x11 x6 (x14.1,x14.2.1,x14.2.2.1,x14.2.2.2.1)),0,0))) else (some (x10,x11,x14.2.2.2.2,0)))) else ((q8 k x9 x7).bind fun x14=>((bT k x2 x5 x6 x7 x8 x9 x10 x11 x12 x13 x14 0).bind (fun x16=>(some (x13.1,x11,0,x16)))))) else (some (x10,x11,x13.2,0)))) else (some (x10,x11,13,0)))
def kY (k:Nat) (x1:Int) (x2:aL) (x3:Bool) (x4:Int) (x5:Int) (x6:Int) (x7:Int) (x8:Int) (x9:aL) (x10:Ty8) (x11:Ty2) (x12:Ty7):Option (aL × Ty8 × Ty2 × Int):=(if eqI x5 4=true then ((s4 k x1 x2 x3 x4 (!eqI x8 0)).bind fun x13=>(if eqI x13.2.2.2.2 0=true then ((lI k x9 []).bind fun x14=>(if eqI x13.1 2=true then ((oC k x10 x6).bind fun x15=>(some (x14.1,x15,(bF x11 x6 (x13.1,x13.2.1,x13.2.2.1,x13.2.2.2.1)),0))) else (some (x14.1,x10,(bF x11 x6 (x13.1,x13.2.1,x13.2.2.1,x13.2.2.2.1)),0)))) else (some (x9,x10,x11,x13.2.2.2.2)))) else (if eqI x5 5=true then ((rC k x1 x2 x3 x4).bind fun x13=>(if eqI x13.2.2.2.2.2 0=true then ((lI k x9 x13.2.2.2.2.1).bind fun x14=>((oC k x10 x6).bind fun x15=>(some (x14.1,x15,(bF x11 x6 (x13.1,x13.2.1,x13.2.2.1,x13.2.2.2.1)),0)))) else (some (x9,x10,x11,x13.2.2.2.2.2)))) else (if eqI x8 1=true then ((nS k x1 x2 x3 x4 x8).bind fun x13=>(if eqI x13.2.2.2.2.2 0=true then ((lI k x9 x13.2.2.2.2.1).bind fun x14=>((oC k x10 x6).bind fun x15=>(some (x14.1,x15,(bF x11 x6 (x13.1,x13.2.1,x13.2.2.1,x13.2.2.2.1)),0)))) else (some (x9,x10,x11,x13.2.2.2.2.2)))) else (if eqI x8 2=true then ((nS k x1 x2 x3 x4 x8).bind fun x13=>(if eqI x13.2.2.2.2.2 0=true then ((lI k x9 x13.2.2.2.2.1).bind fun x14=>((oC k x10 x6).bind fun x15=>(some (x14.1,x15,(bF x11 x6 (x13.1,x13.2.1,x13.2.2.1,x13.2.2.2.1)),0)))) else (some (x9,x10,x11,x13.2.2.2.2.2)))) else (some (x9,x10,x11,2))))))
def iY (k:Nat) (x1:Int) (x2:aL) (x3:Bool) (x4:Int) (x5:Int) (x6:Int) (x7:Int) (x8:Int) (x9:aL) (x10:Ty8) (x11:Ty2) (x12:Ty7):Option (Int × Int × Ty8 × Ty2 × aL):=(if eqI x5 1=true then (some (0,0,x10,(bF x11 x6 (x1,x2,x3,x4)),x9)) else (if eqI x5 2=true then ((gV k x1 x2 x3 x4 x5 x6 x7 x8 x9 x10 x11 x12).bind fun x13=>(some (x13.2.2.2,x13.2.2.1,x13.1,x13.2.1,x9))) else (if eqI x5 3=true then ((gV k x1 x2 x3 x4 x5 x6 x7 x8 x9 x10 x11 x12).bind fun x13=>(some (x13.2.2.2,x13.2.2.1,x13.1,x13.2.1,x9))) else ((kY k x1 x2 x3 x4 x5 x6 x7 x8 x9 x10 x11 x12).bind fun x13=>(some (0,x13.2.2.2,x13.2.1,x13.2.2.1,x13.1))))))
def kL (k:Nat) (x1:Int) (x2:Int) (x3:Int) (x4:Int) (x5:aL) (x6:Ty8) (x7:Ty2) (x8:Ty7):Option (Int × Int × aL × Ty8 × Ty2 × Ty7):=(if ltI x1 1=true then (some (2,0,x5,x6,x7,x8)) else (if ltI 6 x1=true then (some (2,0,x5,x6,x7,x8)) else (if ltI x2 0=true then (some (2,0,x5,x6,x7,x8)) else (if ltI x2 1000=true then (if nL x7 x2=true then ((bR x7 x2).bind fun x9=>(if eqB true (eqI x1 1)=true then (some (8,0,x5,x6,x7,x8)) else ((iY k x9.1 x9.2.1 x9.2.2.1 x9.2.2.2 x1 x2 x3 x4 x5 x6 x7 x8).bind fun x10=>(if eqI x10.2.1 0=true then (if dR (((x8++[(x1,x2,x3,x4)]).length)*32)=true then (some (0,x10.1,x10.2.2.2.2,x10.2.2.1,x10.2.2.2.1,(x8++[(x1,x2,x3,x4)]))) else none) else (some (x10.2.1,0,x10.2.2.2.2,x10.2.2.1,x10.2.2.2.1,x8)))))) else (if eqB false (eqI x1 1)=true then (some (7,0,x5,x6,x7,x8)) else ((iY k 0 [] false 0 x1 x2 x3 x4 x5 x6 x7 x8).bind fun x9=>(if eqI x9.2.1 0=true then (if dR (((x8++[(x1,x2,x3,x4)]).length)*32)=true then (some (0,x9.1,x9.2.2.2.2,x9.2.2.1,x9.2.2.2.1,(x8++[(x1,x2,x3,x4)]))) else none) else (some (x9.2.1,0,x9.2.2.2.2,x9.2.2.1,x9.2.2.2.1,x8)))))) else (some (2,0,x5,x6,x7,x8))))))
def fB:Nat→Ty7→Int→aL→Ty8→Ty2→Ty7→Option Ty0
 | 0,_,_,_,_,_,_=>none
 | k+1,x1,dO,eJ,eK,eC,eD=>(if ltI dO (nI x1.length)=true then (if inI dO x1.length=true then ((x1[tN dO]?).bind fun eX=>((kL k eX.1 eX.2.1 eX.2.2.1 eX.2.2.2 eJ eK eC eD).bind fun dB=>(if eqI dB.1 0=true then (fB k x1 (aM .i64 dO 1) dB.2.2.1 dB.2.2.2.1 dB.2.2.2.2.1 dB.2.2.2.2.2) else (some (.inr (.inr ())))))) else none) else (some (.inl (eJ,eK,eC,eD))))
def pR (k:Nat) (x1:Ty7):Option Ty1:=((fB k x1 0 [] [] ([]:Ty2) []).bind (fun q=>Sum.elim (fun x3=>(some (.inl (x3.1,x3.2.1,x3.2.2.1,x3.2.2.2)))) (fun x3=>(some x3)) q))
def fF:Nat→Ty7→Int→aL→Option (aL)
 | 0,_,_,_=>none
 | k+1,x1,eE,eI=>(if ltI eE (nI x1.length)=true then (if inI eE x1.length=true then ((x1[tN eE]?).bind fun gU=>(if eqI gU.1 6=true then (fF k x1 (aM .i64 eE 1) (bF eI gU.2.1 gU.2.2.2)) else (fF k x1 (aM .i64 eE 1) eI))) else none) else (some eI))
def lK (k:Nat) (x1:Ty7):Option (Sum (aL) (Unit)):=((pR k x1).bind (fun q=>Sum.elim (fun x3=>((fF k x1 0 ([]:aL)).bind (fun x5=>(some (.inl x5))))) (fun x3=>(some (.inr ()))) q))
def f4:Nat→Ty7→Int→Option (Unit)
 | 0,_,_=>none
 | k+1,x1,fC=>(if ltI fC (nI x1.length)=true then (if inI fC x1.length=true then ((x1[tN fC]?).bind fun yP=>(f4 k x1 (aM .i64 fC 1))) else none) else (some ()))
def dG:Nat→Ty7→aL→Int→Int→Option (Int)
 | 0,_,_,_,_=>none
 | k+1,x1,x3,cS,cF=>(if ltI cF (nI x1.length)=true then (if inI cF x1.length=true then ((x1[tN cF]?).bind fun iM=>(if eqI iM.1 5=true then (if nL x3 iM.2.1=true then ((bR x3 iM.2.1).bind fun t5=>(if eqI t5 2=true then (dG k x1 x3 (aM .i64 cS 1) (aM .i64 cF 1)) else (dG k x1 x3 cS (aM .i64 cF 1)))) else (dG k x1 x3 cS (aM .i64 cF 1))) else (dG k x1 x3 cS (aM .i64 cF 1)))) else none) else (some cS))
def jW (k:Nat) (x1:Ty7):Option (Int × Int):=((lK k x1).bind (fun q=>Sum.elim (fun x3=>((dG k x1 x3 0 0).bind (fun x5=>(some (x5,0))))) (fun x3=>((f4 k x1 0).bind (fun x5=>(some (0,4))))) q))
def dE:Nat→Ty7→aL→Int→aL→Option (aL)
 | 0,_,_,_,_=>none
 | k+1,x1,x3,cG,aR=>(if ltI cG (nI x1.length)=true then (if inI cG x1.length=true then ((x1[tN cG]?).bind fun cI=>(if eqI cI.1 3=true then (if nL x3 cI.2.1=true then ((bR x3 cI.2.1).bind fun t6=>(if eqI t6 1=true then (if dR (((aR++[cI.2.2]).length)*16)=true then (dE k x1 x3 (aM .i64 cG 1) (aR++[cI.2.2])) else none) else (dE k x1 x3 (aM .i64 cG 1) aR))) else (dE k x1 x3 (aM .i64 cG 1) aR)) else (dE k x1 x3 (aM .i64 cG 1) aR))) else none) else (some aR))
def lA (k:Nat) (x1:Ty7):Option (aL × Int):=((lK k x1).bind (fun q=>Sum.elim (fun x3=>((dE k x1 x3 0 []).bind (fun x5=>((lI k [] x5).bind fun x6=>(some (x6.1,x6.2)))))) (fun x3=>(some ([],4))) q))
def pQ (x1:aL):Bool:=kS (x1++x1)
def oR (x1:aL) (x2:aL):Bool:=kS (x1++x2)
def pM (k:Nat):Option Bool:=(if eqI (nI aC.length) 0=true then (some false) else ((lK k aC).bind (fun q=>Sum.elim (fun x2=>((jW k aC).bind fun x3=>((lA k aC).bind fun x4=>(if leI 1 aC.length=true then ((lK k (List.drop 1 aC)).bind (fun q=>Sum.elim (fun x6=>(if eqI (nI x2.length) 1=true then (if nL x2 1=true then ((bR x2 1).bind fun x7=>(if eqI x7 2=true then (if eqI x3.1 1=true then (if eqI x3.2 0=true then (if eqI (nI x4.1.length) 0=true then (if eqI x4.2 0=true then (some false) else (some false)) else (some false)) else (some false)) else (some false)) else (some false))) else (some false)) else (some false))) (fun x6=>(if eqI (nI x2.length) 1=true then (if nL x2 1=true then ((bR x2 1).bind fun x7=>(if eqI x7 2=true then (if eqI x3.1 1=true then (if eqI x3.2 0=true then (if eqI (nI x4.1.length) 0=true then (if eqI x4.2 0=true then (if (pQ x2)=true then (some (!(oR x2 (bF ([]:aL) 1 1)))) else (some false)) else (some false)) else (some false)) else (some false)) else (some false)) else (some false))) else (some false)) else (some false))) q)) else none)))) (fun x2=>((jW k aC).bind fun x3=>((lA k aC).bind fun x4=>(if leI 1 aC.length=true then ((lK k (List.drop 1 aC)).bind (fun q=>Sum.elim (fun x6=>(some false)) (fun x6=>(some false)) q)) else none)))) q)))
def gY (k:Nat) (x1:Ty7):Option Unit:=(if dR (x1.length*32)=true then (some ()) else none)
def nQ:Unit:=()
def k7 (k:Nat) (x1:Ty7):Option Unit:=gY k x1
def nD (k:Nat) (x1:aL) (x2:Ty8) (x3:Ty2) (x4:Ty7):Option Unit:=((k7 k x4).bind fun x5=>(some ()))
def rE (x1:aL) (x2:Ty8) (x3:Ty2) (x4:Ty7):Unit:=()
def kV (k:Nat) (x1:aL) (x2:Ty8) (x3:Ty2) (x4:Ty7):Option Unit:=((k7 k x4).bind fun x5=>(some ()))
def b7:Nat→(aL × Ty8 × Ty2 × Ty7)→Int→Int→Option (Int)
 | 0,_,_,_=>none
 | k+1,x4,fD,eF=>(if ltI eF (nI x4.2.2.2.length)=true then (if inI eF x4.2.2.2.length=true then ((x4.2.2.2[tN eF]?).bind fun oI=>(if eqI oI.1 5=true then (b7 k x4 (aM .i64 fD 1) (aM .i64 eF 1)) else (b7 k x4 fD (aM .i64 eF 1)))) else none) else (some fD))
def cL:Nat→Ty7→Int→aL→Ty8→Ty2→Ty7→Option (aL × Ty8 × Ty2 × Ty7)
 | 0,_,_,_,_,_,_=>none
 | k+1,x1,eU,gC,gD,fV,fW=>(if ltI eU (nI x1.length)=true then (if inI eU x1.length=true then ((x1[tN eU]?).bind fun kR=>((kL k kR.1 kR.2.1 kR.2.2.1 kR.2.2.2 gC gD fV fW).bind fun fO=>(cL k x1 (aM .i64 eU 1) fO.2.2.1 fO.2.2.2.1 fO.2.2.2.2.1 fO.2.2.2.2.2))) else none) else (some (gC,gD,fV,fW)))
def lE (k:Nat) (x1:Ty7):Option Bool:=((pM k).bind fun x2=>(if x2=true then (if ltI 100 (nI x1.length)=true then (some (!false)) else ((cL k x1 0 [] [] ([]:Ty2) []).bind (fun x4=>((nD k x4.1 x4.2.1 x4.2.2.1 x4.2.2.2).bind fun x5=>((b7 k x4 0 0).bind (fun x7=>((kV k x4.1 x4.2.1 x4.2.2.1 x4.2.2.2).bind fun x8=>((jW k x4.2.2.2).bind fun x9=>((jW k []).bind fun x10=>((lA k []).bind fun x11=>(if eqI x9.2 0=true then (if ltI x9.1 0=true then (some false) else (if ltI x7 x9.1=true then (some false) else (if eqI x10.1 0=true then (if eqI x10.2 0=true then (if eqI (nI x11.1.length) 0=true then (some (eqI x11.2 0)) else (some false)) else (some false)) else (some false)))) else (some false)))))))))))) else (some false)))
def iA:Nat→Int→aL→Bool→Int→Int→Option aDF
 | 0,_,_,_,_,_=>none
 | k+1,x1,x2,x3,x4,gF=>(if ltI gF (nI x2.length)=true then (if inI gF x2.length=true then ((x2[tN gF]?).bind fun aFX=>(if ltI aFX.1 64=true then (iA k x1 x2 x3 x4 (aM .i64 gF 1)) else (some (.inr false)))) else none) else (some (.inl ())))
def eZ:Nat→aL→Int→aL→Option (aL)
 | 0,_,_,_=>none
 | k+1,x1,gG,hO=>(if ltI gG 0=true then (some hO) else (if inI gG x1.length=true then ((x1[tN gG]?).bind fun qS=>(if dR (((hO++[(qS.1,aA2 .i64 qS.2)]).length)*16)=true then (eZ k x1 (rW .i64 gG 1) (hO++[(qS.1,aA2 .i64 qS.2)])) else none)) else none))
def m8 (x1:Int) (x2:Int):Bool:=(if ltI x2 64=true then (if ltI x1 0=true then false else ltI x1 1000) else false)
def eA:Nat→Ty8→Ty11→Int→Int→Option (Sum (Int) (Bool))
 | 0,_,_,_,_=>none
 | k+1,x1,bZ,eL,fP=>(if ltI eL (nI x1.length)=true then (if eqI eL fP=true then (eA k x1 bZ (aM .i64 eL 1) fP) else (if inI eL x1.length=true then ((x1[tN eL]?).bind fun aFY=>(if eqI aFY.1 bZ.1=true then (if bZ.2.2=true then (some (.inr false)) else (eA k x1 bZ (aM .i64 eL 1) fP)) else (eA k x1 bZ (aM .i64 eL 1) fP))) else none)) else (some (.inl fP)))
def fY:Nat→Ty8→Int→Option aDF
 | 0,_,_=>none
 | k+1,x1,dP=>(if ltI dP (nI x1.length)=true then (if inI dP x1.length=true then ((x1[tN dP]?).bind fun bZ=>(if (m8 bZ.2.1 bZ.1)=true then (if ltI 0 dP=true then (if inI (rW .i64 dP 1) x1.length=true then ((x1[tN (rW .i64 dP 1)]?).bind fun t7=>(if ltI t7.1 bZ.1=true then ((eA k x1 bZ 0 dP).bind (fun q=>Sum.elim (fun kQ=>(fY k x1 (aM .i64 kQ 1))) (fun kQ=>(some (.inr kQ))) q)) else (if eqI t7.1 bZ.1=true then (if ltI t7.2.1 bZ.2.1=true then ((eA k x1 bZ 0 dP).bind (fun q=>Sum.elim (fun kQ=>(fY k x1 (aM .i64 kQ 1))) (fun kQ=>(some (.inr kQ))) q)) else (some (.inr false))) else (some (.inr false))))) else none) else ((eA k x1 bZ 0 dP).bind (fun q=>Sum.elim (fun t8=>(fY k x1 (aM .i64 t8 1))) (fun t8=>(some (.inr t8))) q))) else (some (.inr false)))) else none) else (some (.inl ())))
def gR:Nat→Ty8→Int→Int→Int→Option (Sum (Unit) (Int))
 | 0,_,_,_,_=>none
 | k+1,x1,x2,x3,fQ=>(if ltI fQ (nI x1.length)=true then (if inI fQ x1.length=true then ((x1[tN fQ]?).bind fun t9=>(if eqI t9.1 x3=true then (if eqI t9.2.1 x2=true then (if t9.2.2=true then (some (.inr 2)) else (some (.inr 1))) else (gR k x1 x2 x3 (aM .i64 fQ 1))) else (gR k x1 x2 x3 (aM .i64 fQ 1)))) else none) else (some (.inl ())))
def bV:Nat→Ty8→Int→Int→Bool→Int→Ty8→Bool→Option (Bool × Bool × Ty8)
 | 0,_,_,_,_,_,_,_=>none
 | k+1,x1,x2,x3,cT,bI,aW,aX=>(if ltI bI (nI x1.length)=true then (if cT=true then (if inI bI x1.length=true then ((x1[tN bI]?).bind fun aY=>(if eqI aY.1 x3=true then (if eqI aY.2.1 x2=true then (bV k x1 x2 x3 cT (aM .i64 bI 1) aW aX) else (if dR (((aW++[aY]).length)*24)=true then (bV k x1 x2 x3 cT (aM .i64 bI 1) (aW++[aY]) aX) else none)) else (if dR (((aW++[aY]).length)*24)=true then (bV k x1 x2 x3 cT (aM .i64 bI 1) (aW++[aY]) aX) else none))) else none) else (if inI bI x1.length=true then ((x1[tN bI]?).bind fun aY=>(if ltI x3 aY.1=true then (if dR (((aW++[(x3,x2,aX)]).length)*24)=true then (if eqI aY.1 x3=true then (if eqI aY.2.1 x2=true then (bV k x1 x2 x3 true (aM .i64 bI 1) (aW++[(x3,x2,aX)]) aX) else (if dR ((((aW++[(x3,x2,aX)])++[aY]).length)*24)=true then (bV k x1 x2 x3 true (aM .i64 bI 1) ((aW++[(x3,x2,aX)])++[aY]) aX) else none)) else (if dR ((((aW++[(x3,x2,aX)])++[aY]).length)*24)=true then (bV k x1 x2 x3 true (aM .i64 bI 1) ((aW++[(x3,x2,aX)])++[aY]) aX) else none)) else none) else (if eqI x3 aY.1=true then (if ltI aY.2.1 x2=true then (if eqI aY.1 x3=true then (if eqI aY.2.1 x2=true then (bV k x1 x2 x3 cT (aM .i64 bI 1) aW aX) else (if dR (((aW++[aY]).length)*24)=true then (bV k x1 x2 x3 cT (aM .i64 bI 1) (aW++[aY]) aX) else none)) else (if dR (((aW++[aY]).length)*24)=true then (bV k x1 x2 x3 cT (aM .i64 bI 1) (aW++[aY]) aX) else none)) else (if dR (((aW++[(x3,x2,aX)]).length)*24)=true then (if eqI aY.1 x3=true then (if eqI aY.2.1 x2=true then (bV k x1 x2 x3 true (aM .i64 bI 1) (aW++[(x3,x2,aX)]) aX) else (if dR ((((aW++[(x3,x2,aX)])++[aY]).length)*24)=true then (bV k x1 x2 x3 true (aM .i64 bI 1) ((aW++[(x3,x2,aX)])++[aY]) aX) else none)) else (if dR ((((aW++[(x3,x2,aX)])++[aY]).length)*24)=true then (bV k x1 x2 x3 true (aM .i64 bI 1) ((aW++[(x3,x2,aX)])++[aY]) aX) else none)) else none)) else (if eqI aY.1 x3=true then (if eqI aY.2.1 x2=true then (bV k x1 x2 x3 cT (aM .i64 bI 1) aW aX) else (if dR (((aW++[aY]).length)*24)=true then (bV k x1 x2 x3 cT (aM .i64 bI 1) (aW++[aY]) aX) else none)) else (if dR (((aW++[aY]).length)*24)=true then (bV k x1 x2 x3 cT (aM .i64 bI 1) (aW++[aY]) aX) else none))))) else none)) else (some (cT,aX,aW)))
def gQ:Nat→Ty8→Int→Int→Bool→Int→Option (Sum (Unit) (Ty8 × Int))
 | 0,_,_,_,_,_=>none
 | k+1,x1,x2,x3,x4,eY=>(if ltI eY (nI x1.length)=true then (if inI eY x1.length=true then ((x1[tN eY]?).bind fun uA=>(if eqI uA.1 x3=true then (if eqI uA.2.1 x2=true then (gQ k x1 x2 x3 x4 (aM .i64 eY 1)) else (if x4=true then (some (.inr (x1,9))) else (if uA.2.2=true then (some (.inr (x1,9))) else (gQ k x1 x2 x3 x4 (aM .i64 eY 1))))) else (gQ k x1 x2 x3 x4 (aM .i64 eY 1)))) else none) else (some (.inl ())))
end Go.Ws
