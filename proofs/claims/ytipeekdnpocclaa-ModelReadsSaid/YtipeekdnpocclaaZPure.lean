/-
  The functions as plain Lean functions. (Printed by my own program.)
  Conditions: none.
-/
import Derived.Test.YtipeekdnpocclaaZB2
import Derived.Test.YtipeekdnpocclaaZOppDef
import Derived.Test.YtipeekdnpocclaaZAgrDef
set_option linter.unusedVariables false
set_option linter.unusedSimpArgs false
namespace Go.Ws
abbrev aI:=List (Int × Int)
abbrev Ty11:=Int × Int × Bool
abbrev qG:=Sum (Unit) (Bool)
abbrev Ty9:=Int × Int × Int × Int
abbrev Ty8:=List Ty11
abbrev Ty7:=List Ty9
abbrev Ty6:=Int × aI × Bool × Int
abbrev Ty5:=Int × Int × aI × Bool × Int
abbrev Ty4:=Int × Ty6
abbrev Ty3:=List Ty5
abbrev Ty2:=List Ty4
abbrev Ty1:=Sum (aI × Ty8 × Ty2 × Ty7) (Unit)
abbrev Ty0:=Sum (aI × Ty8 × Ty2 × Ty7) (Ty1)
set_option linter.unusedVariables false
def aQ:Ty7:=[(1,1,0,0),(3,1,0,5),(4,1,0,1),(5,1,0,0),(6,1,0,2)]
def aLA:Unit:=()
def lF (k:Nat) (x1:Ty8):Option Unit:=(if bC (x1.length*24)=true then (some ()) else none)
def uJ:Unit:=()
def q9 (k:Nat) (x1:Ty8):Option Unit:=lF k x1
def jR (x1:Int) (x2:Int):Bool:=(if ltI x2 64=true then (if ltI x1 0=true then false else ltI x1 1000) else false)
def jS (x1:Int):Bool:=(!eqI x1 x1)
def bT (x1:Int) (x2:Int):Int:=(if (jS x1)=true then (if (jS x2)=true then 0 else (-1)) else (if (jS x2)=true then 1 else (if ltI x1 x2=true then (-1) else (if ltI x2 x1=true then 1 else 0))))
def gD (x1:Int):Bool:=(!eqI x1 x1)
def eW (x1:Int) (x2:Int):Int:=(if (gD x1)=true then (if (gD x2)=true then 0 else (-1)) else (if (gD x2)=true then 1 else (if ltI x1 x2=true then (-1) else (if ltI x2 x1=true then 1 else 0))))
def mS:Nat→(List Int)→Int→Option (Sum (Unit) (Int))
 | 0,_,_=>none
 | k+1,x1,eF=>(if ltI eF (nI x1.length)=true then (if inI eF x1.length=true then ((x1[tN eF]?).bind fun uN=>(if eqI uN 0=true then (mS k x1 (aL .i64 eF 1)) else (some (.inr uN)))) else none) else (some (.inl ())))
def aII (k:Nat) (x1:List Int):Option Int:=((mS k x1 0).bind (fun q=>Sum.elim (fun x3=>(some 0)) (fun x3=>(some x3)) q))
def qL (k:Nat) (x1:Int) (x2:Int) (x3:Bool) (x4:Int) (x5:Int) (x6:Bool):Option Int:=((aII k [(bT x1 x4),(eW x2 x5)]).bind fun x7=>(some x7))
def gC:Nat→Ty8→Int→Option qG
 | 0,_,_=>none
 | k+1,x1,bY=>(if ltI bY (nI x1.length)=true then (if inI bY x1.length=true then ((x1[tN bY]?).bind fun eY=>(if (jR eY.2.1 eY.1)=true then (if eqI bY 0=true then (gC k x1 (aL .i64 bY 1)) else (if inI (qF .i64 bY 1) x1.length=true then ((x1[tN (qF .i64 bY 1)]?).bind fun jG=>((qL k jG.1 jG.2.1 jG.2.2 eY.1 eY.2.1 eY.2.2).bind fun aBO=>(if ltI aBO 0=true then (if eqI jG.1 eY.1=true then (if jG.2.2=true then (some (.inr false)) else (if eY.2.2=true then (some (.inr false)) else (gC k x1 (aL .i64 bY 1)))) else (gC k x1 (aL .i64 bY 1))) else (some (.inr false))))) else none)) else (some (.inr false)))) else none) else (some (.inl ())))
def uV (k:Nat) (x1:Ty8):Option Bool:=((gC k x1 0).bind (fun q=>Sum.elim (fun x3=>(some true)) (fun x3=>(some x3)) q))
def bI:Nat→Ty8→Int→Int→Bool→Int→Int→Option (Int)
 | 0,_,_,_,_,_,_=>none
 | k+1,x1,x2,x3,x4,cK,cY=>(if ltI cK cY=true then (if inI (conv .i64 (wS .u64 (conv .u64 (aL .i64 cK cY)) 1)) x1.length=true then ((x1[tN (conv .i64 (wS .u64 (conv .u64 (aL .i64 cK cY)) 1))]?).bind fun nD=>((qL k nD.1 nD.2.1 nD.2.2 x2 x3 x4).bind fun aBP=>(if ltI aBP 0=true then (bI k x1 x2 x3 x4 (aL .i64 (conv .i64 (wS .u64 (conv .u64 (aL .i64 cK cY)) 1)) 1) cY) else (bI k x1 x2 x3 x4 cK (conv .i64 (wS .u64 (conv .u64 (aL .i64 cK cY)) 1)))))) else none) else (some cK))
def hI (k:Nat) (x1:Ty8) (x2:Int) (x3:Int) (x4:Bool):Option (Int × Bool):=((bI k x1 x2 x3 x4 0 (nI x1.length)).bind (fun x6=>(if ltI x6 (nI x1.length)=true then (if inI x6 x1.length=true then ((x1[tN x6]?).bind fun x7=>((qL k x7.1 x7.2.1 x7.2.2 x2 x3 x4).bind fun x8=>(some (x6,eqI x8 0)))) else none) else (some (x6,false)))))
def rR (k:Nat) (x1:Int) (x2:Ty8) (x3:Ty8):Option Ty8:=aJM 24 x1 x2 x3
def gW:Nat→Ty8→Int→Int→Bool→Int→Option (Sum (Unit) (Ty8 × Int))
 | 0,_,_,_,_,_=>none
 | k+1,x1,x2,x3,x4,cZ=>(if ltI cZ (nI x1.length)=true then (if inI cZ x1.length=true then ((x1[tN cZ]?).bind fun k9=>(if eqI k9.1 x3=true then (if eqI k9.2.1 x2=true then (gW k x1 x2 x3 x4 (aL .i64 cZ 1)) else (if x4=true then (some (.inr (x1,9))) else (if k9.2.2=true then (some (.inr (x1,9))) else (gW k x1 x2 x3 x4 (aL .i64 cZ 1))))) else (gW k x1 x2 x3 x4 (aL .i64 cZ 1)))) else none) else (some (.inl ())))
def xW (k:Nat) (x1:Ty8) (x2:Int) (x3:Int) (x4:Bool):Option (Ty8 × Int):=((q9 k x1).bind fun x5=>((uV k x1).bind fun x6=>(if x6=true then (if (jR x2 x3)=true then ((gW k x1 x2 x3 x4 0).bind (fun q=>Sum.elim (fun x8=>((hI k x1 x3 x2 x4).bind fun x9=>(if x9.2=true then (if inI x9.1 x1.length=true then ((x1[tN x9.1]?).bind fun x10=>(if x10.2.2=true then (some ((List.set x1 (tN x9.1) (x10.1,x10.2.1,true)),0)) else (some ((List.set x1 (tN x9.1) (x10.1,x10.2.1,x4)),0)))) else none) else ((rR k x9.1 x1 [(x3,x2,x4)]).bind fun x10=>(some (x10,0)))))) (fun x8=>(some x8)) q)) else (some (x1,2))) else (some (x1,2)))))
def jB (k:Nat) (x1:aI):Option Unit:=(if bC (x1.length*16)=true then (some ()) else none)
def qR:Unit:=()
def iZ (k:Nat) (x1:aI):Option Unit:=jB k x1
def pZ (k:Nat) (x1:Int) (x2:aI) (x3:Bool) (x4:Int):Option Unit:=((iZ k x2).bind fun x5=>(some ()))
def jV (x1:Int) (x2:Int):Bool:=(!ltI x1 64)
def dH:Nat→aI→Int→Option (Sum (Unit) (Int))
 | 0,_,_=>none
 | k+1,x1,dK=>(if ltI dK (nI x1.length)=true then (if inI dK x1.length=true then ((x1[tN dK]?).bind fun nE=>(if (jV nE.1 nE.2)=true then (some (.inr dK)) else (dH k x1 (aL .i64 dK 1)))) else none) else (some (.inl ())))
def l8 (k:Nat) (x1:aI):Option Int:=((dH k x1 0).bind (fun q=>Sum.elim (fun x3=>(some (-1))) (fun x3=>(some x3)) q))
def jW (k:Nat) (x1:aI):Option Bool:=((l8 k x1).bind fun x2=>(some (!ltI x2 0)))
def oZ (k:Nat) (x1:Int) (x2:aI) (x3:Bool) (x4:Int):Option Bool:=(if ltI x1 0=true then (some false) else (if ltI 3 x1=true then (some false) else (if ltI 50 (nI x2.length)=true then (some false) else ((jW k x2).bind fun x5=>(if x5=true then (some false) else (if eqI x4 1=true then (if eqI x1 3=true then (some true) else (if eqI x4 0=true then (if x3=true then (some (eqI x1 1)) else (some true)) else (some false))) else (if eqI x1 3=true then (some (eqI x4 2)) else (if eqI x4 0=true then (if x3=true then (some (eqI x1 1)) else (some true)) else (some false)))))))))
def aBK (k:Nat) (x1:Int) (x2:aI) (x3:Bool) (x4:Int) (x5:Int) (x6:Int):Option (Int × aI × Bool × Int × Int):=((pZ k x1 x2 x3 x4).bind fun x7=>((oZ k x1 x2 x3 x4).bind fun x8=>(if x8=true then (if (jV x5 x6)=true then (some (x1,x2,x3,x4,2)) else (if eqI x1 0=true then (if ltI (nI x2.length) 50=true then (if bC (((x2++[(x5,x6)]).length)*16)=true then (some (x1,(x2++[(x5,x6)]),x3,x4,0)) else none) else (some (x1,x2,x3,x4,6))) else (some (x1,x2,x3,x4,13)))) else (some (x1,x2,x3,x4,2)))))
def iF:Nat→aI→Int→Int→Option (Sum (Unit) (Int))
 | 0,_,_,_=>none
 | k+1,x1,x2,eG=>(if ltI eG (nI x1.length)=true then (if inI eG x1.length=true then ((x1[tN eG]?).bind fun sA=>(if eqI sA.1 x2=true then (some (.inr sA.2)) else (iF k x1 x2 (aL .i64 eG 1)))) else none) else (some (.inl ())))
def uW (k:Nat) (x1:aI) (x2:Int):Option Int:=((iF k x1 x2 0).bind (fun q=>Sum.elim (fun x4=>(some 0)) (fun x4=>(some x4)) q))
def jY (k:Nat) (x1:Int) (x2:aI) (x3:Bool) (x4:Int):Option Ty6:=((iZ k x2).bind fun x5=>(some (x1,x2,x3,x4)))
def xY (k:Nat) (x1:Int) (x2:aI) (x3:Bool) (x4:Int) (x5:Bool):Option (Int × aI × Bool × Int × Int):=((jY k x1 x2 x3 x4).bind fun x6=>((oZ k x6.1 x6.2.1 x6.2.2.1 x6.2.2.2).bind fun x7=>(if x7=true then (if eqI x6.1 0=true then (if x5=true then (some (1,x6.2.1,x6.2.2.1,x6.2.2.2,0)) else (some (2,x6.2.1,x6.2.2.1,x6.2.2.2,0))) else (some (x6.1,x6.2.1,x6.2.2.1,x6.2.2.2,13))) else (some (x6.1,x6.2.1,x6.2.2.1,x6.2.2.2,2)))))
def jC (k:Nat) (x1:aI):Option Unit:=(if bC (x1.length*16)=true then (some ()) else none)
def qJ:Unit:=()
def pP (k:Nat) (x1:aI):Option Unit:=jC k x1
def fD:Nat→aI→Int→Option qG
 | 0,_,_=>none
 | k+1,x1,cC=>(if ltI cC (nI x1.length)=true then (if inI cC x1.length=true then ((x1[tN cC]?).bind fun oR=>(if ltI oR.1 64=true then (if eqI oR.2 0=true then (some (.inr false)) else (if ltI 0 cC=true then (if inI (qF .i64 cC 1) x1.length=true then ((x1[tN (qF .i64 cC 1)]?).bind fun aBQ=>(if ltI aBQ.1 oR.1=true then (fD k x1 (aL .i64 cC 1)) else (some (.inr false)))) else none) else (fD k x1 (aL .i64 cC 1)))) else (some (.inr false)))) else none) else (some (.inl ())))
def rB (k:Nat) (x1:aI):Option Bool:=((fD k x1 0).bind (fun q=>Sum.elim (fun x3=>(some true)) (fun x3=>(some x3)) q))
def aB1 (x1:Int) (x2:Int):Unit:=()
def cS:Nat→aI→Int→Option (Sum (Unit) (Int))
 | 0,_,_=>none
 | k+1,x1,cL=>(if ltI cL (nI x1.length)=true then (if inI cL x1.length=true then ((x1[tN cL]?).bind fun p8=>(if ltI p8.1 64=true then (cS k x1 (aL .i64 cL 1)) else (some (.inr cL)))) else none) else (some (.inl ())))
def kC (k:Nat) (x1:aI):Option Int:=((cS k x1 0).bind (fun q=>Sum.elim (fun x3=>(some (-1))) (fun x3=>(some x3)) q))
def iT (k:Nat) (x1:aI):Option Bool:=((kC k x1).bind fun x2=>(some (!ltI x2 0)))
def aAF (x1:Int) (x2:Int) (x3:Int):Unit:=()
def aZ:Nat→aI→Int→Int→Int→Option (Int)
 | 0,_,_,_,_=>none
 | k+1,x1,x2,cM,dA=>(if ltI cM dA=true then (if inI (conv .i64 (wS .u64 (conv .u64 (aL .i64 cM dA)) 1)) x1.length=true then ((x1[tN (conv .i64 (wS .u64 (conv .u64 (aL .i64 cM dA)) 1))]?).bind fun sB=>(if ltI (bT sB.1 x2) 0=true then (aZ k x1 x2 (aL .i64 (conv .i64 (wS .u64 (conv .u64 (aL .i64 cM dA)) 1)) 1) dA) else (aZ k x1 x2 cM (conv .i64 (wS .u64 (conv .u64 (aL .i64 cM dA)) 1))))) else none) else (some cM))
def fZ (k:Nat) (x1:aI) (x2:Int):Option (Int × Bool):=((aZ k x1 x2 0 (nI x1.length)).bind (fun x4=>(if ltI x4 (nI x1.length)=true then (if inI x4 x1.length=true then ((x1[tN x4]?).bind fun x5=>(some (x4,eqI (bT x5.1 x2) 0))) else none) else (some (x4,false)))))
def s6 (k:Nat) (x1:aI) (x2:Int):Option (Int × Bool):=((fZ k x1 x2).bind fun x3=>(some (x3.1,x3.2)))
def rQ (k:Nat) (x1:Int) (x2:Int) (x3:aI):Option aI:=delP x1 x2 x3
def oO (k:Nat) (x1:Int) (x2:aI) (x3:aI):Option aI:=aJM 16 x1 x2 x3
def pO (k:Nat) (x1:Int) (x2:Int) (x3:aI):Option aI:=delP x1 x2 x3
def fM:Nat→aI→Int→aI→Option (aI)
 | 0,_,_,_=>none
 | k+1,x2,cN,bA=>(if ltI cN (nI x2.length)=true then (if inI cN x2.length=true then ((x2[tN cN]?).bind fun b7=>((s6 k bA b7.1).bind fun aW=>(if aW.2=true then (if inI aW.1 bA.length=true then ((bA[tN aW.1]?).bind fun aX=>(((List.set bA (tN aW.1) (aX.1,aL .i64 aX.2 b7.2))[tN aW.1]?).bind fun cD=>(if eqI cD.2 0=true then ((rQ k aW.1 (aL .i64 aW.1 1) (List.set bA (tN aW.1) (aX.1,aL .i64 aX.2 b7.2))).bind fun iX=>(fM k x2 (aL .i64 cN 1) iX)) else (fM k x2 (aL .i64 cN 1) (List.set bA (tN aW.1) (aX.1,aL .i64 aX.2 b7.2)))))) else none) else ((oO k aW.1 bA [(b7.1,0)]).bind fun aX=>(if inI aW.1 aX.length=true then ((aX[tN aW.1]?).bind fun cD=>(((List.set aX (tN aW.1) (cD.1,aL .i64 cD.2 b7.2))[tN aW.1]?).bind fun iX=>(if eqI iX.2 0=true then ((pO k aW.1 (aL .i64 aW.1 1) (List.set aX (tN aW.1) (cD.1,aL .i64 cD.2 b7.2))).bind fun nG=>(fM k x2 (aL .i64 cN 1) nG)) else (fM k x2 (aL .i64 cN 1) (List.set aX (tN aW.1) (cD.1,aL .i64 cD.2 b7.2)))))) else none))))) else none) else (some bA))
def nR (k:Nat) (x1:aI) (x2:aI):Option (aI × Int):=((pP k x1).bind fun x3=>((rB k x1).bind fun x4=>(if x4=true then ((iT k x2).bind fun x5=>(if x5=true then (some (x1,2)) else ((fM k x2 0 x1).bind (fun x7=>(some (x7,0)))))) else (some (x1,2)))))
def aC8 (x1:Int) (x2:Int) (x3:Bool) (x4:Int):Unit:=()
def cF:Nat→Ty8→Int→Int→Option (Sum (Unit) (Int))
 | 0,_,_,_=>none
 | k+1,x1,x2,dL=>(if ltI dL (nI x1.length)=true then (if inI dL x1.length=true then ((x1[tN dL]?).bind fun pW=>(if eqI pW.2.1 x2=true then (some (.inr dL)) else (cF k x1 x2 (aL .i64 dL 1)))) else none) else (some (.inl ())))
def jU (k:Nat) (x1:Ty8) (x2:Int):Option Int:=((cF k x1 x2 0).bind (fun q=>Sum.elim (fun x4=>(some (-1))) (fun x4=>(some x4)) q))
def cJ:Nat→Ty8→Int→Int→Int→Ty8→Option (Int × Ty8)
 | 0,_,_,_,_,_=>none
 | k+1,x1,x2,dM,cT,dN=>(if ltI dM (nI x1.length)=true then (if inI dM x1.length=true then ((dN[tN dM]?).bind fun jH=>(if eqI jH.2.1 x2=true then (cJ k x1 x2 (aL .i64 dM 1) cT dN) else (if inI cT x1.length=true then ((dN[tN cT]?).bind fun aS4=>(cJ k x1 x2 (aL .i64 dM 1) (aL .i64 cT 1) (List.set dN (tN cT) jH))) else none))) else none) else (some (cT,dN)))
def lG (k:Nat) (x1:Ty8) (x2:Int):Option (Nat × Ty8):=((jU k x1 x2).bind fun x3=>(if eqI x3 (-1)=true then (some (x1.length,x1)) else ((cJ k x1 x2 (aL .i64 x3 1) x3 x1).bind (fun x5=>(if isZ x1.length=true then none else (if wV x1.length x5.2.length=true then (if leI x5.1 x1.length=true then (if isZ (x1.length - (tN x5.1))=true then (if leI x5.1 x5.2.length=true then (some (tN x5.1,x5.2)) else none) else (if wV (tN x5.1+(x1.length - (tN x5.1))) x5.2.length=true then (if wV (tN x5.1) x5.2.length=true then (if wV x1.length ((((List.take (tN x5.1) x5.2)++(List.replicate (x1.length - (tN x5.1)) (0,0,false)))++(List.drop (tN x5.1+(x1.length - (tN x5.1))) x5.2)).length)=true then (if leI x5.1 ((((List.take (tN x5.1) x5.2)++(List.replicate (x1.length - (tN x5.1)) (0,0,false)))++(List.drop (tN x5.1+(x1.length - (tN x5.1))) x5.2)).length)=true then (some (tN x5.1,(((List.take (tN x5.1) x5.2)++(List.replicate (x1.length - (tN x5.1)) (0,0,false)))++(List.drop (tN x5.1+(x1.length - (tN x5.1))) x5.2)))) else none) else none) else none) else none)) else none) else none))))))
def rA (k:Nat) (x1:Ty8) (x2:Int):Option Ty8:=((q9 k x1).bind fun x3=>((lG k x1 x2).bind fun x4=>(if wV x4.1 x4.2.length=true then (some (List.take x4.1 x4.2)) else none)))
def vI (k:Nat) (x1:Int) (x2:aI) (x3:Bool) (x4:Int):Option (Int × aI × Bool × Int × aI × Int):=((jY k x1 x2 x3 x4).bind fun x5=>((oZ k x5.1 x5.2.1 x5.2.2.1 x5.2.2.2).bind fun x6=>(if x6=true then (if eqI x5.1 1=true then (if x5.2.2.1=true then (some (x5.1,x5.2.1,x5.2.2.1,x5.2.2.2,[],8)) else ((iZ k x5.2.1).bind fun x7=>(some (x5.1,x5.2.1,true,x5.2.2.2,x5.2.1,0)))) else (some (x5.1,x5.2.1,x5.2.2.1,x5.2.2.2,[],13))) else (some (x5.1,x5.2.1,x5.2.2.1,x5.2.2.2,[],2)))))
def oQ (k:Nat) (x1:aI):Option aI:=oppP x1
def qI (k:Nat) (x1:Int) (x2:aI) (x3:Bool) (x4:Int) (x5:Int):Option (Int × aI × Bool × Int × aI × Int):=((jY k x1 x2 x3 x4).bind fun x6=>((oZ k x6.1 x6.2.1 x6.2.2.1 x6.2.2.2).bind fun x7=>(if x7=true then (if eqI x5 1=true then (if eqI x6.2.2.2 x5=true then (some (x6.1,x6.2.1,x6.2.2.1,x6.2.2.2,[],0)) else (if eqI x6.1 3=true then (some (x6.1,x6.2.1,x6.2.2.1,x6.2.2.2,[],13)) else (if eqI x6.1 1=true then (if eqB (eqI x5 1) x6.2.2.1=true then (some (3,x6.2.1,x6.2.2.1,x5,[],0)) else (if x6.2.2.1=true then ((oQ k x6.2.1).bind fun x8=>(some (3,x6.2.1,x6.2.2.1,x5,x8,0))) else ((iZ k x6.2.1).bind fun x8=>(some (3,x6.2.1,x6.2.2.1,x5,x6.2.1,0))))) else (some (x6.1,x6.2.1,x6.2.2.1,x6.2.2.2,[],13))))) else (if eqI x5 2=true then (if eqI x6.2.2.2 x5=true then (some (x6.1,x6.2.1,x6.2.2.1,x6.2.2.2,[],0)) else (if eqI x6.1 3=true then (some (x6.1,x6.2.1,x6.2.2.1,x6.2.2.2,[],13)) else (if eqB (eqI x5 1) x6.2.2.1=true then (some (3,x6.2.1,x6.2.2.1,x5,[],0)) else (if x6.2.2.1=true then ((oQ k x6.2.1).bind fun x8=>(some (3,x6.2.1,x6.2.2.1,x5,x8,0))) else ((iZ k x6.2.1).bind fun x8=>(some (3,x6.2.1,x6.2.2.1,x5,x6.2.1,0))))))) else (some (x6.1,x6.2.1,x6.2.2.1,x6.2.2.2,[],2)))) else (some (x6.1,x6.2.1,x6.2.2.1,x6.2.2.2,[],2)))))
def vE (x1:aI) (x2:Ty8) (x3:Ty2) (x4:Ty7):Unit:=()
def b9:Nat→aI→Int→Int→Int→Int→aI→Ty8→Ty2→Ty7→(Ty8 × Int)→Int→Int→Option (Int)
 | 0,_,_,_,_,_,_,_,_,_,_,_,_=>none
 | k+1,x2,x5,x6,x7,x8,x9,x10,x11,x12,x13,dJ,cO=>(if ltI cO (nI x2.length)=true then (if inI cO x2.length=true then ((x2[tN cO]?).bind fun p9=>(if eqI p9.1 x7=true then (b9 k x2 x5 x6 x7 x8 x9 x10 x11 x12 x13 (aL .i64 dJ p9.2) (aL .i64 cO 1)) else (b9 k x2 x5 x6 x7 x8 x9 x10 x11 x12 x13 dJ (aL .i64 cO 1)))) else none) else (some dJ))
def i8 (k:Nat) (x1:Int) (x2:aI) (x3:Bool) (x4:Int) (x5:Int) (x6:Int) (x7:Int) (x8:Int) (x9:aI) (x10:Ty8) (x11:Ty2) (x12:Ty7):Option (Ty8 × Ty2 × Int × Int):=(if eqI x1 0=true then ((xW k x10 x6 x7 (eqI x5 3)).bind fun x13=>(if eqI x13.2 0=true then (if eqI x5 3=true then ((aBK k x1 x2 x3 x4 x7 x8).bind fun x14=>(if eqI x14.2.2.2.2 0=true then (if o8 x11 x6=true then ((bD x11 x6).bind fun x15=>(some (x13.1,(bH x11 x6 (x14.1,x14.2.1,x14.2.2.1,x14.2.2.2.1)),0,0))) else (some (x13.1,(bH x11 x6 (x14.1,x14.2.1,x14.2.2.1,x14.2.2.2.1)),0,0))) else (some (x10,x11,x14.2.2.2.2,0)))) else ((uW k x9 x7).bind fun x14=>((b9 k x2 x5 x6 x7 x8 x9 x10 x11 x12 x13 x14 0).bind (fun x16=>(some (x13.1,x11,0,x16)))))) else (some (x10,x11,x13.2,0)))) else (some (x10,x11,13,0)))
def mQ (k:Nat) (x1:Int) (x2:aI) (x3:Bool) (x4:Int) (x5:Int) (x6:Int) (x7:Int) (x8:Int) (x9:aI) (x10:Ty8) (x11:Ty2) (x12:Ty7):Option (aI × Ty8 × Ty2 × Int):=(if eqI x5 4=true then ((xY k x1 x2 x3 x4 (!eqI x8 0)).bind fun x13=>(if eqI x13.2.2.2.2 0=true then ((nR k x9 []).bind fun x14=>(if eqI x13.1 2=true then ((rA k x10 x6).bind fun x15=>(some (x14.1,x15,(bH x11 x6 (x13.1,x13.2.1,x13.2.2.1,x13.2.2.2.1)),0))) else (some (x14.1,x10,(bH x11 x6 (x13.1,x13.2.1,x13.2.2.1,x13.2.2.2.1)),0)))) else (some (x9,x10,x11,x13.2.2.2.2)))) else (if eqI x5 5=true then ((vI k x1 x2 x3 x4).bind fun x13=>(if eqI x13.2.2.2.2.2 0=true then ((nR k x9 x13.2.2.2.2.1).bind fun x14=>((rA k x10 x6).bind fun x15=>(some (x14.1,x15,(bH x11 x6 (x13.1,x13.2.1,x13.2.2.1,x13.2.2.2.1)),0)))) else (some (x9,x10,x11,x13.2.2.2.2.2)))) else (if eqI x8 1=true then ((qI k x1 x2 x3 x4 x8).bind fun x13=>(if eqI x13.2.2.2.2.2 0=true then ((nR k x9 x13.2.2.2.2.1).bind fun x14=>((rA k x10 x6).bind fun x15=>(some (x14.1,x15,(bH x11 x6 (x13.1,x13.2.1,x13.2.2.1,x13.2.2.2.1)),0)))) else (some (x9,x10,x11,x13.2.2.2.2.2)))) else (if eqI x8 2=true then ((qI k x1 x2 x3 x4 x8).bind fun x13=>(if eqI x13.2.2.2.2.2 0=true then ((nR k x9 x13.2.2.2.2.1).bind fun x14=>((rA k x10 x6).bind fun x15=>(some (x14.1,x15,(bH x11 x6 (x13.1,x13.2.1,x13.2.2.1,x13.2.2.2.1)),0)))) else (some (x9,x10,x11,x13.2.2.2.2.2)))) else (some (x9,x10,x11,2))))))
def kF (k:Nat) (x1:Int) (x2:aI) (x3:Bool) (x4:Int) (x5:Int) (x6:Int) (x7:Int) (x8:Int) (x9:aI) (x10:Ty8) (x11:Ty2) (x12:Ty7):Option (Int × Int × Ty8 × Ty2 × aI):=(if eqI x5 1=true then (some (0,0,x10,(bH x11 x6 (x1,x2,x3,x4)),x9)) else (if eqI x5 2=true then ((i8 k x1 x2 x3 x4 x5 x6 x7 x8 x9 x10 x11 x12).bind fun x13=>(some (x13.2.2.2,x13.2.2.1,x13.1,x13.2.1,x9))) else (if eqI x5 3=true then ((i8 k x1 x2 x3 x4 x5 x6 x7 x8 x9 x10 x11 x12).bind fun x13=>(some (x13.2.2.2,x13.2.2.1,x13.1,x13.2.1,x9))) else ((mQ k x1 x2 x3 x4 x5 x6 x7 x8 x9 x10 x11 x12).bind fun x13=>(some (0,x13.2.2.2,x13.2.1,x13.2.2.1,x13.1))))))
def oF (k:Nat) (x1:Int) (x2:Int) (x3:Int) (x4:Int) (x5:aI) (x6:Ty8) (x7:Ty2) (x8:Ty7):Option (Int × Int × aI × Ty8 × Ty2 × Ty7):=(if ltI x1 1=true then (some (2,0,x5,x6,x7,x8)) else (if ltI 6 x1=true then (some (2,0,x5,x6,x7,x8)) else (if ltI x2 0=true then (some (2,0,x5,x6,x7,x8)) else (if ltI x2 1000=true then (if o8 x7 x2=true then ((bD x7 x2).bind fun x9=>(if eqB true (eqI x1 1)=true then (some (8,0,x5,x6,x7,x8)) else ((kF k x9.1 x9.2.1 x9.2.2.1 x9.2.2.2 x1 x2 x3 x4 x5 x6 x7 x8).bind fun x10=>(if eqI x10.2.1 0=true then (if bC (((x8++[(x1,x2,x3,x4)]).length)*32)=true then (some (0,x10.1,x10.2.2.2.2,x10.2.2.1,x10.2.2.2.1,(x8++[(x1,x2,x3,x4)]))) else none) else (some (x10.2.1,0,x10.2.2.2.2,x10.2.2.1,x10.2.2.2.1,x8)))))) else (if eqB false (eqI x1 1)=true then (some (7,0,x5,x6,x7,x8)) else ((kF k 0 [] false 0 x1 x2 x3 x4 x5 x6 x7 x8).bind fun x9=>(if eqI x9.2.1 0=true then (if bC (((x8++[(x1,x2,x3,x4)]).length)*32)=true then (some (0,x9.1,x9.2.2.2.2,x9.2.2.1,x9.2.2.2.1,(x8++[(x1,x2,x3,x4)]))) else none) else (some (x9.2.1,0,x9.2.2.2.2,x9.2.2.1,x9.2.2.2.1,x8)))))) else (some (2,0,x5,x6,x7,x8))))))
def gL:Nat→Ty7→Int→aI→Ty8→Ty2→Ty7→Option Ty0
 | 0,_,_,_,_,_,_=>none
 | k+1,x1,eH,f6,f7,fP,fQ=>(if ltI eH (nI x1.length)=true then (if inI eH x1.length=true then ((x1[tN eH]?).bind fun j8=>((oF k j8.1 j8.2.1 j8.2.2.1 j8.2.2.2 f6 f7 fP fQ).bind fun eI=>(if eqI eI.1 0=true then (gL k x1 (aL .i64 eH 1) eI.2.2.1 eI.2.2.2.1 eI.2.2.2.2.1 eI.2.2.2.2.2) else (some (.inr (.inr ())))))) else none) else (some (.inl (f6,f7,fP,fQ))))
def tC (k:Nat) (x1:Ty7):Option Ty1:=((gL k x1 0 [] [] ([]:Ty2) []).bind (fun q=>Sum.elim (fun x3=>(some (.inl (x3.1,x3.2.1,x3.2.2.1,x3.2.2.2)))) (fun x3=>(some x3)) q))
def gN:Nat→Ty7→Int→aI→Option (aI)
 | 0,_,_,_=>none
 | k+1,x1,fJ,fN=>(if ltI fJ (nI x1.length)=true then (if inI fJ x1.length=true then ((x1[tN fJ]?).bind fun kR=>(if eqI kR.1 6=true then (gN k x1 (aL .i64 fJ 1) (bH fN kR.2.1 kR.2.2.2)) else (gN k x1 (aL .i64 fJ 1) fN))) else none) else (some fN))
def mI (k:Nat) (x1:Ty7):Option (Sum (aI) (Unit)):=((tC k x1).bind (fun q=>Sum.elim (fun x3=>((gN k x1 0 ([]:aI)).bind (fun x5=>(some (.inl x5))))) (fun x3=>(some (.inr ()))) q))
def fU:Nat→Ty7→Int→Option (Unit)
 | 0,_,_=>none
 | k+1,x1,eJ=>(if ltI eJ (nI x1.length)=true then (if inI eJ x1.length=true then ((x1[tN eJ]?).bind fun aBR=>(fU k x1 (aL .i64 eJ 1))) else none) else (some ()))
def dZ:Nat→Ty7→aI→Int→Int→Option (Int)
 | 0,_,_,_,_=>none
 | k+1,x1,x3,dF,cP=>(if ltI cP (nI x1.length)=true then (if inI cP x1.length=true then ((x1[tN cP]?).bind fun nH=>(if eqI nH.1 5=true then (if o8 x3 nH.2.1=true then ((bD x3 nH.2.1).bind fun aBS=>(if eqI aBS 2=true then (dZ k x1 x3 (aL .i64 dF 1) (aL .i64 cP 1)) else (dZ k x1 x3 dF (aL .i64 cP 1)))) else (dZ k x1 x3 dF (aL .i64 cP 1))) else (dZ k x1 x3 dF (aL .i64 cP 1)))) else none) else (some dF))
def lW (k:Nat) (x1:Ty7):Option (Int × Int):=((mI k x1).bind (fun q=>Sum.elim (fun x3=>((dZ k x1 x3 0 0).bind (fun x5=>(some (x5,0))))) (fun x3=>((fU k x1 0).bind (fun x5=>(some (0,4))))) q))
def d6:Nat→Ty7→aI→Int→aI→Option (aI)
 | 0,_,_,_,_=>none
 | k+1,x1,x3,cQ,aS=>(if ltI cQ (nI x1.length)=true then (if inI cQ x1.length=true then ((x1[tN cQ]?).bind fun dO=>(if eqI dO.1 3=true then (if o8 x3 dO.2.1=true then ((bD x3 dO.2.1).bind fun aBT=>(if eqI aBT 1=true then (if bC (((aS++[dO.2.2]).length)*16)=true then (d6 k x1 x3 (aL .i64 cQ 1) (aS++[dO.2.2])) else none) else (d6 k x1 x3 (aL .i64 cQ 1) aS))) else (d6 k x1 x3 (aL .i64 cQ 1) aS)) else (d6 k x1 x3 (aL .i64 cQ 1) aS))) else none) else (some aS))
def lU (k:Nat) (x1:Ty7):Option (aI × Int):=((mI k x1).bind (fun q=>Sum.elim (fun x3=>((d6 k x1 x3 0 []).bind (fun x5=>((nR k [] x5).bind fun x6=>(some (x6.1,x6.2)))))) (fun x3=>(some ([],4))) q))
def tO (x1:aI):Bool:=mO (x1++x1)
def rM (x1:aI) (x2:aI):Bool:=mO (x1++x2)
def tK (k:Nat):Option Bool:=(if eqI (nI aQ.length) 0=true then (some false) else ((mI k aQ).bind (fun q=>Sum.elim (fun x2=>((lW k aQ).bind fun x3=>((lU k aQ).bind fun x4=>(if leI 1 aQ.length=true then ((mI k (List.drop 1 aQ)).bind (fun q=>Sum.elim (fun x6=>(if eqI (nI x2.length) 1=true then (if o8 x2 1=true then ((bD x2 1).bind fun x7=>(if eqI x7 2=true then (if eqI x3.1 1=true then (if eqI x3.2 0=true then (if eqI (nI x4.1.length) 0=true then (if eqI x4.2 0=true then (some false) else (some false)) else (some false)) else (some false)) else (some false)) else (some false))) else (some false)) else (some false))) (fun x6=>(if eqI (nI x2.length) 1=true then (if o8 x2 1=true then ((bD x2 1).bind fun x7=>(if eqI x7 2=true then (if eqI x3.1 1=true then (if eqI x3.2 0=true then (if eqI (nI x4.1.length) 0=true then (if eqI x4.2 0=true then (if (tO x2)=true then (some (!(rM x2 (bH ([]:aI) 1 1)))) else (some false)) else (some false)) else (some false)) else (some false)) else (some false)) else (some false))) else (some false)) else (some false))) q)) else none)))) (fun x2=>((lW k aQ).bind fun x3=>((lU k aQ).bind fun x4=>(if leI 1 aQ.length=true then ((mI k (List.drop 1 aQ)).bind (fun q=>Sum.elim (fun x6=>(some false)) (fun x6=>(some false)) q)) else none)))) q)))
def fV:Nat→Ty7→Int→Ty7→Option (Ty7)
 | 0,_,_,_=>none
 | k+1,x1,eK,bZ=>(if ltI eK (nI x1.length)=true then (if inI eK x1.length=true then ((x1[tN eK]?).bind fun gA=>(if bC (((bZ++[gA]).length)*32)=true then (fV k x1 (aL .i64 eK 1) (bZ++[gA])) else none)) else none) else (some bZ))
def kL (k:Nat) (x1:Ty7):Option Ty7:=((fV k x1 0 []).bind (fun x3=>(some x3)))
def iG:Nat→aI→Ty8→Ty3→Ty7→Int→Int→Option (Sum (Unit) (Int))
 | 0,_,_,_,_,_,_=>none
 | k+1,x1,x2,x3,x4,x5,dP=>(if ltI dP (nI x3.length)=true then (if inI dP x3.length=true then ((x3[tN dP]?).bind fun aBU=>(if eqI aBU.1 x5=true then (some (.inr dP)) else (iG k x1 x2 x3 x4 x5 (aL .i64 dP 1)))) else none) else (some (.inl ())))
def vB (k:Nat) (x1:aI) (x2:Ty8) (x3:Ty3) (x4:Ty7) (x5:Int):Option Int:=((iG k x1 x2 x3 x4 x5 0).bind (fun q=>Sum.elim (fun x7=>(some (-1))) (fun x7=>(some x7)) q))
def gK:Nat→Int→aI→Bool→Int→Int→Option qG
 | 0,_,_,_,_,_=>none
 | k+1,x1,x2,x3,x4,eL=>(if ltI eL (nI x2.length)=true then (if inI eL x2.length=true then ((x2[tN eL]?).bind fun aBV=>(if ltI aBV.1 64=true then (gK k x1 x2 x3 x4 (aL .i64 eL 1)) else (some (.inr false)))) else none) else (some (.inl ())))
def nB (k:Nat) (x1:Int) (x2:aI) (x3:Bool) (x4:Int):Option Bool:=((gK k x1 x2 x3 x4 0).bind (fun q=>Sum.elim (fun x6=>(if ltI x1 0=true then (some false) else (if ltI 3 x1=true then (some false) else (if ltI 50 (nI x2.length)=true then (some false) else (if x3=true then (if eqI x1 1=true then (if eqI x1 3=true then (if eqI x4 1=true then (some true) else (some (eqI x4 2))) else (some (eqI x4 0))) else (if eqI x1 3=true then (if eqI x4 1=true then (some true) else (some (eqI x4 2))) else (some false))) else (if eqI x1 3=true then (if eqI x4 1=true then (some true) else (some (eqI x4 2))) else (some (eqI x4 0)))))))) (fun x6=>(some x6)) q))
def uY (k:Nat) (x1:Int) (x2:aI) (x3:Bool) (x4:Int) (x5:Bool):Option (Int × aI × Bool × Int × Int):=((nB k x1 x2 x3 x4).bind fun x6=>(if x6=true then (if eqI x1 0=true then (if x5=true then (some (1,x2,x3,x4,0)) else (some (2,x2,x3,x4,0))) else (some (x1,x2,x3,x4,13))) else (some (x1,x2,x3,x4,2))))
def mH (k:Nat) (x1:aI) (x2:Ty8) (x3:Ty3) (x4:Ty7) (x5:Int) (x6:Int) (x7:aI) (x8:Bool) (x9:Int):Option (aI × Ty8 × Ty3 × Ty7):=(if bC (x3.length*56)=true then (if inI x5 x3.length=true then ((x3[tN x5]?).bind fun x10=>(some (x1,x2,(List.set x3 (tN x5) (x10.1,x6,x7,x8,x9)),x4))) else none) else none)
def f4:Nat→aI→Int→Option qG
 | 0,_,_=>none
 | k+1,x1,bR=>(if ltI bR (nI x1.length)=true then (if inI bR x1.length=true then ((x1[tN bR]?).bind fun lH=>(if ltI lH.1 64=true then (if eqI lH.2 0=true then (some (.inr false)) else (if ltI 0 bR=true then (if inI (qF .i64 bR 1) x1.length=true then ((x1[tN (qF .i64 bR 1)]?).bind fun yF=>(if ltI yF.1 lH.1=true then (f4 k x1 (aL .i64 bR 1)) else (some (.inr false)))) else none) else (f4 k x1 (aL .i64 bR 1)))) else (some (.inr false)))) else none) else (some (.inl ())))
def tM (k:Nat) (x1:aI):Option Bool:=((f4 k x1 0).bind (fun q=>Sum.elim (fun x3=>(some true)) (fun x3=>(some x3)) q))
def iK:Nat→aI→Int→Int→Int→Option (Int)
 | 0,_,_,_,_=>none
 | k+1,x1,x2,eZ,dQ=>(if ltI dQ (nI x1.length)=true then (if inI dQ x1.length=true then ((x1[tN dQ]?).bind fun sC=>(if eqI sC.1 x2=true then (iK k x1 x2 (aL .i64 eZ sC.2) (aL .i64 dQ 1)) else (iK k x1 x2 eZ (aL .i64 dQ 1)))) else none) else (some eZ))
def xT (k:Nat) (x1:aI) (x2:Int):Option Int:=((iK k x1 x2 0 0).bind (fun x4=>(some x4)))
def jE:Nat→aI→Int→aI→Option (aI)
 | 0,_,_,_=>none
 | k+1,x1,bL,bE=>(if ltI bL 64=true then ((xT k x1 (conv .u8 bL)).bind fun fR=>(if eqI fR 0=true then (jE k x1 (aL .i64 bL 1) bE) else (if bC (((bE++[(conv .u8 bL,fR)]).length)*16)=true then (jE k x1 (aL .i64 bL 1) (bE++[(conv .u8 bL,fR)])) else none))) else (some bE))
def zG (k:Nat) (x1:aI):Option aI:=((jE k x1 0 []).bind (fun x3=>(some x3)))
def i6:Nat→aI→aI→Int→Option (Sum (Unit) (aI × Int))
 | 0,_,_,_=>none
 | k+1,x1,x2,eM=>(if ltI eM (nI x2.length)=true then (if inI eM x2.length=true then ((x2[tN eM]?).bind fun aBW=>(if ltI aBW.1 64=true then (i6 k x1 x2 (aL .i64 eM 1)) else (some (.inr (x1,2))))) else none) else (some (.inl ())))
def yA (k:Nat) (x1:aI) (x2:aI):Option (aI × Int):=((tM k x1).bind fun x3=>(if x3=true then ((i6 k x1 x2 0).bind (fun q=>Sum.elim (fun x5=>(if bC (x1.length*16)=true then (if bC (((x1++x2).length)*16)=true then ((zG k (x1++x2)).bind fun x6=>(some (x6,0))) else none) else none)) (fun x5=>(some x5)) q)) else (some (x1,2))))
def gM:Nat→Ty8→Int→Int→Ty8→Option (Ty8)
 | 0,_,_,_,_=>none
 | k+1,x1,x2,dR,bF=>(if ltI dR (nI x1.length)=true then (if inI dR x1.length=true then ((x1[tN dR]?).bind fun fA=>(if eqI fA.2.1 x2=true then (gM k x1 x2 (aL .i64 dR 1) bF) else (if bC (((bF++[fA]).length)*24)=true then (gM k x1 x2 (aL .i64 dR 1) (bF++[fA])) else none))) else none) else (some bF))
def uX (k:Nat) (x1:Ty8) (x2:Int):Option Ty8:=((gM k x1 x2 0 []).bind (fun x4=>(some x4)))
def kQ (k:Nat) (x1:aI) (x2:Ty8) (x3:Ty3) (x4:Ty7) (x5:Int) (x6:aI):Option (aI × Ty8 × Ty3 × Ty7):=((yA k x1 x6).bind fun x7=>((uX k x2 x5).bind fun x8=>(some (x7.1,x8,x3,x4))))
def tL (k:Nat) (x1:Int) (x2:aI) (x3:Bool) (x4:Int):Option (Int × aI × Bool × Int × aI × Int):=((nB k x1 x2 x3 x4).bind fun x5=>(if x5=true then (if eqI x1 1=true then (if x3=true then (some (x1,x2,x3,x4,[],8)) else (some (x1,x2,true,x4,x2,0))) else (some (x1,x2,x3,x4,[],13))) else (some (x1,x2,x3,x4,[],2))))
def dY:Nat→aI→Int→aI→Option (aI)
 | 0,_,_,_=>none
 | k+1,x1,eN,b5=>(if ltI eN 0=true then (some b5) else (if inI eN x1.length=true then ((x1[tN eN]?).bind fun b6=>(if bC (((b5++[(b6.1,sQ .i64 b6.2)]).length)*16)=true then (dY k x1 (qF .i64 eN 1) (b5++[(b6.1,sQ .i64 b6.2)])) else none)) else none))
def lI (k:Nat) (x1:aI):Option aI:=((dY k x1 (qF .i64 (nI x1.length) 1) []).bind (fun x3=>(some x3)))
def mZ (k:Nat) (x1:Int) (x2:aI) (x3:Bool) (x4:Int) (x5:Int):Option (Int × aI × Bool × Int × aI × Int):=((nB k x1 x2 x3 x4).bind fun x6=>(if x6=true then (if eqI x5 1=true then (if eqI x1 3=true then (if eqI x4 x5=true then (some (x1,x2,x3,x4,[],0)) else (some (x1,x2,x3,x4,[],13))) else (if eqI x1 1=true then (if x3=true then (if eqI x5 2=true then ((lI k x2).bind fun x7=>(some (3,x2,x3,x5,x7,0))) else (some (3,x2,x3,x5,[],0))) else (some (3,x2,x3,x5,x2,0))) else (some (x1,x2,x3,x4,[],13)))) else (if eqI x5 2=true then (if eqI x1 3=true then (if eqI x4 x5=true then (some (x1,x2,x3,x4,[],0)) else (some (x1,x2,x3,x4,[],13))) else (if x3=true then ((lI k x2).bind fun x7=>(some (3,x2,x3,x5,x7,0))) else (some (3,x2,x3,x5,[],0)))) else (some (x1,x2,x3,x4,[],2)))) else (some (x1,x2,x3,x4,[],2))))
def yC (k:Nat) (x1:aI) (x2:Ty8) (x3:Ty3) (x4:Ty7) (x5:Int) (x6:Int) (x7:Int) (x8:Int) (x9:Int):Option (aI × Ty8 × Ty3 × Ty7 × Int):=(if inI x5 x3.length=true then ((x3[tN x5]?).bind fun x10=>(if eqI x6 4=true then ((uY k x10.2.1 x10.2.2.1 x10.2.2.2.1 x10.2.2.2.2 (!eqI x9 0)).bind fun x11=>(if eqI x11.2.2.2.2 0=true then ((mH k x1 x2 x3 x4 x5 x11.1 x11.2.1 x11.2.2.1 x11.2.2.2.1).bind fun x12=>(if eqI x9 0=true then ((kQ k x12.1 x12.2.1 x12.2.2.1 x12.2.2.2 x7 []).bind fun x13=>(some (x13.1,x13.2.1,x13.2.2.1,x13.2.2.2,0))) else (some (x12.1,x12.2.1,x12.2.2.1,x12.2.2.2,0)))) else (some (x1,x2,x3,x4,x11.2.2.2.2)))) else (if eqI x6 5=true then ((tL k x10.2.1 x10.2.2.1 x10.2.2.2.1 x10.2.2.2.2).bind fun x11=>(if eqI x11.2.2.2.2.2 0=true then ((mH k x1 x2 x3 x4 x5 x11.1 x11.2.1 x11.2.2.1 x11.2.2.2.1).bind fun x12=>((kQ k x12.1 x12.2.1 x12.2.2.1 x12.2.2.2 x7 x11.2.2.2.2.1).bind fun x13=>(some (x13.1,x13.2.1,x13.2.2.1,x13.2.2.2,0)))) else (some (x1,x2,x3,x4,x11.2.2.2.2.2)))) else (if eqI x9 1=true then ((mZ k x10.2.1 x10.2.2.1 x10.2.2.2.1 x10.2.2.2.2 x9).bind fun x11=>(if eqI x11.2.2.2.2.2 0=true then ((mH k x1 x2 x3 x4 x5 x11.1 x11.2.1 x11.2.2.1 x11.2.2.2.1).bind fun x12=>((kQ k x12.1 x12.2.1 x12.2.2.1 x12.2.2.2 x7 x11.2.2.2.2.1).bind fun x13=>(some (x13.1,x13.2.1,x13.2.2.1,x13.2.2.2,0)))) else (some (x1,x2,x3,x4,x11.2.2.2.2.2)))) else (if eqI x9 2=true then ((mZ k x10.2.1 x10.2.2.1 x10.2.2.2.1 x10.2.2.2.2 x9).bind fun x11=>(if eqI x11.2.2.2.2.2 0=true then ((mH k x1 x2 x3 x4 x5 x11.1 x11.2.1 x11.2.2.1 x11.2.2.2.1).bind fun x12=>((kQ k x12.1 x12.2.1 x12.2.2.1 x12.2.2.2 x7 x11.2.2.2.2.1).bind fun x13=>(some (x13.1,x13.2.1,x13.2.2.1,x13.2.2.2,0)))) else (some (x1,x2,x3,x4,x11.2.2.2.2.2)))) else ((mZ k x10.2.1 x10.2.2.1 x10.2.2.2.1 x10.2.2.2.2 0).bind fun x11=>(if eqI x11.2.2.2.2.2 0=true then ((mH k x1 x2 x3 x4 x5 x11.1 x11.2.1 x11.2.2.1 x11.2.2.2.1).bind fun x12=>((kQ k x12.1 x12.2.1 x12.2.2.1 x12.2.2.2 x7 x11.2.2.2.2.1).bind fun x13=>(some (x13.1,x13.2.1,x13.2.2.1,x13.2.2.2,0)))) else (some (x1,x2,x3,x4,x11.2.2.2.2.2))))))))) else none)
def iJ (x1:Int) (x2:Int):Bool:=(if ltI x2 64=true then (if ltI x1 0=true then false else ltI x1 1000) else false)
def d9:Nat→Ty8→Ty11→Int→Int→Option (Sum (Int) (Bool))
 | 0,_,_,_,_=>none
 | k+1,x1,aU,cR,dG=>(if ltI cR (nI x1.length)=true then (if eqI cR dG=true then (d9 k x1 aU (aL .i64 cR 1) dG) else (if inI cR x1.length=true then ((x1[tN cR]?).bind fun aBX=>(if eqI aBX.1 aU.1=true then (if aU.2.2=true then (some (.inr false)) else (d9 k x1 aU (aL .i64 cR 1) dG)) else (d9 k x1 aU (aL .i64 cR 1) dG))) else none)) else (some (.inl dG)))
def fG:Nat→Ty8→Int→Option qG
 | 0,_,_=>none
 | k+1,x1,bU=>(if ltI bU (nI x1.length)=true then (if inI bU x1.length=true then ((x1[tN bU]?).bind fun aU=>(if (iJ aU.2.1 aU.1)=true then (if ltI 0 bU=true then (if inI (qF .i64 bU 1) x1.length=true then ((x1[tN (qF .i64 bU 1)]?).bind fun lP=>(if ltI lP.1 aU.1=true then ((d9 k x1 aU 0 bU).bind (fun q=>Sum.elim (fun gB=>(fG k x1 (aL .i64 gB 1))) (fun gB=>(some (.inr gB))) q)) else (if eqI lP.1 aU.1=true then (if ltI lP.2.1 aU.2.1=true then ((d9 k x1 aU 0 bU).bind (fun q=>Sum.elim (fun gB=>(fG k x1 (aL .i64 gB 1))) (fun gB=>(some (.inr gB))) q)) else (some (.inr false))) else (some (.inr false))))) else none) else ((d9 k x1 aU 0 bU).bind (fun q=>Sum.elim (fun lA=>(fG k x1 (aL .i64 lA 1))) (fun lA=>(some (.inr lA))) q))) else (some (.inr false)))) else none) else (some (.inl ())))
def tI (k:Nat) (x1:Ty8):Option Bool:=((fG k x1 0).bind (fun q=>Sum.elim (fun x3=>(some true)) (fun x3=>(some x3)) q))
def f5:Nat→Ty8→Int→Int→Int→Option (Sum (Unit) (Int))
 | 0,_,_,_,_=>none
 | k+1,x1,x2,x3,dS=>(if ltI dS (nI x1.length)=true then (if inI dS x1.length=true then ((x1[tN dS]?).bind fun nJ=>(if eqI nJ.1 x3=true then (if eqI nJ.2.1 x2=true then (if nJ.2.2=true then (some (.inr 2)) else (some (.inr 1))) else (f5 k x1 x2 x3 (aL .i64 dS 1))) else (f5 k x1 x2 x3 (aL .i64 dS 1)))) else none) else (some (.inl ())))
def tF (k:Nat) (x1:Ty8) (x2:Int) (x3:Int):Option Int:=((f5 k x1 x2 x3 0).bind (fun q=>Sum.elim (fun x5=>(some 0)) (fun x5=>(some x5)) q))
def bQ:Nat→Ty8→Int→Int→Bool→Int→Ty8→Bool→Option (Bool × Bool × Ty8)
 | 0,_,_,_,_,_,_,_=>none
 | k+1,x1,x2,x3,bM,aR,aD,aG=>(if ltI aR (nI x1.length)=true then (if bM=true then (if inI aR x1.length=true then ((x1[tN aR]?).bind fun aE=>(if eqI aE.1 x3=true then (if eqI aE.2.1 x2=true then (bQ k x1 x2 x3 bM (aL .i64 aR 1) aD aG) else (if bC (((aD++[aE]).length)*24)=true then (bQ k x1 x2 x3 bM (aL .i64 aR 1) (aD++[aE]) aG) else none)) else (if bC (((aD++[aE]).length)*24)=true then (bQ k x1 x2 x3 bM (aL .i64 aR 1) (aD++[aE]) aG) else none))) else none) else (if inI aR x1.length=true then ((x1[tN aR]?).bind fun aE=>(if ltI x3 aE.1=true then (if bC (((aD++[(x3,x2,aG)]).length)*24)=true then (if eqI aE.1 x3=true then (if eqI aE.2.1 x2=true then (bQ k x1 x2 x3 true (aL .i64 aR 1) (aD++[(x3,x2,aG)]) aG) else (if bC ((((aD++[(x3,x2,aG)])++[aE]).length)*24)=true then (bQ k x1 x2 x3 true (aL .i64 aR 1) ((aD++[(x3,x2,aG)])++[aE]) aG) else none)) else (if bC ((((aD++[(x3,x2,aG)])++[aE]).length)*24)=true then (bQ k x1 x2 x3 true (aL .i64 aR 1) ((aD++[(x3,x2,aG)])++[aE]) aG) else none)) else none) else (if eqI x3 aE.1=true then (if ltI aE.2.1 x2=true then (if eqI aE.1 x3=true then (if eqI aE.2.1 x2=true then (bQ k x1 x2 x3 bM (aL .i64 aR 1) aD aG) else (if bC (((aD++[aE]).length)*24)=true then (bQ k x1 x2 x3 bM (aL .i64 aR 1) (aD++[aE]) aG) else none)) else (if bC (((aD++[aE]).length)*24)=true then (bQ k x1 x2 x3 bM (aL .i64 aR 1) (aD++[aE]) aG) else none)) else (if bC (((aD++[(x3,x2,aG)]).length)*24)=true then (if eqI aE.1 x3=true then (if eqI aE.2.1 x2=true then (bQ k x1 x2 x3 true (aL .i64 aR 1) (aD++[(x3,x2,aG)]) aG) else (if bC ((((aD++[(x3,x2,aG)])++[aE]).length)*24)=true then (bQ k x1 x2 x3 true (aL .i64 aR 1) ((aD++[(x3,x2,aG)])++[aE]) aG) else none)) else (if bC ((((aD++[(x3,x2,aG)])++[aE]).length)*24)=true then (bQ k x1 x2 x3 true (aL .i64 aR 1) ((aD++[(x3,x2,aG)])++[aE]) aG) else none)) else none)) else (if eqI aE.1 x3=true then (if eqI aE.2.1 x2=true then (bQ k x1 x2 x3 bM (aL .i64 aR 1) aD aG) else (if bC (((aD++[aE]).length)*24)=true then (bQ k x1 x2 x3 bM (aL .i64 aR 1) (aD++[aE]) aG) else none)) else (if bC (((aD++[aE]).length)*24)=true then (bQ k x1 x2 x3 bM (aL .i64 aR 1) (aD++[aE]) aG) else none))))) else none)) else (some (bM,aG,aD)))
def gF:Nat→Ty8→Int→Int→Bool→Int→Option (Sum (Unit) (Ty8 × Int))
 | 0,_,_,_,_,_=>none
 | k+1,x1,x2,x3,x4,dB=>(if ltI dB (nI x1.length)=true then (if inI dB x1.length=true then ((x1[tN dB]?).bind fun nK=>(if eqI nK.1 x3=true then (if eqI nK.2.1 x2=true then (gF k x1 x2 x3 x4 (aL .i64 dB 1)) else (if x4=true then (some (.inr (x1,9))) else (if nK.2.2=true then (some (.inr (x1,9))) else (gF k x1 x2 x3 x4 (aL .i64 dB 1))))) else (gF k x1 x2 x3 x4 (aL .i64 dB 1)))) else none) else (some (.inl ())))
def vH (k:Nat) (x1:Ty8) (x2:Int) (x3:Int) (x4:Bool):Option (Ty8 × Int):=((tI k x1).bind fun x5=>(if x5=true then (if (iJ x2 x3)=true then ((gF k x1 x2 x3 x4 0).bind (fun q=>Sum.elim (fun x7=>(if x4=true then ((bQ k x1 x2 x3 false 0 [] true).bind (fun x9=>(if x9.1=true then (some (x9.2.2,0)) else (if bC (((x9.2.2++[(x3,x2,x9.2.1)]).length)*24)=true then (some ((x9.2.2++[(x3,x2,x9.2.1)]),0)) else none)))) else ((tF k x1 x2 x3).bind fun x8=>((bQ k x1 x2 x3 false 0 [] (eqI x8 2)).bind (fun x10=>(if x10.1=true then (some (x10.2.2,0)) else (if bC (((x10.2.2++[(x3,x2,x10.2.1)]).length)*24)=true then (some ((x10.2.2++[(x3,x2,x10.2.1)]),0)) else none))))))) (fun x7=>(some x7)) q)) else (some (x1,2))) else (some (x1,2))))
def xV (k:Nat) (x1:Int) (x2:aI) (x3:Bool) (x4:Int) (x5:Int) (x6:Int):Option (Int × aI × Bool × Int × Int):=((nB k x1 x2 x3 x4).bind fun x7=>(if x7=true then (if ltI x5 64=true then (if eqI x1 0=true then (if ltI (nI x2.length) 50=true then (if bC (x2.length*16)=true then (if bC (((x2++[(x5,x6)]).length)*16)=true then (some (x1,(x2++[(x5,x6)]),x3,x4,0)) else none) else none) else (some (x1,x2,x3,x4,6))) else (some (x1,x2,x3,x4,13))) else (some (x1,x2,x3,x4,2))) else (some (x1,x2,x3,x4,2))))
def iY:Nat→aI→Int→Int→Option (Sum (Unit) (Int))
 | 0,_,_,_=>none
 | k+1,x1,x2,eO=>(if ltI eO (nI x1.length)=true then (if inI eO x1.length=true then ((x1[tN eO]?).bind fun sD=>(if eqI sD.1 x2=true then (some (.inr sD.2)) else (iY k x1 x2 (aL .i64 eO 1)))) else none) else (some (.inl ())))
def yE (k:Nat) (x1:aI) (x2:Int):Option Int:=((iY k x1 x2 0).bind (fun q=>Sum.elim (fun x4=>(some 0)) (fun x4=>(some x4)) q))
def fF:Nat→aI→Ty3→Ty7→Int→Int→Int→Int→Ty5→(Ty8 × Int)→Int→Int→Option (Int)
 | 0,_,_,_,_,_,_,_,_,_,_,_=>none
 | k+1,x1,x3,x4,x6,x7,x8,x9,x10,x11,fB,dU=>(if ltI dU (nI x10.2.2.1.length)=true then (if inI dU x10.2.2.1.length=true then ((x10.2.2.1[tN dU]?).bind fun sE=>(if eqI sE.1 x8=true then (fF k x1 x3 x4 x6 x7 x8 x9 x10 x11 (aL .i64 fB sE.2) (aL .i64 dU 1)) else (fF k x1 x3 x4 x6 x7 x8 x9 x10 x11 fB (aL .i64 dU 1)))) else none) else (some fB))
def rD (k:Nat) (x1:aI) (x2:Ty8) (x3:Ty3) (x4:Ty7) (x5:Int) (x6:Int) (x7:Int) (x8:Int) (x9:Int):Option (aI × Ty8 × Ty3 × Ty7 × Int × Int):=(if inI x5 x3.length=true then ((x3[tN x5]?).bind fun x10=>(if eqI x10.2.1 0=true then ((vH k x2 x7 x8 (eqI x6 3)).bind fun x11=>(if eqI x11.2 0=true then (if eqI x6 3=true then ((xV k x10.2.1 x10.2.2.1 x10.2.2.2.1 x10.2.2.2.2 x8 x9).bind fun x12=>(if eqI x12.2.2.2.2 0=true then ((mH k x1 x11.1 x3 x4 x5 x12.1 x12.2.1 x12.2.2.1 x12.2.2.2.1).bind fun x13=>(some (x13.1,x13.2.1,x13.2.2.1,x13.2.2.2,0,0))) else (some (x1,x2,x3,x4,0,x12.2.2.2.2)))) else ((yE k x1 x8).bind fun x12=>((fF k x1 x3 x4 x6 x7 x8 x9 x10 x11 x12 0).bind (fun x14=>(some (x1,x11.1,x3,x4,x14,0)))))) else (some (x1,x2,x3,x4,0,x11.2)))) else (some (x1,x2,x3,x4,0,13)))) else none)
def vK (k:Nat) (x1:aI) (x2:Ty8) (x3:Ty3) (x4:Ty7) (x5:Int) (x6:Int) (x7:Int) (x8:Int):Option (aI × Ty8 × Ty3 × Ty7 × Int × Int):=(if ltI x5 1=true then (some (x1,x2,x3,x4,0,2)) else (if ltI 6 x5=true then (some (x1,x2,x3,x4,0,2)) else (if ltI x6 0=true then (some (x1,x2,x3,x4,0,2)) else (if ltI x6 1000=true then ((vB k x1 x2 x3 x4 x6).bind fun x9=>(if eqI x5 1=true then (if ltI x9 0=true then (if bC (x3.length*56)=true then (if bC (((x3++[(x6,0,[],false,0)]).length)*56)=true then (some (x1,x2,(x3++[(x6,0,[],false,0)]),x4,0,0)) else none) else none) else (some (x1,x2,x3,x4,0,8))) else (if ltI x9 0=true then (some (x1,x2,x3,x4,0,7)) else (if ltI 3 x5=true then ((yC k x1 x2 x3 x4 x9 x5 x6 x7 x8).bind fun x10=>(some (x10.1,x10.2.1,x10.2.2.1,x10.2.2.2.1,0,x10.2.2.2.2))) else ((rD k x1 x2 x3 x4 x9 x5 x6 x7 x8).bind fun x10=>(some (x10.1,x10.2.1,x10.2.2.1,x10.2.2.2.1,x10.2.2.2.2.1,x10.2.2.2.2.2))))))) else (some (x1,x2,x3,x4,0,2))))))
def aBM (k:Nat) (x1:aI) (x2:Ty8) (x3:Ty3) (x4:Ty7) (x5:Int) (x6:Int) (x7:Int) (x8:Int):Option (aI × Ty8 × Ty3 × Ty7 × Int × Int):=((vK k x1 x2 x3 x4 x5 x6 x7 x8).bind fun x9=>(if eqI x9.2.2.2.2.2 0=true then (if bC (x4.length*32)=true then (if bC (((x4++[(x5,x6,x7,x8)]).length)*32)=true then (some (x9.1,x9.2.1,x9.2.2.1,(x4++[(x5,x6,x7,x8)]),x9.2.2.2.2.1,0)) else none) else none) else (some (x1,x2,x3,x4,0,x9.2.2.2.2.2))))
def gJ:Nat→Ty7→Int→aI→Ty8→Ty3→Ty7→Option qG
 | 0,_,_,_,_,_,_=>none
 | k+1,x1,eP,g4,g5,g6,g7=>(if ltI eP (nI x1.length)=true then (if inI eP x1.length=true then ((x1[tN eP]?).bind fun j9=>((aBM k g4 g5 g6 g7 j9.1 j9.2.1 j9.2.2.1 j9.2.2.2).bind fun iC=>(if eqI iC.2.2.2.2.2 0=true then (gJ k x1 (aL .i64 eP 1) iC.1 iC.2.1 iC.2.2.1 iC.2.2.2.1) else (some (.inr false))))) else none) else (some (.inl ())))
def oT (k:Nat) (x1:Ty7):Option Bool:=((gJ k x1 0 [] [] [] []).bind (fun q=>Sum.elim (fun x3=>(some true)) (fun x3=>(some x3)) q))
def eQ:Nat→Ty7→Int→Int→Option (Sum (Unit) (Int))
 | 0,_,_,_=>none
 | k+1,x1,x2,dV=>(if ltI dV (nI x1.length)=true then (if inI dV x1.length=true then ((x1[tN dV]?).bind fun nL=>(if eqI nL.1 6=true then (if eqI nL.2.1 x2=true then (some (.inr nL.2.2.2)) else (eQ k x1 x2 (aL .i64 dV 1))) else (eQ k x1 x2 (aL .i64 dV 1)))) else none) else (some (.inl ())))
def lY (k:Nat) (x1:Ty7) (x2:Int):Option Int:=((eQ k x1 x2 0).bind (fun q=>Sum.elim (fun x4=>(some 0)) (fun x4=>(some x4)) q))
def gQ:Nat→Ty7→Int→aI→Option (aI)
 | 0,_,_,_=>none
 | k+1,x1,bN,bG=>(if ltI bN 1000=true then ((lY k x1 bN).bind fun fS=>(if eqI fS 0=true then (gQ k x1 (aL .i64 bN 1) bG) else (if bC (((bG++[(bN,fS)]).length)*16)=true then (gQ k x1 (aL .i64 bN 1) (bG++[(bN,fS)])) else none))) else (some bG))
def sW (k:Nat) (x1:Ty7):Option (aI × Int):=((oT k x1).bind fun x2=>(if x2=true then ((gQ k x1 0 []).bind (fun x4=>(some (x4,0)))) else (some ([],4))))
def eS:Nat→Ty7→Int→aI→Option (aI)
 | 0,_,_,_=>none
 | k+1,x1,dC,aY=>(if ltI dC (nI x1.length)=true then (if inI dC x1.length=true then ((x1[tN dC]?).bind fun eA=>(if eqI eA.1 3=true then ((lY k x1 eA.2.1).bind fun aBY=>(if eqI aBY 1=true then (if bC (((aY++[eA.2.2]).length)*16)=true then (eS k x1 (aL .i64 dC 1) (aY++[eA.2.2])) else none) else (eS k x1 (aL .i64 dC 1) aY))) else (eS k x1 (aL .i64 dC 1) aY))) else none) else (some aY))
def oX (k:Nat) (x1:Ty7):Option (aI × Int):=((oT k x1).bind fun x2=>(if x2=true then ((eS k x1 0 []).bind (fun x4=>((zG k x4).bind fun x5=>(some (x5,0))))) else (some ([],4))))
def eT:Nat→Ty7→Int→Int→Option (Int)
 | 0,_,_,_=>none
 | k+1,x1,eB,dD=>(if ltI dD (nI x1.length)=true then (if inI dD x1.length=true then ((x1[tN dD]?).bind fun sF=>(if eqI sF.1 5=true then ((lY k x1 sF.2.1).bind fun aBZ=>(if eqI aBZ 2=true then (eT k x1 (aL .i64 eB 1) (aL .i64 dD 1)) else (eT k x1 eB (aL .i64 dD 1)))) else (eT k x1 eB (aL .i64 dD 1)))) else none) else (some eB))
def oY (k:Nat) (x1:Ty7):Option (Int × Int):=((oT k x1).bind fun x2=>(if x2=true then ((eT k x1 0 0).bind (fun x4=>(some (x4,0)))) else (some (0,4))))
def iD:Nat→aI→aI→Int→Option qG
 | 0,_,_,_=>none
 | k+1,x1,x2,dE=>(if ltI dE (nI x1.length)=true then (if inI dE x1.length=true then ((x1[tN dE]?).bind fun qZ=>(if inI dE x2.length=true then ((x2[tN dE]?).bind fun q7=>(if eqI qZ.1 q7.1=true then (if eqI qZ.2 q7.2=true then (iD k x1 x2 (aL .i64 dE 1)) else (some (.inr false))) else (some (.inr false)))) else none)) else none) else (some (.inl ())))
def sU (k:Nat) (x1:aI) (x2:aI):Option Bool:=(if eqI (nI x1.length) (nI x2.length)=true then ((iD k x1 x2 0).bind (fun q=>Sum.elim (fun x4=>(some true)) (fun x4=>(some x4)) q)) else (some false))
def dI:Nat→(aI × Int)→Int→Option qG
 | 0,_,_=>none
 | k+1,x6,gG=>(if ltI gG (nI x6.1.length)=true then (if inI gG x6.1.length=true then ((x6.1[tN gG]?).bind fun aCS=>(if eqI 0 aCS.2=true then (dI k x6 (aL .i64 gG 1)) else (some (.inr false)))) else none) else (some (.inl ())))
def cV:Nat→aI→(aI × Int)→Int→Option qG
 | 0,_,_,_=>none
 | k+1,x5,x6,fK=>(if ltI fK (nI x6.1.length)=true then (if inI fK x6.1.length=true then ((x6.1[tN fK]?).bind fun pH=>(if o8 x5 pH.1=true then ((bD x5 pH.1).bind fun aE4=>(if eqI aE4 pH.2=true then (cV k x5 x6 (aL .i64 fK 1)) else (some (.inr false)))) else (if eqI 0 pH.2=true then (cV k x5 x6 (aL .i64 fK 1)) else (some (.inr false))))) else none) else (some (.inl ())))
def oB (k:Nat) (x1:Ty7):Option Bool:=((tK k).bind fun x2=>(if x2=true then (if ltI 100 (nI x1.length)=true then (some true) else ((kL k x1).bind fun x3=>((mI k x3).bind (fun q=>Sum.elim (fun x5=>((sW k x1).bind fun x6=>((kL k x1).bind fun x7=>((lU k x7).bind fun x8=>((oX k x1).bind fun x9=>((kL k x1).bind fun x10=>((lW k x10).bind fun x11=>((oY k x1).bind fun x12=>(if eqI 0 x6.2=true then (if eqI (nI x5.length) (nI x6.1.length)=true then ((sU k x8.1 x9.1).bind fun x13=>(if x13=true then (if eqI x8.2 x9.2=true then (if eqI x11.1 x12.1=true then (if eqI x11.2 x12.2=true then ((cV k x5 x6 0).bind (fun q=>Sum.elim (fun x15=>(some true)) (fun x15=>(some x15)) q)) else (some false)) else (some false)) else (some false)) else (some false))) else (some false)) else (some false)))))))))) (fun x5=>((sW k x1).bind fun x6=>((kL k x1).bind fun x7=>((lU k x7).bind fun x8=>((oX k x1).bind fun x9=>((kL k x1).bind fun x10=>((lW k x10).bind fun x11=>((oY k x1).bind fun x12=>(if eqI 4 x6.2=true then (if eqI 0 (nI x6.1.length)=true then ((sU k x8.1 x9.1).bind fun x13=>(if x13=true then (if eqI x8.2 x9.2=true then (if eqI x11.1 x12.1=true then (if eqI x11.2 x12.2=true then ((dI k x6 0).bind (fun q=>Sum.elim (fun x15=>(some true)) (fun x15=>(some x15)) q)) else (some false)) else (some false)) else (some false)) else (some false))) else (some false)) else (some false)))))))))) q)))) else (some false)))
end Go.Ws
