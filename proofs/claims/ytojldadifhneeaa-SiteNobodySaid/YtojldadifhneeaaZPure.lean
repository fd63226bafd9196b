/-
  The functions as plain Lean functions. (Printed by my own program.)
  Conditions: none.
-/
import Derived.Test.YtojldadifhneeaaZB2
import Derived.Test.YtojldadifhneeaaZOppDef
set_option linter.unusedVariables false
set_option linter.unusedSimpArgs false
namespace Go.Ws
abbrev aG:=List (Int × Int)
abbrev Ty15:=Int × Int × Bool
abbrev zH:=Sum (Unit) (Bool)
abbrev Ty13:=Int × Int × Int × Int
abbrev aJ:=List Ty15
abbrev aZ:=List Ty13
abbrev Ty10:=Int × aG × Bool × Int
abbrev Ty8:=Int × Ty10
abbrev Ty6:=List Ty8
abbrev Ty5:=Int × Int × aJ × Ty6 × aG
abbrev Ty4:=Int × Int × aG × aJ × Ty6 × aZ
abbrev Ty1:=Sum (aG × aJ × aG × aJ × Ty6 × aZ × Ty6 × aZ) (Bool)
set_option linter.unusedVariables false
def i9 (k:Nat) (x1:aJ):Option Unit:=(if cV (x1.length*24)=true then (some ()) else none)
def qQ:Unit:=()
def oQ (k:Nat) (x1:aJ):Option Unit:=i9 k x1
def hX (x1:Int) (x2:Int):Bool:=(if ltI x2 64=true then (if ltI x1 0=true then false else ltI x1 1000) else false)
def iF (x1:Int):Bool:=(!eqI x1 x1)
def bA (x1:Int) (x2:Int):Int:=(if (iF x1)=true then (if (iF x2)=true then 0 else (-1)) else (if (iF x2)=true then 1 else (if ltI x1 x2=true then (-1) else (if ltI x2 x1=true then 1 else 0))))
def fJ (x1:Int):Bool:=(!eqI x1 x1)
def dL (x1:Int) (x2:Int):Int:=(if (fJ x1)=true then (if (fJ x2)=true then 0 else (-1)) else (if (fJ x2)=true then 1 else (if ltI x1 x2=true then (-1) else (if ltI x2 x1=true then 1 else 0))))
def kQ:Nat→(List Int)→Int→Option (Sum (Unit) (Int))
 | 0,_,_=>none
 | k+1,x1,dD=>(if ltI dD (nI x1.length)=true then (if inI dD x1.length=true then ((x1[tN dD]?).bind fun pK=>(if eqI pK 0=true then (kQ k x1 (aI .i64 dD 1)) else (some (.inr pK)))) else none) else (some (.inl ())))
def aCF (k:Nat) (x1:List Int):Option Int:=((kQ k x1 0).bind (fun q=>Sum.elim (fun x3=>(some 0)) (fun x3=>(some x3)) q))
def n0 (k:Nat) (x1:Int) (x2:Int) (x3:Bool) (x4:Int) (x5:Int) (x6:Bool):Option Int:=((aCF k [(bA x1 x4),(dL x2 x5)]).bind fun x7=>(some x7))
def eJ:Nat→aJ→Int→Option zH
 | 0,_,_=>none
 | k+1,x1,bJ=>(if ltI bJ (nI x1.length)=true then (if inI bJ x1.length=true then ((x1[tN bJ]?).bind fun aP=>(if (hX aP.2.1 aP.1)=true then (if eqI bJ 0=true then (eJ k x1 (aI .i64 bJ 1)) else (if inI (sL .i64 bJ 1) x1.length=true then ((x1[tN (sL .i64 bJ 1)]?).bind fun cE=>((n0 k cE.1 cE.2.1 cE.2.2 aP.1 aP.2.1 aP.2.2).bind fun nE=>(if ltI nE 0=true then (if eqI cE.1 aP.1=true then (if cE.2.2=true then (some (.inr false)) else (if aP.2.2=true then (some (.inr false)) else (eJ k x1 (aI .i64 bJ 1)))) else (eJ k x1 (aI .i64 bJ 1))) else (some (.inr false))))) else none)) else (some (.inr false)))) else none) else (some (.inl ())))
def rP (k:Nat) (x1:aJ):Option Bool:=((eJ k x1 0).bind (fun q=>Sum.elim (fun x3=>(some true)) (fun x3=>(some x3)) q))
def aX:Nat→aJ→Int→Int→Bool→Int→Int→Option (Int)
 | 0,_,_,_,_,_,_=>none
 | k+1,x1,x2,x3,x4,bY,cF=>(if ltI bY cF=true then (if inI (conv .i64 (sV .u64 (conv .u64 (aI .i64 bY cF)) 1)) x1.length=true then ((x1[tN (conv .i64 (sV .u64 (conv .u64 (aI .i64 bY cF)) 1))]?).bind fun g5=>((n0 k g5.1 g5.2.1 g5.2.2 x2 x3 x4).bind fun uP=>(if ltI uP 0=true then (aX k x1 x2 x3 x4 (aI .i64 (conv .i64 (sV .u64 (conv .u64 (aI .i64 bY cF)) 1)) 1) cF) else (aX k x1 x2 x3 x4 bY (conv .i64 (sV .u64 (conv .u64 (aI .i64 bY cF)) 1)))))) else none) else (some bY))
def fR (k:Nat) (x1:aJ) (x2:Int) (x3:Int) (x4:Bool):Option (Int × Bool):=((aX k x1 x2 x3 x4 0 (nI x1.length)).bind (fun x6=>(if ltI x6 (nI x1.length)=true then (if inI x6 x1.length=true then ((x1[tN x6]?).bind fun x7=>((n0 k x7.1 x7.2.1 x7.2.2 x2 x3 x4).bind fun x8=>(some (x6,eqI x8 0)))) else none) else (some (x6,false)))))
def pA (k:Nat) (x1:Int) (x2:aJ) (x3:aJ):Option aJ:=aDO 24 x1 x2 x3
def fK:Nat→aJ→Int→Int→Bool→Int→Option (Sum (Unit) (aJ × Int))
 | 0,_,_,_,_,_=>none
 | k+1,x1,x2,x3,x4,cG=>(if ltI cG (nI x1.length)=true then (if inI cG x1.length=true then ((x1[tN cG]?).bind fun g6=>(if eqI g6.1 x3=true then (if eqI g6.2.1 x2=true then (fK k x1 x2 x3 x4 (aI .i64 cG 1)) else (if x4=true then (some (.inr (x1,9))) else (if g6.2.2=true then (some (.inr (x1,9))) else (fK k x1 x2 x3 x4 (aI .i64 cG 1))))) else (fK k x1 x2 x3 x4 (aI .i64 cG 1)))) else none) else (some (.inl ())))
def rN (k:Nat) (x1:aJ) (x2:Int) (x3:Int) (x4:Bool):Option (aJ × Int):=((oQ k x1).bind fun x5=>((rP k x1).bind fun x6=>(if x6=true then (if (hX x2 x3)=true then ((fK k x1 x2 x3 x4 0).bind (fun q=>Sum.elim (fun x8=>((fR k x1 x3 x2 x4).bind fun x9=>(if x9.2=true then (if inI x9.1 x1.length=true then ((x1[tN x9.1]?).bind fun x10=>(if x10.2.2=true then (some ((List.set x1 (tN x9.1) (x10.1,x10.2.1,true)),0)) else (some ((List.set x1 (tN x9.1) (x10.1,x10.2.1,x4)),0)))) else none) else ((pA k x9.1 x1 [(x3,x2,x4)]).bind fun x10=>(some (x10,0)))))) (fun x8=>(some x8)) q)) else (some (x1,2))) else (some (x1,2)))))
def xY (x1:Int) (x2:Int) (x3:Bool) (x4:Int):Unit:=()
def cK:Nat→aJ→Int→Int→Option (Sum (Unit) (Int))
 | 0,_,_,_=>none
 | k+1,x1,x2,cO=>(if ltI cO (nI x1.length)=true then (if inI cO x1.length=true then ((x1[tN cO]?).bind fun iA=>(if eqI iA.2.1 x2=true then (some (.inr cO)) else (cK k x1 x2 (aI .i64 cO 1)))) else none) else (some (.inl ())))
def j1 (k:Nat) (x1:aJ) (x2:Int):Option Int:=((cK k x1 x2 0).bind (fun q=>Sum.elim (fun x4=>(some (-1))) (fun x4=>(some x4)) q))
def bX:Nat→aJ→Int→Int→Int→aJ→Option (Int × aJ)
 | 0,_,_,_,_,_=>none
 | k+1,x1,x2,cP,cA,cQ=>(if ltI cP (nI x1.length)=true then (if inI cP x1.length=true then ((cQ[tN cP]?).bind fun eI=>(if eqI eI.2.1 x2=true then (bX k x1 x2 (aI .i64 cP 1) cA cQ) else (if inI cA x1.length=true then ((cQ[tN cA]?).bind fun aKN=>(bX k x1 x2 (aI .i64 cP 1) (aI .i64 cA 1) (List.set cQ (tN cA) eI))) else none))) else none) else (some (cA,cQ)))
def jG (k:Nat) (x1:aJ) (x2:Int):Option (Nat × aJ):=((j1 k x1 x2).bind fun x3=>(if eqI x3 (-1)=true then (some (x1.length,x1)) else ((bX k x1 x2 (aI .i64 x3 1) x3 x1).bind (fun x5=>(if isZ x1.length=true then none else (if sY x1.length x5.2.length=true then (if leI x5.1 x1.length=true then (if isZ (x1.length - (tN x5.1))=true then (if leI x5.1 x5.2.length=true then (some (tN x5.1,x5.2)) else none) else (if sY (tN x5.1+(x1.length - (tN x5.1))) x5.2.length=true then (if sY (tN x5.1) x5.2.length=true then (if sY x1.length ((((List.take (tN x5.1) x5.2)++(List.replicate (x1.length - (tN x5.1)) (0,0,false)))++(List.drop (tN x5.1+(x1.length - (tN x5.1))) x5.2)).length)=true then (if leI x5.1 ((((List.take (tN x5.1) x5.2)++(List.replicate (x1.length - (tN x5.1)) (0,0,false)))++(List.drop (tN x5.1+(x1.length - (tN x5.1))) x5.2)).length)=true then (some (tN x5.1,(((List.take (tN x5.1) x5.2)++(List.replicate (x1.length - (tN x5.1)) (0,0,false)))++(List.drop (tN x5.1+(x1.length - (tN x5.1))) x5.2)))) else none) else none) else none) else none)) else none) else none))))))
def j3 (k:Nat) (x1:aJ) (x2:Int):Option aJ:=((oQ k x1).bind fun x3=>((jG k x1 x2).bind fun x4=>(if sY x4.1 x4.2.length=true then (some (List.take x4.1 x4.2)) else none)))
def gV (k:Nat) (x1:aG):Option Unit:=(if cV (x1.length*16)=true then (some ()) else none)
def oG:Unit:=()
def m7 (k:Nat) (x1:aG):Option Unit:=gV k x1
def dS:Nat→aG→Int→Option zH
 | 0,_,_=>none
 | k+1,x1,bP=>(if ltI bP (nI x1.length)=true then (if inI bP x1.length=true then ((x1[tN bP]?).bind fun iB=>(if ltI iB.1 64=true then (if eqI iB.2 0=true then (some (.inr false)) else (if ltI 0 bP=true then (if inI (sL .i64 bP 1) x1.length=true then ((x1[tN (sL .i64 bP 1)]?).bind fun uQ=>(if ltI uQ.1 iB.1=true then (dS k x1 (aI .i64 bP 1)) else (some (.inr false)))) else none) else (dS k x1 (aI .i64 bP 1)))) else (some (.inr false)))) else none) else (some (.inl ())))
def oO (k:Nat) (x1:aG):Option Bool:=((dS k x1 0).bind (fun q=>Sum.elim (fun x3=>(some true)) (fun x3=>(some x3)) q))
def wU (x1:Int) (x2:Int):Unit:=()
def bR:Nat→aG→Int→Option (Sum (Unit) (Int))
 | 0,_,_=>none
 | k+1,x1,cR=>(if ltI cR (nI x1.length)=true then (if inI cR x1.length=true then ((x1[tN cR]?).bind fun kH=>(if ltI kH.1 64=true then (bR k x1 (aI .i64 cR 1)) else (some (.inr cR)))) else none) else (some (.inl ())))
def iC (k:Nat) (x1:aG):Option Int:=((bR k x1 0).bind (fun q=>Sum.elim (fun x3=>(some (-1))) (fun x3=>(some x3)) q))
def iE (k:Nat) (x1:aG):Option Bool:=((iC k x1).bind fun x2=>(some (!ltI x2 0)))
def vM (x1:Int) (x2:Int) (x3:Int):Unit:=()
def aU:Nat→aG→Int→Int→Int→Option (Int)
 | 0,_,_,_,_=>none
 | k+1,x1,x2,bZ,cH=>(if ltI bZ cH=true then (if inI (conv .i64 (sV .u64 (conv .u64 (aI .i64 bZ cH)) 1)) x1.length=true then ((x1[tN (conv .i64 (sV .u64 (conv .u64 (aI .i64 bZ cH)) 1))]?).bind fun kI=>(if ltI (bA kI.1 x2) 0=true then (aU k x1 x2 (aI .i64 (conv .i64 (sV .u64 (conv .u64 (aI .i64 bZ cH)) 1)) 1) cH) else (aU k x1 x2 bZ (conv .i64 (sV .u64 (conv .u64 (aI .i64 bZ cH)) 1))))) else none) else (some bZ))
def eG (k:Nat) (x1:aG) (x2:Int):Option (Int × Bool):=((aU k x1 x2 0 (nI x1.length)).bind (fun x4=>(if ltI x4 (nI x1.length)=true then (if inI x4 x1.length=true then ((x1[tN x4]?).bind fun x5=>(some (x4,eqI (bA x5.1 x2) 0))) else none) else (some (x4,false)))))
def qG (k:Nat) (x1:aG) (x2:Int):Option (Int × Bool):=((eG k x1 x2).bind fun x3=>(some (x3.1,x3.2)))
def pI (k:Nat) (x1:Int) (x2:Int) (x3:aG):Option aG:=delP x1 x2 x3
def mA (k:Nat) (x1:Int) (x2:aG) (x3:aG):Option aG:=aDO 16 x1 x2 x3
def m9 (k:Nat) (x1:Int) (x2:Int) (x3:aG):Option aG:=delP x1 x2 x3
def d5:Nat→aG→Int→aG→Option (aG)
 | 0,_,_,_=>none
 | k+1,x2,b5,aK=>(if ltI b5 (nI x2.length)=true then (if inI b5 x2.length=true then ((x2[tN b5]?).bind fun aV=>((qG k aK aV.1).bind fun aO=>(if aO.2=true then (if inI aO.1 aK.length=true then ((aK[tN aO.1]?).bind fun aM=>(((List.set aK (tN aO.1) (aM.1,aI .i64 aM.2 aV.2))[tN aO.1]?).bind fun bB=>(if eqI bB.2 0=true then ((pI k aO.1 (aI .i64 aO.1 1) (List.set aK (tN aO.1) (aM.1,aI .i64 aM.2 aV.2))).bind fun f6=>(d5 k x2 (aI .i64 b5 1) f6)) else (d5 k x2 (aI .i64 b5 1) (List.set aK (tN aO.1) (aM.1,aI .i64 aM.2 aV.2)))))) else none) else ((mA k aO.1 aK [(aV.1,0)]).bind fun aM=>(if inI aO.1 aM.length=true then ((aM[tN aO.1]?).bind fun bB=>(((List.set aM (tN aO.1) (bB.1,aI .i64 bB.2 aV.2))[tN aO.1]?).bind fun f6=>(if eqI f6.2 0=true then ((m9 k aO.1 (aI .i64 aO.1 1) (List.set aM (tN aO.1) (bB.1,aI .i64 bB.2 aV.2))).bind fun lF=>(d5 k x2 (aI .i64 b5 1) lF)) else (d5 k x2 (aI .i64 b5 1) (List.set aM (tN aO.1) (bB.1,aI .i64 bB.2 aV.2)))))) else none))))) else none) else (some aK))
def iM (k:Nat) (x1:aG) (x2:aG):Option (aG × Int):=((m7 k x1).bind fun x3=>((oO k x1).bind fun x4=>(if x4=true then ((iE k x2).bind fun x5=>(if x5=true then (some (x1,2)) else ((d5 k x2 0 x1).bind (fun x7=>(some (x7,0)))))) else (some (x1,2)))))
def fX:Nat→aG→Int→Int→Option (Sum (Unit) (Int))
 | 0,_,_,_=>none
 | k+1,x1,x2,dE=>(if ltI dE (nI x1.length)=true then (if inI dE x1.length=true then ((x1[tN dE]?).bind fun nG=>(if eqI nG.1 x2=true then (some (.inr nG.2)) else (fX k x1 x2 (aI .i64 dE 1)))) else none) else (some (.inl ())))
def mR (k:Nat) (x1:aG) (x2:Int):Option Int:=((fX k x1 x2 0).bind (fun q=>Sum.elim (fun x4=>(some 0)) (fun x4=>(some x4)) q))
def gZ (k:Nat) (x1:aG):Option Unit:=(if cV (x1.length*16)=true then (some ()) else none)
def oC:Unit:=()
def eT (k:Nat) (x1:aG):Option Unit:=gZ k x1
def nJ (k:Nat) (x1:Int) (x2:aG) (x3:Bool) (x4:Int):Option Unit:=((eT k x2).bind fun x5=>(some ()))
def gY (x1:Int) (x2:Int):Bool:=(!ltI x1 64)
def bH:Nat→aG→Int→Option (Sum (Unit) (Int))
 | 0,_,_=>none
 | k+1,x1,b6=>(if ltI b6 (nI x1.length)=true then (if inI b6 x1.length=true then ((x1[tN b6]?).bind fun fS=>(if (gY fS.1 fS.2)=true then (some (.inr b6)) else (bH k x1 (aI .i64 b6 1)))) else none) else (some (.inl ())))
def gI (k:Nat) (x1:aG):Option Int:=((bH k x1 0).bind (fun q=>Sum.elim (fun x3=>(some (-1))) (fun x3=>(some x3)) q))
def gH (k:Nat) (x1:aG):Option Bool:=((gI k x1).bind fun x2=>(some (!ltI x2 0)))
def mV (k:Nat) (x1:Int) (x2:aG) (x3:Bool) (x4:Int):Option Bool:=(if ltI x1 0=true then (some false) else (if ltI 3 x1=true then (some false) else (if ltI 50 (nI x2.length)=true then (some false) else ((gH k x2).bind fun x5=>(if x5=true then (some false) else (if eqI x4 1=true then (if eqI x1 3=true then (some true) else (if eqI x4 0=true then (if x3=true then (some (eqI x1 1)) else (some true)) else (some false))) else (if eqI x1 3=true then (some (eqI x4 2)) else (if eqI x4 0=true then (if x3=true then (some (eqI x1 1)) else (some true)) else (some false)))))))))
def uO (k:Nat) (x1:Int) (x2:aG) (x3:Bool) (x4:Int) (x5:Int) (x6:Int):Option (Int × aG × Bool × Int × Int):=((nJ k x1 x2 x3 x4).bind fun x7=>((mV k x1 x2 x3 x4).bind fun x8=>(if x8=true then (if (gY x5 x6)=true then (some (x1,x2,x3,x4,2)) else (if eqI x1 0=true then (if ltI (nI x2.length) 50=true then (if cV (((x2++[(x5,x6)]).length)*16)=true then (some (x1,(x2++[(x5,x6)]),x3,x4,0)) else none) else (some (x1,x2,x3,x4,6))) else (some (x1,x2,x3,x4,13)))) else (some (x1,x2,x3,x4,2)))))
def iG (k:Nat) (x1:Int) (x2:aG) (x3:Bool) (x4:Int):Option Ty10:=((eT k x2).bind fun x5=>(some (x1,x2,x3,x4)))
def rQ (k:Nat) (x1:Int) (x2:aG) (x3:Bool) (x4:Int) (x5:Bool):Option (Int × aG × Bool × Int × Int):=((iG k x1 x2 x3 x4).bind fun x6=>((mV k x6.1 x6.2.1 x6.2.2.1 x6.2.2.2).bind fun x7=>(if x7=true then (if eqI x6.1 0=true then (if x5=true then (some (1,x6.2.1,x6.2.2.1,x6.2.2.2,0)) else (some (2,x6.2.1,x6.2.2.1,x6.2.2.2,0))) else (some (x6.1,x6.2.1,x6.2.2.1,x6.2.2.2,13))) else (some (x6.1,x6.2.1,x6.2.2.1,x6.2.2.2,2)))))
def pV (k:Nat) (x1:Int) (x2:aG) (x3:Bool) (x4:Int):Option (Int × aG × Bool × Int × aG × Int):=((iG k x1 x2 x3 x4).bind fun x5=>((mV k x5.1 x5.2.1 x5.2.2.1 x5.2.2.2).bind fun x6=>(if x6=true then (if eqI x5.1 1=true then (if x5.2.2.1=true then (some (x5.1,x5.2.1,x5.2.2.1,x5.2.2.2,[],8)) else ((eT k x5.2.1).bind fun x7=>(some (x5.1,x5.2.1,true,x5.2.2.2,x5.2.1,0)))) else (some (x5.1,x5.2.1,x5.2.2.1,x5.2.2.2,[],13))) else (some (x5.1,x5.2.1,x5.2.2.1,x5.2.2.2,[],2)))))
def lX (k:Nat) (x1:aG):Option aG:=oppP x1
def kX (k:Nat) (x1:Int) (x2:aG) (x3:Bool) (x4:Int) (x5:Int):Option (Int × aG × Bool × Int × aG × Int):=((iG k x1 x2 x3 x4).bind fun x6=>((mV k x6.1 x6.2.1 x6.2.2.1 x6.2.2.2).bind fun x7=>(if x7=true then (if eqI x5 1=true then (if eqI x6.2.2.2 x5=true then (some (x6.1,x6.2.1,x6.2.2.1,x6.2.2.2,[],0)) else (if eqI x6.1 3=true then (some (x6.1,x6.2.1,x6.2.2.1,x6.2.2.2,[],13)) else (if eqI x6.1 1=true then (if eqB (eqI x5 1) x6.2.2.1=true then (some (3,x6.2.1,x6.2.2.1,x5,[],0)) else (if x6.2.2.1=true then ((lX k x6.2.1).bind fun x8=>(some (3,x6.2.1,x6.2.2.1,x5,x8,0))) else ((eT k x6.2.1).bind fun x8=>(some (3,x6.2.1,x6.2.2.1,x5,x6.2.1,0))))) else (some (x6.1,x6.2.1,x6.2.2.1,x6.2.2.2,[],13))))) else (if eqI x5 2=true then (if eqI x6.2.2.2 x5=true then (some (x6.1,x6.2.1,x6.2.2.1,x6.2.2.2,[],0)) else (if eqI x6.1 3=true then (some (x6.1,x6.2.1,x6.2.2.1,x6.2.2.2,[],13)) else (if eqB (eqI x5 1) x6.2.2.1=true then (some (3,x6.2.1,x6.2.2.1,x5,[],0)) else (if x6.2.2.1=true then ((lX k x6.2.1).bind fun x8=>(some (3,x6.2.1,x6.2.2.1,x5,x8,0))) else ((eT k x6.2.1).bind fun x8=>(some (3,x6.2.1,x6.2.2.1,x5,x6.2.1,0))))))) else (some (x6.1,x6.2.1,x6.2.2.1,x6.2.2.2,[],2)))) else (some (x6.1,x6.2.1,x6.2.2.1,x6.2.2.2,[],2)))))
def nH (x1:Int) (x2:Int):Bool:=(if ltI x2 64=true then (if ltI x1 0=true then false else ltI x1 1000) else false)
def dW:Nat→aJ→Ty15→Int→Int→Option (Sum (Int) (Bool))
 | 0,_,_,_,_=>none
 | k+1,x1,bT,d9,fM=>(if ltI d9 (nI x1.length)=true then (if eqI d9 fM=true then (dW k x1 bT (aI .i64 d9 1) fM) else (if inI d9 x1.length=true then ((x1[tN d9]?).bind fun aFY=>(if eqI aFY.1 bT.1=true then (if bT.2.2=true then (some (.inr false)) else (dW k x1 bT (aI .i64 d9 1) fM)) else (dW k x1 bT (aI .i64 d9 1) fM))) else none)) else (some (.inl fM)))
def fU:Nat→aJ→Int→Option zH
 | 0,_,_=>none
 | k+1,x1,dF=>(if ltI dF (nI x1.length)=true then (if inI dF x1.length=true then ((x1[tN dF]?).bind fun bT=>(if (nH bT.2.1 bT.1)=true then (if ltI 0 dF=true then (if inI (sL .i64 dF 1) x1.length=true then ((x1[tN (sL .i64 dF 1)]?).bind fun uR=>(if ltI uR.1 bT.1=true then ((dW k x1 bT 0 dF).bind (fun q=>Sum.elim (fun kJ=>(fU k x1 (aI .i64 kJ 1))) (fun kJ=>(some (.inr kJ))) q)) else (if eqI uR.1 bT.1=true then (if ltI uR.2.1 bT.2.1=true then ((dW k x1 bT 0 dF).bind (fun q=>Sum.elim (fun kJ=>(fU k x1 (aI .i64 kJ 1))) (fun kJ=>(some (.inr kJ))) q)) else (some (.inr false))) else (some (.inr false))))) else none) else ((dW k x1 bT 0 dF).bind (fun q=>Sum.elim (fun uS=>(fU k x1 (aI .i64 uS 1))) (fun uS=>(some (.inr uS))) q))) else (some (.inr false)))) else none) else (some (.inl ())))
def gL:Nat→aJ→Int→Int→Int→Option (Sum (Unit) (Int))
 | 0,_,_,_,_=>none
 | k+1,x1,x2,x3,fN=>(if ltI fN (nI x1.length)=true then (if inI fN x1.length=true then ((x1[tN fN]?).bind fun uT=>(if eqI uT.1 x3=true then (if eqI uT.2.1 x2=true then (if uT.2.2=true then (some (.inr 2)) else (some (.inr 1))) else (gL k x1 x2 x3 (aI .i64 fN 1))) else (gL k x1 x2 x3 (aI .i64 fN 1)))) else none) else (some (.inl ())))
def bN:Nat→aJ→Int→Int→Bool→Int→aJ→Bool→Option (Bool × Bool × aJ)
 | 0,_,_,_,_,_,_,_=>none
 | k+1,x1,x2,x3,cJ,a8,aQ,aR=>(if ltI a8 (nI x1.length)=true then (if cJ=true then (if inI a8 x1.length=true then ((x1[tN a8]?).bind fun aS=>(if eqI aS.1 x3=true then (if eqI aS.2.1 x2=true then (bN k x1 x2 x3 cJ (aI .i64 a8 1) aQ aR) else (if cV (((aQ++[aS]).length)*24)=true then (bN k x1 x2 x3 cJ (aI .i64 a8 1) (aQ++[aS]) aR) else none)) else (if cV (((aQ++[aS]).length)*24)=true then (bN k x1 x2 x3 cJ (aI .i64 a8 1) (aQ++[aS]) aR) else none))) else none) else (if inI a8 x1.length=true then ((x1[tN a8]?).bind fun aS=>(if ltI x3 aS.1=true then (if cV (((aQ++[(x3,x2,aR)]).length)*24)=true then (if eqI aS.1 x3=true then (if eqI aS.2.1 x2=true then (bN k x1 x2 x3 true (aI .i64 a8 1) (aQ++[(x3,x2,aR)]) aR) else (if cV ((((aQ++[(x3,x2,aR)])++[aS]).length)*24)=true then (bN k x1 x2 x3 true (aI .i64 a8 1) ((aQ++[(x3,x2,aR)])++[aS]) aR) else none)) else (if cV ((((aQ++[(x3,x2,aR)])++[aS]).length)*24)=true then (bN k x1 x2 x3 true (aI .i64 a8 1) ((aQ++[(x3,x2,aR)])++[aS]) aR) else none)) else none) else (if eqI x3 aS.1=true then (if ltI aS.2.1 x2=true then (if eqI aS.1 x3=true then (if eqI aS.2.1 x2=true then (bN k x1 x2 x3 cJ (aI .i64 a8 1) aQ aR) else (if cV (((aQ++[aS]).length)*24)=true then (bN k x1 x2 x3 cJ (aI .i64 a8 1) (aQ++[aS]) aR) else none)) else (if cV (((aQ++[aS]).length)*24)=true then (bN k x1 x2 x3 cJ (aI .i64 a8 1) (aQ++[aS]) aR) else none)) else (if cV (((aQ++[(x3,x2,aR)]).length)*24)=true then (if eqI aS.1 x3=true then (if eqI aS.2.1 x2=true then (bN k x1 x2 x3 true (aI .i64 a8 1) (aQ++[(x3,x2,aR)]) aR) else (if cV ((((aQ++[(x3,x2,aR)])++[aS]).length)*24)=true then (bN k x1 x2 x3 true (aI .i64 a8 1) ((aQ++[(x3,x2,aR)])++[aS]) aR) else none)) else (if cV ((((aQ++[(x3,x2,aR)])++[aS]).length)*24)=true then (bN k x1 x2 x3 true (aI .i64 a8 1) ((aQ++[(x3,x2,aR)])++[aS]) aR) else none)) else none)) else (if eqI aS.1 x3=true then (if eqI aS.2.1 x2=true then (bN k x1 x2 x3 cJ (aI .i64 a8 1) aQ aR) else (if cV (((aQ++[aS]).length)*24)=true then (bN k x1 x2 x3 cJ (aI .i64 a8 1) (aQ++[aS]) aR) else none)) else (if cV (((aQ++[aS]).length)*24)=true then (bN k x1 x2 x3 cJ (aI .i64 a8 1) (aQ++[aS]) aR) else none))))) else none)) else (some (cJ,aR,aQ)))
def gK:Nat→aJ→Int→Int→Bool→Int→Option (Sum (Unit) (aJ × Int))
 | 0,_,_,_,_,_=>none
 | k+1,x1,x2,x3,x4,eK=>(if ltI eK (nI x1.length)=true then (if inI eK x1.length=true then ((x1[tN eK]?).bind fun uU=>(if eqI uU.1 x3=true then (if eqI uU.2.1 x2=true then (gK k x1 x2 x3 x4 (aI .i64 eK 1)) else (if x4=true then (some (.inr (x1,9))) else (if uU.2.2=true then (some (.inr (x1,9))) else (gK k x1 x2 x3 x4 (aI .i64 eK 1))))) else (gK k x1 x2 x3 x4 (aI .i64 eK 1)))) else none) else (some (.inl ())))
def hI:Nat→Int→aG→Bool→Int→Int→Option zH
 | 0,_,_,_,_,_=>none
 | k+1,x1,x2,x3,x4,f7=>(if ltI f7 (nI x2.length)=true then (if inI f7 x2.length=true then ((x2[tN f7]?).bind fun aFZ=>(if ltI aFZ.1 64=true then (hI k x1 x2 x3 x4 (aI .i64 f7 1)) else (some (.inr false)))) else none) else (some (.inl ())))
def eM:Nat→aG→Int→aG→Option (aG)
 | 0,_,_,_=>none
 | k+1,x1,f8,g7=>(if ltI f8 0=true then (some g7) else (if inI f8 x1.length=true then ((x1[tN f8]?).bind fun rD=>(if cV (((g7++[(rD.1,aBO .i64 rD.2)]).length)*16)=true then (eM k x1 (sL .i64 f8 1) (g7++[(rD.1,aBO .i64 rD.2)])) else none)) else none))
def aEZ:Unit:=()
def rX (x1:aG) (x2:aJ) (x3:Ty6) (x4:aZ):Unit:=()
def bL:Nat→aG→Int→Int→Int→Int→aG→aJ→Ty6→aZ→(aJ × Int)→Int→Int→Option (Int)
 | 0,_,_,_,_,_,_,_,_,_,_,_,_=>none
 | k+1,x2,x5,x6,x7,x8,x9,x10,x11,x12,x13,cN,b7=>(if ltI b7 (nI x2.length)=true then (if inI b7 x2.length=true then ((x2[tN b7]?).bind fun kU=>(if eqI kU.1 x7=true then (bL k x2 x5 x6 x7 x8 x9 x10 x11 x12 x13 (aI .i64 cN kU.2) (aI .i64 b7 1)) else (bL k x2 x5 x6 x7 x8 x9 x10 x11 x12 x13 cN (aI .i64 b7 1)))) else none) else (some cN))
def gP (k:Nat) (x1:Int) (x2:aG) (x3:Bool) (x4:Int) (x5:Int) (x6:Int) (x7:Int) (x8:Int) (x9:aG) (x10:aJ) (x11:Ty6) (x12:aZ):Option (aJ × Ty6 × Int × Int):=(if eqI x1 0=true then ((rN k x10 x6 x7 (eqI x5 3)).bind fun x13=>(if eqI x13.2 0=true then (if eqI x5 3=true then ((uO k x1 x2 x3 x4 x7 x8).bind fun x14=>(if eqI x14.2.2.2.2 0=true then (if s5 x11 x6=true then ((eS x11 x6).bind fun x15=>(some (x13.1,(cC x11 x6 (x14.1,x14.2.1,x14.2.2.1,x14.2.2.2.1)),0,0))) else (some (x13.1,(cC x11 x6 (x14.1,x14.2.1,x14.2.2.1,x14.2.2.2.1)),0,0))) else (some (x10,x11,x14.2.2.2.2,0)))) else ((mR k x9 x7).bind fun x14=>((bL k x2 x5 x6 x7 x8 x9 x10 x11 x12 x13 x14 0).bind (fun x16=>(some (x13.1,x11,0,x16)))))) else (some (x10,x11,x13.2,0)))) else (some (x10,x11,13,0)))
def kR (k:Nat) (x1:Int) (x2:aG) (x3:Bool) (x4:Int) (x5:Int) (x6:Int) (x7:Int) (x8:Int) (x9:aG) (x10:aJ) (x11:Ty6) (x12:aZ):Option (aG × aJ × Ty6 × Int):=(if eqI x5 4=true then ((rQ k x1 x2 x3 x4 (!eqI x8 0)).bind fun x13=>(if eqI x13.2.2.2.2 0=true then ((iM k x9 []).bind fun x14=>(if eqI x13.1 2=true then ((j3 k x10 x6).bind fun x15=>(some (x14.1,x15,(cC x11 x6 (x13.1,x13.2.1,x13.2.2.1,x13.2.2.2.1)),0))) else (some (x14.1,x10,(cC x11 x6 (x13.1,x13.2.1,x13.2.2.1,x13.2.2.2.1)),0)))) else (some (x9,x10,x11,x13.2.2.2.2)))) else (if eqI x5 5=true then ((pV k x1 x2 x3 x4).bind fun x13=>(if eqI x13.2.2.2.2.2 0=true then ((iM k x9 x13.2.2.2.2.1).bind fun x14=>((j3 k x10 x6).bind fun x15=>(some (x14.1,x15,(cC x11 x6 (x13.1,x13.2.1,x13.2.2.1,x13.2.2.2.1)),0)))) else (some (x9,x10,x11,x13.2.2.2.2.2)))) else (if eqI x8 1=true then ((kX k x1 x2 x3 x4 x8).bind fun x13=>(if eqI x13.2.2.2.2.2 0=true then ((iM k x9 x13.2.2.2.2.1).bind fun x14=>((j3 k x10 x6).bind fun x15=>(some (x14.1,x15,(cC x11 x6 (x13.1,x13.2.1,x13.2.2.1,x13.2.2.2.1)),0)))) else (some (x9,x10,x11,x13.2.2.2.2.2)))) else (if eqI x8 2=true then ((kX k x1 x2 x3 x4 x8).bind fun x13=>(if eqI x13.2.2.2.2.2 0=true then ((iM k x9 x13.2.2.2.2.1).bind fun x14=>((j3 k x10 x6).bind fun x15=>(some (x14.1,x15,(cC x11 x6 (x13.1,x13.2.1,x13.2.2.1,x13.2.2.2.1)),0)))) else (some (x9,x10,x11,x13.2.2.2.2.2)))) else (some (x9,x10,x11,2))))))
def iP (k:Nat) (x1:Int) (x2:aG) (x3:Bool) (x4:Int) (x5:Int) (x6:Int) (x7:Int) (x8:Int) (x9:aG) (x10:aJ) (x11:Ty6) (x12:aZ):Option Ty5:=(if eqI x5 1=true then (some (0,0,x10,(cC x11 x6 (x1,x2,x3,x4)),x9)) else (if eqI x5 2=true then ((gP k x1 x2 x3 x4 x5 x6 x7 x8 x9 x10 x11 x12).bind fun x13=>(some (x13.2.2.2,x13.2.2.1,x13.1,x13.2.1,x9))) else (if eqI x5 3=true then ((gP k x1 x2 x3 x4 x5 x6 x7 x8 x9 x10 x11 x12).bind fun x13=>(some (x13.2.2.2,x13.2.2.1,x13.1,x13.2.1,x9))) else ((kR k x1 x2 x3 x4 x5 x6 x7 x8 x9 x10 x11 x12).bind fun x13=>(some (0,x13.2.2.2,x13.2.1,x13.2.2.1,x13.1))))))
def gM (k:Nat) (x1:Int) (x2:Int) (x3:Int) (x4:Int) (x5:aG) (x6:aJ) (x7:Ty6) (x8:aZ):Option Ty4:=(if ltI x1 1=true then (some (2,0,x5,x6,x7,x8)) else (if ltI 6 x1=true then (some (2,0,x5,x6,x7,x8)) else (if ltI x2 0=true then (some (2,0,x5,x6,x7,x8)) else (if ltI x2 1000=true then (if s5 x7 x2=true then ((eS x7 x2).bind fun x9=>(if eqB true (eqI x1 1)=true then (some (8,0,x5,x6,x7,x8)) else ((iP k x9.1 x9.2.1 x9.2.2.1 x9.2.2.2 x1 x2 x3 x4 x5 x6 x7 x8).bind fun x10=>(if eqI x10.2.1 0=true then (if cV (((x8++[(x1,x2,x3,x4)]).length)*32)=true then (some (0,x10.1,x10.2.2.2.2,x10.2.2.1,x10.2.2.2.1,(x8++[(x1,x2,x3,x4)]))) else none) else (some (x10.2.1,0,x10.2.2.2.2,x10.2.2.1,x10.2.2.2.1,x8)))))) else (if eqB false (eqI x1 1)=true then (some (7,0,x5,x6,x7,x8)) else ((iP k 0 [] false 0 x1 x2 x3 x4 x5 x6 x7 x8).bind fun x9=>(if eqI x9.2.1 0=true then (if cV (((x8++[(x1,x2,x3,x4)]).length)*32)=true then (some (0,x9.1,x9.2.2.2.2,x9.2.2.1,x9.2.2.2.1,(x8++[(x1,x2,x3,x4)]))) else none) else (some (x9.2.1,0,x9.2.2.2.2,x9.2.2.1,x9.2.2.2.1,x8)))))) else (some (2,0,x5,x6,x7,x8))))))
def mH (k:Nat) (x1:Int) (x2:aG) (x3:aJ) (x4:Ty6) (x5:aZ):Option (Int × Bool × Int × aG × Bool):=(if s5 x4 x1=true then ((eS x4 x1).bind fun x6=>((eT k x6.2.1).bind fun x7=>(some (x6.1,x6.2.2.1,x6.2.2.2,x6.2.1,true)))) else ((eT k []).bind fun x6=>(some (0,false,0,[],false))))
def nK (k:Nat) (x1:Int) (x2:aG) (x3:aJ) (x4:Ty6) (x5:aZ):Option Int:=((mR k x2 x1).bind fun x6=>(some x6))
def gX (k:Nat) (x1:aZ):Option Unit:=(if cV (x1.length*32)=true then (some ()) else none)
def nZ:Unit:=()
def m8 (k:Nat) (x1:aZ):Option Unit:=gX k x1
def jY (k:Nat) (x1:aG) (x2:aJ) (x3:Ty6) (x4:aZ):Option Unit:=((m8 k x4).bind fun x5=>(some ()))
def gN:Nat→Int→aG→aJ→Ty6→aZ→Option (Sum (aG × aJ × Ty6 × aZ) (Bool))
 | 0,_,_,_,_,_=>none
 | k+1,eU,fO,fP,eV,eW=>(if ltI eU 8=true then (if inI eU 8=true then (([(1,1,0,0,0,0),(3,1,3,5,0,0),(1,2,0,0,0,0),(2,2,3,0,0,9),(4,1,0,1,0,0),(5,1,0,0,0,0),(2,2,3,0,5,0),(6,1,0,2,0,0)][tN eU]?).bind fun dM=>((gM k dM.1 dM.2.1 dM.2.2.1 dM.2.2.2.1 fO fP eV eW).bind fun dG=>(if eqI dG.2.1 dM.2.2.2.2.1=true then (if eqI dG.1 dM.2.2.2.2.2=true then (gN k (aI .i64 eU 1) dG.2.2.1 dG.2.2.2.1 dG.2.2.2.2.1 dG.2.2.2.2.2) else (some (.inr false))) else (some (.inr false))))) else none) else (some (.inl (fO,fP,eV,eW))))
def p9 (k:Nat):Option Bool:=((gN k 0 [] [] ([]:Ty6) []).bind (fun q=>Sum.elim (fun x2=>((mH k 1 x2.1 x2.2.1 x2.2.2.1 x2.2.2.2).bind fun x3=>((nK k 3 x2.1 x2.2.1 x2.2.2.1 x2.2.2.2).bind fun x4=>(if eqI x4 0=true then (if x3.2.2.2.2=true then (if eqI x3.1 3=true then ((jY k x2.1 x2.2.1 x2.2.2.1 x2.2.2.2).bind fun x5=>(some (eqI (nI x2.2.2.2.length) 7))) else (some false)) else (some false)) else (some false))))) (fun x2=>(some x2)) q))
def eB:Nat→aZ→Int→aG→aJ→Ty6→aZ→Option (aG × aJ × Ty6 × aZ)
 | 0,_,_,_,_,_,_=>none
 | k+1,x1,cS,dQ,dR,dN,dO=>(if ltI cS (nI x1.length)=true then (if ltI cS 120=true then (if inI cS x1.length=true then ((x1[tN cS]?).bind fun iK=>((gM k iK.1 iK.2.1 iK.2.2.1 iK.2.2.2 dQ dR dN dO).bind fun dZ=>(eB k x1 (aI .i64 cS 1) dZ.2.2.1 dZ.2.2.2.1 dZ.2.2.2.2.1 dZ.2.2.2.2.2))) else none) else (some (dQ,dR,dN,dO))) else (some (dQ,dR,dN,dO)))
def mW (k:Nat) (x1:aZ):Option (aG × aJ × Ty6 × aZ):=((eB k x1 0 [] [] ([]:Ty6) []).bind (fun x3=>(some (x3.1,x3.2.1,x3.2.2.1,x3.2.2.2))))
def rL (x1:aG) (x2:aJ) (x3:Ty6) (x4:aZ):Unit:=()
def cI:Nat→aG→Int→Int→Int→Int→aG→aJ→Ty6→aZ→(aJ × Int)→Int→Int→Option (Int)
 | 0,_,_,_,_,_,_,_,_,_,_,_,_=>none
 | k+1,x2,x5,x6,x7,x8,x9,x10,x11,x12,x13,d8,dI=>(if ltI dI (nI x2.length)=true then (if inI dI x2.length=true then ((x2[tN dI]?).bind fun oT=>(if eqI oT.1 x7=true then (cI k x2 x5 x6 x7 x8 x9 x10 x11 x12 x13 (aI .i64 d8 oT.2) (aI .i64 dI 1)) else (cI k x2 x5 x6 x7 x8 x9 x10 x11 x12 x13 d8 (aI .i64 dI 1)))) else none) else (some d8))
def gQ (k:Nat) (x1:Int) (x2:aG) (x3:Bool) (x4:Int) (x5:Int) (x6:Int) (x7:Int) (x8:Int) (x9:aG) (x10:aJ) (x11:Ty6) (x12:aZ):Option (aJ × Ty6 × Int × Int):=(if eqI x1 0=true then ((rN k x10 x6 x7 (eqI x5 3)).bind fun x13=>(if eqI x13.2 0=true then (if eqI x5 3=true then ((uO k x1 x2 x3 x4 x7 x8).bind fun x14=>(if eqI x14.2.2.2.2 0=true then (if s5 x11 x6=true then ((eS x11 x6).bind fun x15=>(some (x13.1,(cC x11 x6 (x14.1,x14.2.1,x14.2.2.1,x14.2.2.2.1)),0,0))) else (some (x13.1,(cC x11 x6 (x14.1,x14.2.1,x14.2.2.1,x14.2.2.2.1)),0,0))) else (some (x10,x11,x14.2.2.2.2,0)))) else ((mR k x9 x7).bind fun x14=>((cI k x2 x5 x6 x7 x8 x9 x10 x11 x12 x13 x14 0).bind (fun x16=>(some (x13.1,x11,0,x16)))))) else (some (x10,x11,x13.2,0)))) else (some (x10,x11,13,0)))
def kT (k:Nat) (x1:Int) (x2:aG) (x3:Bool) (x4:Int) (x5:Int) (x6:Int) (x7:Int) (x8:Int) (x9:aG) (x10:aJ) (x11:Ty6) (x12:aZ):Option (aG × aJ × Ty6 × Int):=(if eqI x5 4=true then ((rQ k x1 x2 x3 x4 (!eqI x8 0)).bind fun x13=>(if eqI x13.2.2.2.2 0=true then ((iM k x9 []).bind fun x14=>(if eqI x13.1 2=true then ((j3 k x10 x6).bind fun x15=>(some (x14.1,x15,(cC x11 x6 (x13.1,x13.2.1,x13.2.2.1,x13.2.2.2.1)),0))) else (some (x14.1,x10,(cC x11 x6 (x13.1,x13.2.1,x13.2.2.1,x13.2.2.2.1)),0)))) else (some (x9,x10,x11,x13.2.2.2.2)))) else (if eqI x5 5=true then ((pV k x1 x2 x3 x4).bind fun x13=>(if eqI x13.2.2.2.2.2 0=true then ((iM k x9 x13.2.2.2.2.1).bind fun x14=>((j3 k x10 x6).bind fun x15=>(some (x14.1,x15,(cC x11 x6 (x13.1,x13.2.1,x13.2.2.1,x13.2.2.2.1)),0)))) else (some (x9,x10,x11,x13.2.2.2.2.2)))) else (if eqI x8 1=true then ((kX k x1 x2 x3 x4 x8).bind fun x13=>(if eqI x13.2.2.2.2.2 0=true then ((iM k x9 x13.2.2.2.2.1).bind fun x14=>((j3 k x10 x6).bind fun x15=>(some (x14.1,x15,(cC x11 x6 (x13.1,x13.2.1,x13.2.2.1,x13.2.2.2.1)),0)))) else (some (x9,x10,x11,x13.2.2.2.2.2)))) else (if eqI x8 2=true then ((kX k x1 x2 x3 x4 x8).bind fun x13=>(if eqI x13.2.2.2.2.2 0=true then ((iM k x9 x13.2.2.2.2.1).bind fun x14=>((j3 k x10 x6).bind fun x15=>(some (x14.1,x15,(cC x11 x6 (x13.1,x13.2.1,x13.2.2.1,x13.2.2.2.1)),0)))) else (some (x9,x10,x11,x13.2.2.2.2.2)))) else (some (x9,x10,x11,2))))))
def iR (k:Nat) (x1:Int) (x2:aG) (x3:Bool) (x4:Int) (x5:Int) (x6:Int) (x7:Int) (x8:Int) (x9:aG) (x10:aJ) (x11:Ty6) (x12:aZ):Option Ty5:=(if eqI x5 1=true then (some (0,0,x10,(cC x11 x6 (x1,x2,x3,x4)),x9)) else (if eqI x5 2=true then ((gQ k x1 x2 x3 x4 x5 x6 x7 x8 x9 x10 x11 x12).bind fun x13=>(some (x13.2.2.2,x13.2.2.1,x13.1,x13.2.1,x9))) else (if eqI x5 3=true then ((gQ k x1 x2 x3 x4 x5 x6 x7 x8 x9 x10 x11 x12).bind fun x13=>(some (x13.2.2.2,x13.2.2.1,x13.1,x13.2.1,x9))) else ((kT k x1 x2 x3 x4 x5 x6 x7 x8 x9 x10 x11 x12).bind fun x13=>(some (0,x13.2.2.2,x13.2.1,x13.2.2.1,x13.1))))))
def kC (k:Nat) (x1:Int) (x2:Int) (x3:Int) (x4:Int) (x5:aG) (x6:aJ) (x7:Ty6) (x8:aZ):Option Ty4:=(if ltI x1 1=true then (some (2,0,x5,x6,x7,x8)) else (if ltI 6 x1=true then (some (2,0,x5,x6,x7,x8)) else (if ltI x2 0=true then (some (2,0,x5,x6,x7,x8)) else (if ltI x2 1000=true then (if s5 x7 x2=true then ((eS x7 x2).bind fun x9=>(if eqB true (eqI x1 1)=true then (some (8,0,x5,x6,x7,x8)) else ((iR k x9.1 x9.2.1 x9.2.2.1 x9.2.2.2 x1 x2 x3 x4 x5 x6 x7 x8).bind fun x10=>(if eqI x10.2.1 0=true then (if cV (((x8++[(x1,x2,x3,x4)]).length)*32)=true then (some (0,x10.1,x10.2.2.2.2,x10.2.2.1,x10.2.2.2.1,(x8++[(x1,x2,x3,x4)]))) else none) else (some (x10.2.1,0,x10.2.2.2.2,x10.2.2.1,x10.2.2.2.1,x8)))))) else (if eqB false (eqI x1 1)=true then (some (7,0,x5,x6,x7,x8)) else ((iR k 0 [] false 0 x1 x2 x3 x4 x5 x6 x7 x8).bind fun x9=>(if eqI x9.2.1 0=true then (if cV (((x8++[(x1,x2,x3,x4)]).length)*32)=true then (some (0,x9.1,x9.2.2.2.2,x9.2.2.1,x9.2.2.2.1,(x8++[(x1,x2,x3,x4)]))) else none) else (some (x9.2.1,0,x9.2.2.2.2,x9.2.2.1,x9.2.2.2.1,x8)))))) else (some (2,0,x5,x6,x7,x8))))))
def rU (x1:aG) (x2:aJ) (x3:Ty6) (x4:aZ):Unit:=()
def bG:Bool:=false
def mB (k:Nat) (x1:Int) (x2:Int) (x3:Int) (x4:Int):Option (Int × Int):=(if bG=true then (if ltI x1 1=true then (some (0,2)) else (if ltI 6 x1=true then (some (0,2)) else (if ltI x2 0=true then (some (0,2)) else (if ltI x2 1000=true then none else (some (0,2)))))) else (some (0,1)))
def j5 (k:Nat) (x1:Int):Option (Int × aG × Bool × Int × Bool):=(if bG=true then none else (some (0,[],false,0,false)))
def kP (k:Nat) (x1:Int):Option Int:=(if bG=true then none else (some 0))
def kS (k:Nat):Option aZ:=(if bG=true then none else (some []))
def rC:Unit:=()
def s7 (x1:Int) (x2:Int) (x3:Int) (x4:Int):Unit:=()
def rJ (x1:Int):Unit:=()
def s8 (x1:Int):Unit:=()
def s6:Unit:=()
def jJ (k:Nat) (x1:Int) (x2:aG) (x3:aJ) (x4:Ty6) (x5:aZ):Option Int:=((mR k x2 x1).bind fun x6=>(some x6))
def cL:Nat→Int→aG→aJ→aG→aJ→Ty6→aZ→Ty6→aZ→Option Ty1
 | 0,_,_,_,_,_,_,_,_,_=>none
 | k+1,cB,eX,eY,eZ,fA,eN,eO,eP,eQ=>(if ltI cB 8=true then ((gM k 1 999 0 0 eX eY eN eO).bind fun dB=>((gM k 1 999 0 0 eZ fA eP eQ).bind fun dC=>((kC k 2 999 cB 0 dB.2.2.1 dB.2.2.2.1 dB.2.2.2.2.1 dB.2.2.2.2.2).bind fun bE=>((kC k 2 999 cB 0 dC.2.2.1 dC.2.2.2.1 dC.2.2.2.2.1 dC.2.2.2.2.2).bind fun bF=>(if eqI bE.2.1 bF.2.1=true then (if eqI bE.1 bF.1=true then ((jJ k cB bE.2.2.1 bE.2.2.2.1 bE.2.2.2.2.1 bE.2.2.2.2.2).bind fun tQ=>((jJ k cB bF.2.2.1 bF.2.2.2.1 bF.2.2.2.2.1 bF.2.2.2.2.2).bind fun tR=>(if eqI tQ tR=true then (cL k (aI .u8 cB 1) bE.2.2.1 bE.2.2.2.1 bF.2.2.1 bF.2.2.2.1 bE.2.2.2.2.1 bE.2.2.2.2.2 bF.2.2.2.2.1 bF.2.2.2.2.2) else (some (.inr false))))) else (some (.inr false))) else (some (.inr false))))))) else (some (.inl (eX,eY,eZ,fA,eN,eO,eP,eQ))))
def cZ:Nat→aZ→Int→Int→Int→Int→Option (Unit)
 | 0,_,_,_,_,_=>none
 | k+1,x1,x2,x3,x4,x5=>(some ())
def cW:Nat→aZ→Int→Int→Int→Int→Option (Unit)
 | 0,_,_,_,_,_=>none
 | k+1,x1,x2,x3,x4,x5=>((cZ k x1 x2 x3 x4 x5).bind (fun aNA=>(some ())))
def cX:Nat→aZ→Int→Int→Int→Int→Option zH
 | 0,_,_,_,_,_=>none
 | k+1,x1,x2,x3,x4,x5=>((mB k x2 x3 x4 x5).bind fun lG=>((j5 k x3).bind fun lH=>(if eqI lG.1 0=true then (if eqI lG.2 1=true then (if lH.2.2.2.2=true then (some (.inr false)) else ((kP k x4).bind fun vC=>(if eqI vC 0=true then ((kS k).bind fun rE=>(if eqI (nI rE.length) 0=true then ((cW k x1 x2 x3 x4 x5).bind (fun aNB=>(some (.inl ())))) else (some (.inr false)))) else (some (.inr false))))) else (some (.inr false))) else (some (.inr false)))))
def l9 (k:Nat) (x1:aZ) (x2:Int) (x3:Int) (x4:Int) (x5:Int):Option Bool:=((p9 k).bind fun x6=>(if x6=true then ((cX k x1 x2 x3 x4 x5).bind (fun q=>Sum.elim (fun x8=>((mW k x1).bind fun x9=>((mW k x1).bind fun x10=>((gM k x2 x3 x4 x5 x9.1 x9.2.1 x9.2.2.1 x9.2.2.2).bind fun x11=>(if eqI x11.1 0=true then (some true) else ((cL k 0 x11.2.2.1 x11.2.2.2.1 x10.1 x10.2.1 x11.2.2.2.2.1 x11.2.2.2.2.2 x10.2.2.1 x10.2.2.2).bind (fun q=>Sum.elim (fun x13=>((jY k x13.1 x13.2.1 x13.2.2.2.2.1 x13.2.2.2.2.2.1).bind fun x14=>((jY k x13.2.2.1 x13.2.2.2.1 x13.2.2.2.2.2.2.1 x13.2.2.2.2.2.2.2).bind fun x15=>(some (eqI (nI x13.2.2.2.2.2.1.length) (nI x13.2.2.2.2.2.2.2.length)))))) (fun x13=>(some x13)) q))))))) (fun x8=>(some x8)) q)) else (some false)))
end Go.Ws
