/-
  The functions as plain Lean functions. (Printed by my own program.)
  Conditions: none.
-/
import Derived.Test.YtipeekdnpocclaaZB2
import Derived.Test.YtipeekdnpocclaaZOppDef
import Derived.Test.YtipeekdnpocclaaZAgrDef
set_option linter.unusedVariables false
set_option linter.unusedSimpArgs false
namespace Go.Ws
abbrev aG:=List (Int × Int)
abbrev Ty11:=Int × Int × Bool
abbrev xC:=Sum (Unit) (Bool)
abbrev Ty9:=Int × Int × Int × Int
abbrev Ty8:=List Ty11
abbrev Ty7:=List Ty9
abbrev Ty6:=Int × aG × Bool × Int
abbrev Ty4:=Int × Ty6
abbrev Ty2:=List Ty4
abbrev Ty1:=Sum (aG × Ty8 × Ty2 × Ty7) (Unit)
abbrev Ty0:=Sum (aG × Ty8 × Ty2 × Ty7) (Ty1)
set_option linter.unusedVariables false
def aJ:Ty7:=[(1,1,0,0),(3,1,0,5),(4,1,0,1),(5,1,0,0),(6,1,0,2)]
def aG4:Unit:=()
def jJ (k:Nat) (x1:Ty8):Option Unit:=(if cR (x1.length*24)=true then (some ()) else none)
def rC:Unit:=()
def oN (k:Nat) (x1:Ty8):Option Unit:=jJ k x1
def iE (x1:Int) (x2:Int):Bool:=(if ltI x2 64=true then (if ltI x1 0=true then false else ltI x1 1000) else false)
def iG (x1:Int):Bool:=(!eqI x1 x1)
def bD (x1:Int) (x2:Int):Int:=(if (iG x1)=true then (if (iG x2)=true then 0 else (-1)) else (if (iG x2)=true then 1 else (if ltI x1 x2=true then (-1) else (if ltI x2 x1=true then 1 else 0))))
def eR (x1:Int):Bool:=(!eqI x1 x1)
def dK (x1:Int) (x2:Int):Int:=(if (eR x1)=true then (if (eR x2)=true then 0 else (-1)) else (if (eR x2)=true then 1 else (if ltI x1 x2=true then (-1) else (if ltI x2 x1=true then 1 else 0))))
def kV:Nat→(List Int)→Int→Option (Sum (Unit) (Int))
 | 0,_,_=>none
 | k+1,x1,dA=>(if ltI dA (nI x1.length)=true then (if inI dA x1.length=true then ((x1[tN dA]?).bind fun rD=>(if eqI rD 0=true then (kV k x1 (aH .i64 dA 1)) else (some (.inr rD)))) else none) else (some (.inl ())))
def aEI (k:Nat) (x1:List Int):Option Int:=((kV k x1 0).bind (fun q=>Sum.elim (fun x3=>(some 0)) (fun x3=>(some x3)) q))
def nX (k:Nat) (x1:Int) (x2:Int) (x3:Bool) (x4:Int) (x5:Int) (x6:Bool):Option Int:=((aEI k [(bD x1 x4),(dK x2 x5)]).bind fun x7=>(some x7))
def eQ:Nat→Ty8→Int→Option xC
 | 0,_,_=>none
 | k+1,x1,bF=>(if ltI bF (nI x1.length)=true then (if inI bF x1.length=true then ((x1[tN bF]?).bind fun dN=>(if (iE dN.2.1 dN.1)=true then (if eqI bF 0=true then (eQ k x1 (aH .i64 bF 1)) else (if inI (sQ .i64 bF 1) x1.length=true then ((x1[tN (sQ .i64 bF 1)]?).bind fun g7=>((nX k g7.1 g7.2.1 g7.2.2 dN.1 dN.2.1 dN.2.2).bind fun xI=>(if ltI xI 0=true then (if eqI g7.1 dN.1=true then (if g7.2.2=true then (some (.inr false)) else (if dN.2.2=true then (some (.inr false)) else (eQ k x1 (aH .i64 bF 1)))) else (eQ k x1 (aH .i64 bF 1))) else (some (.inr false))))) else none)) else (some (.inr false)))) else none) else (some (.inl ())))
def rQ (k:Nat) (x1:Ty8):Option Bool:=((eQ k x1 0).bind (fun q=>Sum.elim (fun x3=>(some true)) (fun x3=>(some x3)) q))
def aW:Nat→Ty8→Int→Int→Bool→Int→Int→Option (Int)
 | 0,_,_,_,_,_,_=>none
 | k+1,x1,x2,x3,x4,bV,cD=>(if ltI bV cD=true then (if inI (conv .i64 (tC .u64 (conv .u64 (aH .i64 bV cD)) 1)) x1.length=true then ((x1[tN (conv .i64 (tC .u64 (conv .u64 (aH .i64 bV cD)) 1))]?).bind fun lD=>((nX k lD.1 lD.2.1 lD.2.2 x2 x3 x4).bind fun xJ=>(if ltI xJ 0=true then (aW k x1 x2 x3 x4 (aH .i64 (conv .i64 (tC .u64 (conv .u64 (aH .i64 bV cD)) 1)) 1) cD) else (aW k x1 x2 x3 x4 bV (conv .i64 (tC .u64 (conv .u64 (aH .i64 bV cD)) 1)))))) else none) else (some bV))
def fP (k:Nat) (x1:Ty8) (x2:Int) (x3:Int) (x4:Bool):Option (Int × Bool):=((aW k x1 x2 x3 x4 0 (nI x1.length)).bind (fun x6=>(if ltI x6 (nI x1.length)=true then (if inI x6 x1.length=true then ((x1[tN x6]?).bind fun x7=>((nX k x7.1 x7.2.1 x7.2.2 x2 x3 x4).bind fun x8=>(some (x6,eqI x8 0)))) else none) else (some (x6,false)))))
def o5 (k:Nat) (x1:Int) (x2:Ty8) (x3:Ty8):Option Ty8:=aFN 24 x1 x2 x3
def fG:Nat→Ty8→Int→Int→Bool→Int→Option (Sum (Unit) (Ty8 × Int))
 | 0,_,_,_,_,_=>none
 | k+1,x1,x2,x3,x4,cE=>(if ltI cE (nI x1.length)=true then (if inI cE x1.length=true then ((x1[tN cE]?).bind fun jE=>(if eqI jE.1 x3=true then (if eqI jE.2.1 x2=true then (fG k x1 x2 x3 x4 (aH .i64 cE 1)) else (if x4=true then (some (.inr (x1,9))) else (if jE.2.2=true then (some (.inr (x1,9))) else (fG k x1 x2 x3 x4 (aH .i64 cE 1))))) else (fG k x1 x2 x3 x4 (aH .i64 cE 1)))) else none) else (some (.inl ())))
def rV (k:Nat) (x1:Ty8) (x2:Int) (x3:Int) (x4:Bool):Option (Ty8 × Int):=((oN k x1).bind fun x5=>((rQ k x1).bind fun x6=>(if x6=true then (if (iE x2 x3)=true then ((fG k x1 x2 x3 x4 0).bind (fun q=>Sum.elim (fun x8=>((fP k x1 x3 x2 x4).bind fun x9=>(if x9.2=true then (if inI x9.1 x1.length=true then ((x1[tN x9.1]?).bind fun x10=>(if x10.2.2=true then (some ((List.set x1 (tN x9.1) (x10.1,x10.2.1,true)),0)) else (some ((List.set x1 (tN x9.1) (x10.1,x10.2.1,x4)),0)))) else none) else ((o5 k x9.1 x1 [(x3,x2,x4)]).bind fun x10=>(some (x10,0)))))) (fun x8=>(some x8)) q)) else (some (x1,2))) else (some (x1,2)))))
def gX (k:Nat) (x1:aG):Option Unit:=(if cR (x1.length*16)=true then (some ()) else none)
def oB:Unit:=()
def eY (k:Nat) (x1:aG):Option Unit:=gX k x1
def nJ (k:Nat) (x1:Int) (x2:aG) (x3:Bool) (x4:Int):Option Unit:=((eY k x2).bind fun x5=>(some ()))
def iI (x1:Int) (x2:Int):Bool:=(!ltI x1 64)
def cK:Nat→aG→Int→Option (Sum (Unit) (Int))
 | 0,_,_=>none
 | k+1,x1,cM=>(if ltI cM (nI x1.length)=true then (if inI cM x1.length=true then ((x1[tN cM]?).bind fun lE=>(if (iI lE.1 lE.2)=true then (some (.inr cM)) else (cK k x1 (aH .i64 cM 1)))) else none) else (some (.inl ())))
def j7 (k:Nat) (x1:aG):Option Int:=((cK k x1 0).bind (fun q=>Sum.elim (fun x3=>(some (-1))) (fun x3=>(some x3)) q))
def iJ (k:Nat) (x1:aG):Option Bool:=((j7 k x1).bind fun x2=>(some (!ltI x2 0)))
def mI (k:Nat) (x1:Int) (x2:aG) (x3:Bool) (x4:Int):Option Bool:=(if ltI x1 0=true then (some false) else (if ltI 3 x1=true then (some false) else (if ltI 50 (nI x2.length)=true then (some false) else ((iJ k x2).bind fun x5=>(if x5=true then (some false) else (if eqI x4 1=true then (if eqI x1 3=true then (some true) else (if eqI x4 0=true then (if x3=true then (some (eqI x1 1)) else (some true)) else (some false))) else (if eqI x1 3=true then (some (eqI x4 2)) else (if eqI x4 0=true then (if x3=true then (some (eqI x1 1)) else (some true)) else (some false)))))))))
def uR (k:Nat) (x1:Int) (x2:aG) (x3:Bool) (x4:Int) (x5:Int) (x6:Int):Option (Int × aG × Bool × Int × Int):=((nJ k x1 x2 x3 x4).bind fun x7=>((mI k x1 x2 x3 x4).bind fun x8=>(if x8=true then (if (iI x5 x6)=true then (some (x1,x2,x3,x4,2)) else (if eqI x1 0=true then (if ltI (nI x2.length) 50=true then (if cR (((x2++[(x5,x6)]).length)*16)=true then (some (x1,(x2++[(x5,x6)]),x3,x4,0)) else none) else (some (x1,x2,x3,x4,6))) else (some (x1,x2,x3,x4,13)))) else (some (x1,x2,x3,x4,2)))))
def f4:Nat→aG→Int→Int→Option (Sum (Unit) (Int))
 | 0,_,_,_=>none
 | k+1,x1,x2,dB=>(if ltI dB (nI x1.length)=true then (if inI dB x1.length=true then ((x1[tN dB]?).bind fun pD=>(if eqI pD.1 x2=true then (some (.inr pD.2)) else (f4 k x1 x2 (aH .i64 dB 1)))) else none) else (some (.inl ())))
def n8 (k:Nat) (x1:aG) (x2:Int):Option Int:=((f4 k x1 x2 0).bind (fun q=>Sum.elim (fun x4=>(some 0)) (fun x4=>(some x4)) q))
def iL (k:Nat) (x1:Int) (x2:aG) (x3:Bool) (x4:Int):Option Ty6:=((eY k x2).bind fun x5=>(some (x1,x2,x3,x4)))
def rW (k:Nat) (x1:Int) (x2:aG) (x3:Bool) (x4:Int) (x5:Bool):Option (Int × aG × Bool × Int × Int):=((iL k x1 x2 x3 x4).bind fun x6=>((mI k x6.1 x6.2.1 x6.2.2.1 x6.2.2.2).bind fun x7=>(if x7=true then (if eqI x6.1 0=true then (if x5=true then (some (1,x6.2.1,x6.2.2.1,x6.2.2.2,0)) else (some (2,x6.2.1,x6.2.2.1,x6.2.2.2,0))) else (some (x6.1,x6.2.1,x6.2.2.1,x6.2.2.2,13))) else (some (x6.1,x6.2.1,x6.2.2.1,x6.2.2.2,2)))))
def gY (k:Nat) (x1:aG):Option Unit:=(if cR (x1.length*16)=true then (some ()) else none)
def nV:Unit:=()
def mZ (k:Nat) (x1:aG):Option Unit:=gY k x1
def dR:Nat→aG→Int→Option xC
 | 0,_,_=>none
 | k+1,x1,bL=>(if ltI bL (nI x1.length)=true then (if inI bL x1.length=true then ((x1[tN bL]?).bind fun mF=>(if ltI mF.1 64=true then (if eqI mF.2 0=true then (some (.inr false)) else (if ltI 0 bL=true then (if inI (sQ .i64 bL 1) x1.length=true then ((x1[tN (sQ .i64 bL 1)]?).bind fun xK=>(if ltI xK.1 mF.1=true then (dR k x1 (aH .i64 bL 1)) else (some (.inr false)))) else none) else (dR k x1 (aH .i64 bL 1)))) else (some (.inr false)))) else none) else (some (.inl ())))
def oO (k:Nat) (x1:aG):Option Bool:=((dR k x1 0).bind (fun q=>Sum.elim (fun x3=>(some true)) (fun x3=>(some x3)) q))
def xM (x1:Int) (x2:Int):Unit:=()
def b6:Nat→aG→Int→Option (Sum (Unit) (Int))
 | 0,_,_=>none
 | k+1,x1,bW=>(if ltI bW (nI x1.length)=true then (if inI bW x1.length=true then ((x1[tN bW]?).bind fun nM=>(if ltI nM.1 64=true then (b6 k x1 (aH .i64 bW 1)) else (some (.inr bW)))) else none) else (some (.inl ())))
def iP (k:Nat) (x1:aG):Option Int:=((b6 k x1 0).bind (fun q=>Sum.elim (fun x3=>(some (-1))) (fun x3=>(some x3)) q))
def gL (k:Nat) (x1:aG):Option Bool:=((iP k x1).bind fun x2=>(some (!ltI x2 0)))
def vT (x1:Int) (x2:Int) (x3:Int):Unit:=()
def aU:Nat→aG→Int→Int→Int→Option (Int)
 | 0,_,_,_,_=>none
 | k+1,x1,x2,bX,cF=>(if ltI bX cF=true then (if inI (conv .i64 (tC .u64 (conv .u64 (aH .i64 bX cF)) 1)) x1.length=true then ((x1[tN (conv .i64 (tC .u64 (conv .u64 (aH .i64 bX cF)) 1))]?).bind fun pE=>(if ltI (bD pE.1 x2) 0=true then (aU k x1 x2 (aH .i64 (conv .i64 (tC .u64 (conv .u64 (aH .i64 bX cF)) 1)) 1) cF) else (aU k x1 x2 bX (conv .i64 (tC .u64 (conv .u64 (aH .i64 bX cF)) 1))))) else none) else (some bX))
def eN (k:Nat) (x1:aG) (x2:Int):Option (Int × Bool):=((aU k x1 x2 0 (nI x1.length)).bind (fun x4=>(if ltI x4 (nI x1.length)=true then (if inI x4 x1.length=true then ((x1[tN x4]?).bind fun x5=>(some (x4,eqI (bD x5.1 x2) 0))) else none) else (some (x4,false)))))
def pZ (k:Nat) (x1:aG) (x2:Int):Option (Int × Bool):=((eN k x1 x2).bind fun x3=>(some (x3.1,x3.2)))
def o4 (k:Nat) (x1:Int) (x2:Int) (x3:aG):Option aG:=delP x1 x2 x3
def mC (k:Nat) (x1:Int) (x2:aG) (x3:aG):Option aG:=aFN 16 x1 x2 x3
def mX (k:Nat) (x1:Int) (x2:Int) (x3:aG):Option aG:=delP x1 x2 x3
def d8:Nat→aG→Int→aG→Option (aG)
 | 0,_,_,_=>none
 | k+1,x2,bY,aV=>(if ltI bY (nI x2.length)=true then (if inI bY x2.length=true then ((x2[tN bY]?).bind fun bH=>((pZ k aV bH.1).bind fun aP=>(if aP.2=true then (if inI aP.1 aV.length=true then ((aV[tN aP.1]?).bind fun aQ=>(((List.set aV (tN aP.1) (aQ.1,aH .i64 aQ.2 bH.2))[tN aP.1]?).bind fun bM=>(if eqI bM.2 0=true then ((o4 k aP.1 (aH .i64 aP.1 1) (List.set aV (tN aP.1) (aQ.1,aH .i64 aQ.2 bH.2))).bind fun gO=>(d8 k x2 (aH .i64 bY 1) gO)) else (d8 k x2 (aH .i64 bY 1) (List.set aV (tN aP.1) (aQ.1,aH .i64 aQ.2 bH.2)))))) else none) else ((mC k aP.1 aV [(bH.1,0)]).bind fun aQ=>(if inI aP.1 aQ.length=true then ((aQ[tN aP.1]?).bind fun bM=>(((List.set aQ (tN aP.1) (bM.1,aH .i64 bM.2 bH.2))[tN aP.1]?).bind fun gO=>(if eqI gO.2 0=true then ((mX k aP.1 (aH .i64 aP.1 1) (List.set aQ (tN aP.1) (bM.1,aH .i64 bM.2 bH.2))).bind fun lF=>(d8 k x2 (aH .i64 bY 1) lF)) else (d8 k x2 (aH .i64 bY 1) (List.set aQ (tN aP.1) (bM.1,aH .i64 bM.2 bH.2)))))) else none))))) else none) else (some aV))
def iC (k:Nat) (x1:aG) (x2:aG):Option (aG × Int):=((mZ k x1).bind fun x3=>((oO k x1).bind fun x4=>(if x4=true then ((gL k x2).bind fun x5=>(if x5=true then (some (x1,2)) else ((d8 k x2 0 x1).bind (fun x7=>(some (x7,0)))))) else (some (x1,2)))))
def yX (x1:Int) (x2:Int) (x3:Bool) (x4:Int):Unit:=()
def bP:Nat→Ty8→Int→Int→Option (Sum (Unit) (Int))
 | 0,_,_,_=>none
 | k+1,x1,x2,cN=>(if ltI cN (nI x1.length)=true then (if inI cN x1.length=true then ((x1[tN cN]?).bind fun nD=>(if eqI nD.2.1 x2=true then (some (.inr cN)) else (bP k x1 x2 (aH .i64 cN 1)))) else none) else (some (.inl ())))
def iH (k:Nat) (x1:Ty8) (x2:Int):Option Int:=((bP k x1 x2 0).bind (fun q=>Sum.elim (fun x4=>(some (-1))) (fun x4=>(some x4)) q))
def bU:Nat→Ty8→Int→Int→Int→Ty8→Option (Int × Ty8)
 | 0,_,_,_,_,_=>none
 | k+1,x1,x2,cO,b9,cP=>(if ltI cO (nI x1.length)=true then (if inI cO x1.length=true then ((cP[tN cO]?).bind fun g8=>(if eqI g8.2.1 x2=true then (bU k x1 x2 (aH .i64 cO 1) b9 cP) else (if inI b9 x1.length=true then ((cP[tN b9]?).bind fun aM5=>(bU k x1 x2 (aH .i64 cO 1) (aH .i64 b9 1) (List.set cP (tN b9) g8))) else none))) else none) else (some (b9,cP)))
def jM (k:Nat) (x1:Ty8) (x2:Int):Option (Nat × Ty8):=((iH k x1 x2).bind fun x3=>(if eqI x3 (-1)=true then (some (x1.length,x1)) else ((bU k x1 x2 (aH .i64 x3 1) x3 x1).bind (fun x5=>(if isZ x1.length=true then none else (if tE x1.length x5.2.length=true then (if leI x5.1 x1.length=true then (if isZ (x1.length - (tN x5.1))=true then (if leI x5.1 x5.2.length=true then (some (tN x5.1,x5.2)) else none) else (if tE (tN x5.1+(x1.length - (tN x5.1))) x5.2.length=true then (if tE (tN x5.1) x5.2.length=true then (if tE x1.length ((((List.take (tN x5.1) x5.2)++(List.replicate (x1.length - (tN x5.1)) (0,0,false)))++(List.drop (tN x5.1+(x1.length - (tN x5.1))) x5.2)).length)=true then (if leI x5.1 ((((List.take (tN x5.1) x5.2)++(List.replicate (x1.length - (tN x5.1)) (0,0,false)))++(List.drop (tN x5.1+(x1.length - (tN x5.1))) x5.2)).length)=true then (some (tN x5.1,(((List.take (tN x5.1) x5.2)++(List.replicate (x1.length - (tN x5.1)) (0,0,false)))++(List.drop (tN x5.1+(x1.length - (tN x5.1))) x5.2)))) else none) else none) else none) else none)) else none) else none))))))
def kC (k:Nat) (x1:Ty8) (x2:Int):Option Ty8:=((oN k x1).bind fun x3=>((jM k x1 x2).bind fun x4=>(if tE x4.1 x4.2.length=true then (some (List.take x4.1 x4.2)) else none)))
def pV (k:Nat) (x1:Int) (x2:aG) (x3:Bool) (x4:Int):Option (Int × aG × Bool × Int × aG × Int):=((iL k x1 x2 x3 x4).bind fun x5=>((mI k x5.1 x5.2.1 x5.2.2.1 x5.2.2.2).bind fun x6=>(if x6=true then (if eqI x5.1 1=true then (if x5.2.2.1=true then (some (x5.1,x5.2.1,x5.2.2.1,x5.2.2.2,[],8)) else ((eY k x5.2.1).bind fun x7=>(some (x5.1,x5.2.1,true,x5.2.2.2,x5.2.1,0)))) else (some (x5.1,x5.2.1,x5.2.2.1,x5.2.2.2,[],13))) else (some (x5.1,x5.2.1,x5.2.2.1,x5.2.2.2,[],2)))))
def mE (k:Nat) (x1:aG):Option aG:=oppP x1
def kX (k:Nat) (x1:Int) (x2:aG) (x3:Bool) (x4:Int) (x5:Int):Option (Int × aG × Bool × Int × aG × Int):=((iL k x1 x2 x3 x4).bind fun x6=>((mI k x6.1 x6.2.1 x6.2.2.1 x6.2.2.2).bind fun x7=>(if x7=true then (if eqI x5 1=true then (if eqI x6.2.2.2 x5=true then (some (x6.1,x6.2.1,x6.2.2.1,x6.2.2.2,[],0)) else (if eqI x6.1 3=true then (some (x6.1,x6.2.1,x6.2.2.1,x6.2.2.2,[],13)) else (if eqI x6.1 1=true then (if eqB (eqI x5 1) x6.2.2.1=true then (some (3,x6.2.1,x6.2.2.1,x5,[],0)) else (if x6.2.2.1=true then ((mE k x6.2.1).bind fun x8=>(some (3,x6.2.1,x6.2.2.1,x5,x8,0))) else ((eY k x6.2.1).bind fun x8=>(some (3,x6.2.1,x6.2.2.1,x5,x6.2.1,0))))) else (some (x6.1,x6.2.1,x6.2.2.1,x6.2.2.2,[],13))))) else (if eqI x5 2=true then (if eqI x6.2.2.2 x5=true then (some (x6.1,x6.2.1,x6.2.2.1,x6.2.2.2,[],0)) else (if eqI x6.1 3=true then (some (x6.1,x6.2.1,x6.2.2.1,x6.2.2.2,[],13)) else (if eqB (eqI x5 1) x6.2.2.1=true then (some (3,x6.2.1,x6.2.2.1,x5,[],0)) else (if x6.2.2.1=true then ((mE k x6.2.1).bind fun x8=>(some (3,x6.2.1,x6.2.2.1,x5,x8,0))) else ((eY k x6.2.1).bind fun x8=>(some (3,x6.2.1,x6.2.2.1,x5,x6.2.1,0))))))) else (some (x6.1,x6.2.1,x6.2.2.1,x6.2.2.2,[],2)))) else (some (x6.1,x6.2.1,x6.2.2.1,x6.2.2.2,[],2)))))
def r6 (x1:aG) (x2:Ty8) (x3:Ty2) (x4:Ty7):Unit:=()
def bJ:Nat→aG→Int→Int→Int→Int→aG→Ty8→Ty2→Ty7→(Ty8 × Int)→Int→Int→Option (Int)
 | 0,_,_,_,_,_,_,_,_,_,_,_,_=>none
 | k+1,x2,x5,x6,x7,x8,x9,x10,x11,x12,x13,cL,bZ=>(if ltI bZ (nI x2.length)=true then (if inI bZ x2.length=true then ((x2[tN bZ]?).bind fun nN=>(if eqI nN.1 x7=true then (bJ k x2 x5 x6 x7 x8 x9 x10 x11 x12 x13 (aH .i64 cL nN.2) (aH .i64 bZ 1)) else (bJ k x2 x5 x6 x7 x8 x9 x10 x11 x12 x13 cL (aH .i64 bZ 1)))) else none) else (some cL))
def gR (k:Nat) (x1:Int) (x2:aG) (x3:Bool) (x4:Int) (x5:Int) (x6:Int) (x7:Int) (x8:Int) (x9:aG) (x10:Ty8) (x11:Ty2) (x12:Ty7):Option (Ty8 × Ty2 × Int × Int):=(if eqI x1 0=true then ((rV k x10 x6 x7 (eqI x5 3)).bind fun x13=>(if eqI x13.2 0=true then (if eqI x5 3=true then ((uR k x1 x2 x3 x4 x7 x8).bind fun x14=>(if eqI x14.2.2.2.2 0=true then (if k9 x11 x6=true then ((bC x11 x6).bind fun x15=>(some (x13.1,(aR x11 x6 (x14.1,x14.2.1,x14.2.2.1,x14.2.2.2.1)),0,0))) else (some (x13.1,(aR x11 x6 (x14.1,x14.2.1,x14.2.2.1,x14.2.2.2.1)),0,0))) else (some (x10,x11,x14.2.2.2.2,0)))) else ((n8 k x9 x7).bind fun x14=>((bJ k x2 x5 x6 x7 x8 x9 x10 x11 x12 x13 x14 0).bind (fun x16=>(some (x13.1,x11,0,x16)))))) else (some (x10,x11,x13.2,0)))) else (some (x10,x11,13,0)))
def kS (k:Nat) (x1:Int) (x2:aG) (x3:Bool) (x4:Int) (x5:Int) (x6:Int) (x7:Int) (x8:Int) (x9:aG) (x10:Ty8) (x11:Ty2) (x12:Ty7):Option (aG × Ty8 × Ty2 × Int):=(if eqI x5 4=true then ((rW k x1 x2 x3 x4 (!eqI x8 0)).bind fun x13=>(if eqI x13.2.2.2.2 0=true then ((iC k x9 []).bind fun x14=>(if eqI x13.1 2=true then ((kC k x10 x6).bind fun x15=>(some (x14.1,x15,(aR x11 x6 (x13.1,x13.2.1,x13.2.2.1,x13.2.2.2.1)),0))) else (some (x14.1,x10,(aR x11 x6 (x13.1,x13.2.1,x13.2.2.1,x13.2.2.2.1)),0)))) else (some (x9,x10,x11,x13.2.2.2.2)))) else (if eqI x5 5=true then ((pV k x1 x2 x3 x4).bind fun x13=>(if eqI x13.2.2.2.2.2 0=true then ((iC k x9 x13.2.2.2.2.1).bind fun x14=>((kC k x10 x6).bind fun x15=>(some (x14.1,x15,(aR x11 x6 (x13.1,x13.2.1,x13.2.2.1,x13.2.2.2.1)),0)))) else (some (x9,x10,x11,x13.2.2.2.2.2)))) else (if eqI x8 1=true then ((kX k x1 x2 x3 x4 x8).bind fun x13=>(if eqI x13.2.2.2.2.2 0=true then ((iC k x9 x13.2.2.2.2.1).bind fun x14=>((kC k x10 x6).bind fun x15=>(some (x14.1,x15,(aR x11 x6 (x13.1,x13.2.1,x13.2.2.1,x13.2.2.2.1)),0)))) else (some (x9,x10,x11,x13.2.2.2.2.2)))) else (if eqI x8 2=true then ((kX k x1 x2 x3 x4 x8).bind fun x13=>(if eqI x13.2.2.2.2.2 0=true then ((iC k x9 x13.2.2.2.2.1).bind fun x14=>((kC k x10 x6).bind fun x15=>(some (x14.1,x15,(aR x11 x6 (x13.1,x13.2.1,x13.2.2.1,x13.2.2.2.1)),0)))) else (some (x9,x10,x11,x13.2.2.2.2.2)))) else (some (x9,x10,x11,2))))))
def iQ (k:Nat) (x1:Int) (x2:aG) (x3:Bool) (x4:Int) (x5:Int) (x6:Int) (x7:Int) (x8:Int) (x9:aG) (x10:Ty8) (x11:Ty2) (x12:Ty7):Option (Int × Int × Ty8 × Ty2 × aG):=(if eqI x5 1=true then (some (0,0,x10,(aR x11 x6 (x1,x2,x3,x4)),x9)) else (if eqI x5 2=true then ((gR k x1 x2 x3 x4 x5 x6 x7 x8 x9 x10 x11 x12).bind fun x13=>(some (x13.2.2.2,x13.2.2.1,x13.1,x13.2.1,x9))) else (if eqI x5 3=true then ((gR k x1 x2 x3 x4 x5 x6 x7 x8 x9 x10 x11 x12).bind fun x13=>(some (x13.2.2.2,x13.2.2.1,x13.1,x13.2.1,x9))) else ((kS k x1 x2 x3 x4 x5 x6 x7 x8 x9 x10 x11 x12).bind fun x13=>(some (0,x13.2.2.2,x13.2.1,x13.2.2.1,x13.1))))))
def kF (k:Nat) (x1:Int) (x2:Int) (x3:Int) (x4:Int) (x5:aG) (x6:Ty8) (x7:Ty2) (x8:Ty7):Option (Int × Int × aG × Ty8 × Ty2 × Ty7):=(if ltI x1 1=true then (some (2,0,x5,x6,x7,x8)) else (if ltI 6 x1=true then (some (2,0,x5,x6,x7,x8)) else (if ltI x2 0=true then (some (2,0,x5,x6,x7,x8)) else (if ltI x2 1000=true then (if k9 x7 x2=true then ((bC x7 x2).bind fun x9=>(if eqB true (eqI x1 1)=true then (some (8,0,x5,x6,x7,x8)) else ((iQ k x9.1 x9.2.1 x9.2.2.1 x9.2.2.2 x1 x2 x3 x4 x5 x6 x7 x8).bind fun x10=>(if eqI x10.2.1 0=true then (if cR (((x8++[(x1,x2,x3,x4)]).length)*32)=true then (some (0,x10.1,x10.2.2.2.2,x10.2.2.1,x10.2.2.2.1,(x8++[(x1,x2,x3,x4)]))) else none) else (some (x10.2.1,0,x10.2.2.2.2,x10.2.2.1,x10.2.2.2.1,x8)))))) else (if eqB false (eqI x1 1)=true then (some (7,0,x5,x6,x7,x8)) else ((iQ k 0 [] false 0 x1 x2 x3 x4 x5 x6 x7 x8).bind fun x9=>(if eqI x9.2.1 0=true then (if cR (((x8++[(x1,x2,x3,x4)]).length)*32)=true then (some (0,x9.1,x9.2.2.2.2,x9.2.2.1,x9.2.2.2.1,(x8++[(x1,x2,x3,x4)]))) else none) else (some (x9.2.1,0,x9.2.2.2.2,x9.2.2.1,x9.2.2.2.1,x8)))))) else (some (2,0,x5,x6,x7,x8))))))
def eZ:Nat→Ty7→Int→aG→Ty8→Ty2→Ty7→Option Ty0
 | 0,_,_,_,_,_,_=>none
 | k+1,x1,dC,eO,eP,eE,eF=>(if ltI dC (nI x1.length)=true then (if inI dC x1.length=true then ((x1[tN dC]?).bind fun iO=>((kF k iO.1 iO.2.1 iO.2.2.1 iO.2.2.2 eO eP eE eF).bind fun dD=>(if eqI dD.1 0=true then (eZ k x1 (aH .i64 dC 1) dD.2.2.1 dD.2.2.2.1 dD.2.2.2.2.1 dD.2.2.2.2.2) else (some (.inr (.inr ())))))) else none) else (some (.inl (eO,eP,eE,eF))))
def p8 (k:Nat) (x1:Ty7):Option Ty1:=((eZ k x1 0 [] [] ([]:Ty2) []).bind (fun q=>Sum.elim (fun x3=>(some (.inl (x3.1,x3.2.1,x3.2.2.1,x3.2.2.2)))) (fun x3=>(some x3)) q))
def fB:Nat→Ty7→Int→aG→Option (aG)
 | 0,_,_,_=>none
 | k+1,x1,dZ,eA=>(if ltI dZ (nI x1.length)=true then (if inI dZ x1.length=true then ((x1[tN dZ]?).bind fun i5=>(if eqI i5.1 6=true then (fB k x1 (aH .i64 dZ 1) (aR eA i5.2.1 i5.2.2.2)) else (fB k x1 (aH .i64 dZ 1) eA))) else none) else (some eA))
def lJ (k:Nat) (x1:Ty7):Option (Sum (aG) (Unit)):=((p8 k x1).bind (fun q=>Sum.elim (fun x3=>((fB k x1 0 ([]:aG)).bind (fun x5=>(some (.inl x5))))) (fun x3=>(some (.inr ()))) q))
def fY:Nat→Ty7→Int→Option (Unit)
 | 0,_,_=>none
 | k+1,x1,fA=>(if ltI fA (nI x1.length)=true then (if inI fA x1.length=true then ((x1[tN fA]?).bind fun z6=>(fY k x1 (aH .i64 fA 1))) else none) else (some ()))
def dS:Nat→Ty7→aG→Int→Int→Option (Int)
 | 0,_,_,_,_=>none
 | k+1,x1,x3,eG,dL=>(if ltI dL (nI x1.length)=true then (if inI dL x1.length=true then ((x1[tN dL]?).bind fun pF=>(if eqI pF.1 5=true then (if k9 x3 pF.2.1=true then ((bC x3 pF.2.1).bind fun aD3=>(if eqI aD3 2=true then (dS k x1 x3 (aH .i64 eG 1) (aH .i64 dL 1)) else (dS k x1 x3 eG (aH .i64 dL 1)))) else (dS k x1 x3 eG (aH .i64 dL 1))) else (dS k x1 x3 eG (aH .i64 dL 1)))) else none) else (some eG))
def mQ (k:Nat) (x1:Ty7):Option (Int × Int):=((lJ k x1).bind (fun q=>Sum.elim (fun x3=>((dS k x1 x3 0 0).bind (fun x5=>(some (x5,0))))) (fun x3=>((fY k x1 0).bind (fun x5=>(some (0,4))))) q))
def cS:Nat→Ty7→aG→Int→aG→Option (aG)
 | 0,_,_,_,_=>none
 | k+1,x1,x3,b5,aL=>(if ltI b5 (nI x1.length)=true then (if inI b5 x1.length=true then ((x1[tN b5]?).bind fun cQ=>(if eqI cQ.1 3=true then (if k9 x3 cQ.2.1=true then ((bC x3 cQ.2.1).bind fun xL=>(if eqI xL 1=true then (if cR (((aL++[cQ.2.2]).length)*16)=true then (cS k x1 x3 (aH .i64 b5 1) (aL++[cQ.2.2])) else none) else (cS k x1 x3 (aH .i64 b5 1) aL))) else (cS k x1 x3 (aH .i64 b5 1) aL)) else (cS k x1 x3 (aH .i64 b5 1) aL))) else none) else (some aL))
def jV (k:Nat) (x1:Ty7):Option (aG × Int):=((lJ k x1).bind (fun q=>Sum.elim (fun x3=>((cS k x1 x3 0 []).bind (fun x5=>((iC k [] x5).bind fun x6=>(some (x6.1,x6.2)))))) (fun x3=>(some ([],4))) q))
def qH (x1:aG):Bool:=kQ (x1++x1)
def oX (x1:aG) (x2:aG):Bool:=kQ (x1++x2)
def qG (k:Nat):Option Bool:=(if eqI (nI aJ.length) 0=true then (some false) else ((lJ k aJ).bind (fun q=>Sum.elim (fun x2=>((mQ k aJ).bind fun x3=>((jV k aJ).bind fun x4=>(if leI 1 aJ.length=true then ((lJ k (List.drop 1 aJ)).bind (fun q=>Sum.elim (fun x6=>(if eqI (nI x2.length) 1=true then (if k9 x2 1=true then ((bC x2 1).bind fun x7=>(if eqI x7 2=true then (if eqI x3.1 1=true then (if eqI x3.2 0=true then (if eqI (nI x4.1.length) 0=true then (if eqI x4.2 0=true then (some false) else (some false)) else (some false)) else (some false)) else (some false)) else (some false))) else (some false)) else (some false))) (fun x6=>(if eqI (nI x2.length) 1=true then (if k9 x2 1=true then ((bC x2 1).bind fun x7=>(if eqI x7 2=true then (if eqI x3.1 1=true then (if eqI x3.2 0=true then (if eqI (nI x4.1.length) 0=true then (if eqI x4.2 0=true then (if (qH x2)=true then (some (!(oX x2 (aR ([]:aG) 1 1)))) else (some false)) else (some false)) else (some false)) else (some false)) else (some false)) else (some false))) else (some false)) else (some false))) q)) else none)))) (fun x2=>((mQ k aJ).bind fun x3=>((jV k aJ).bind fun x4=>(if leI 1 aJ.length=true then ((lJ k (List.drop 1 aJ)).bind (fun q=>Sum.elim (fun x6=>(some false)) (fun x6=>(some false)) q)) else none)))) q)))
def gZ (k:Nat) (x1:Ty7):Option Unit:=(if cR (x1.length*32)=true then (some ()) else none)
def oE:Unit:=()
def kW (k:Nat) (x1:Ty7):Option Unit:=gZ k x1
def nE (k:Nat) (x1:aG) (x2:Ty8) (x3:Ty2) (x4:Ty7):Option Unit:=((kW k x4).bind fun x5=>(some ()))
def rP (x1:aG) (x2:Ty8) (x3:Ty2) (x4:Ty7):Unit:=()
def jO (k:Nat) (x1:aG) (x2:Ty8) (x3:Ty2) (x4:Ty7):Option Unit:=((kW k x4).bind fun x5=>(some ()))
def hX:Nat→Int→aG→Bool→Int→Int→Option xC
 | 0,_,_,_,_,_=>none
 | k+1,x1,x2,x3,x4,gB=>(if ltI gB (nI x2.length)=true then (if inI gB x2.length=true then ((x2[tN gB]?).bind fun aH5=>(if ltI aH5.1 64=true then (hX k x1 x2 x3 x4 (aH .i64 gB 1)) else (some (.inr false)))) else none) else (some (.inl ())))
def eX:Nat→aG→Int→aG→Option (aG)
 | 0,_,_,_=>none
 | k+1,x1,gC,g9=>(if ltI gC 0=true then (some g9) else (if inI gC x1.length=true then ((x1[tN gC]?).bind fun rE=>(if cR (((g9++[(rE.1,aCI .i64 rE.2)]).length)*16)=true then (eX k x1 (sQ .i64 gC 1) (g9++[(rE.1,aCI .i64 rE.2)])) else none)) else none))
def nH (x1:Int) (x2:Int):Bool:=(if ltI x2 64=true then (if ltI x1 0=true then false else ltI x1 1000) else false)
def dY:Nat→Ty8→Ty11→Int→Int→Option (Sum (Int) (Bool))
 | 0,_,_,_,_=>none
 | k+1,x1,bQ,eH,fK=>(if ltI eH (nI x1.length)=true then (if eqI eH fK=true then (dY k x1 bQ (aH .i64 eH 1) fK) else (if inI eH x1.length=true then ((x1[tN eH]?).bind fun aH6=>(if eqI aH6.1 bQ.1=true then (if bQ.2.2=true then (some (.inr false)) else (dY k x1 bQ (aH .i64 eH 1) fK)) else (dY k x1 bQ (aH .i64 eH 1) fK))) else none)) else (some (.inl fK)))
def fV:Nat→Ty8→Int→Option xC
 | 0,_,_=>none
 | k+1,x1,dE=>(if ltI dE (nI x1.length)=true then (if inI dE x1.length=true then ((x1[tN dE]?).bind fun bQ=>(if (nH bQ.2.1 bQ.1)=true then (if ltI 0 dE=true then (if inI (sQ .i64 dE 1) x1.length=true then ((x1[tN (sQ .i64 dE 1)]?).bind fun uW=>(if ltI uW.1 bQ.1=true then ((dY k x1 bQ 0 dE).bind (fun q=>Sum.elim (fun kN=>(fV k x1 (aH .i64 kN 1))) (fun kN=>(some (.inr kN))) q)) else (if eqI uW.1 bQ.1=true then (if ltI uW.2.1 bQ.2.1=true then ((dY k x1 bQ 0 dE).bind (fun q=>Sum.elim (fun kN=>(fV k x1 (aH .i64 kN 1))) (fun kN=>(some (.inr kN))) q)) else (some (.inr false))) else (some (.inr false))))) else none) else ((dY k x1 bQ 0 dE).bind (fun q=>Sum.elim (fun uX=>(fV k x1 (aH .i64 uX 1))) (fun uX=>(some (.inr uX))) q))) else (some (.inr false)))) else none) else (some (.inl ())))
def gM:Nat→Ty8→Int→Int→Int→Option (Sum (Unit) (Int))
 | 0,_,_,_,_=>none
 | k+1,x1,x2,x3,fL=>(if ltI fL (nI x1.length)=true then (if inI fL x1.length=true then ((x1[tN fL]?).bind fun uY=>(if eqI uY.1 x3=true then (if eqI uY.2.1 x2=true then (if uY.2.2=true then (some (.inr 2)) else (some (.inr 1))) else (gM k x1 x2 x3 (aH .i64 fL 1))) else (gM k x1 x2 x3 (aH .i64 fL 1)))) else none) else (some (.inl ())))
def bK:Nat→Ty8→Int→Int→Bool→Int→Ty8→Bool→Option (Bool × Bool × Ty8)
 | 0,_,_,_,_,_,_,_=>none
 | k+1,x1,x2,x3,cJ,aY,aM,aN=>(if ltI aY (nI x1.length)=true then (if cJ=true then (if inI aY x1.length=true then ((x1[tN aY]?).bind fun aO=>(if eqI aO.1 x3=true then (if eqI aO.2.1 x2=true then (bK k x1 x2 x3 cJ (aH .i64 aY 1) aM aN) else (if cR (((aM++[aO]).length)*24)=true then (bK k x1 x2 x3 cJ (aH .i64 aY 1) (aM++[aO]) aN) else none)) else (if cR (((aM++[aO]).length)*24)=true then (bK k x1 x2 x3 cJ (aH .i64 aY 1) (aM++[aO]) aN) else none))) else none) else (if inI aY x1.length=true then ((x1[tN aY]?).bind fun aO=>(if ltI x3 aO.1=true then (if cR (((aM++[(x3,x2,aN)]).length)*24)=true then (if eqI aO.1 x3=true then (if eqI aO.2.1 x2=true then (bK k x1 x2 x3 true (aH .i64 aY 1) (aM++[(x3,x2,aN)]) aN) else (if cR ((((aM++[(x3,x2,aN)])++[aO]).length)*24)=true then (bK k x1 x2 x3 true (aH .i64 aY 1) ((aM++[(x3,x2,aN)])++[aO]) aN) else none)) else (if cR ((((aM++[(x3,x2,aN)])++[aO]).length)*24)=true then (bK k x1 x2 x3 true (aH .i64 aY 1) ((aM++[(x3,x2,aN)])++[aO]) aN) else none)) else none) else (if eqI x3 aO.1=true then (if ltI aO.2.1 x2=true then (if eqI aO.1 x3=true then (if eqI aO.2.1 x2=true then (bK k x1 x2 x3 cJ (aH .i64 aY 1) aM aN) else (if cR (((aM++[aO]).length)*24)=true then (bK k x1 x2 x3 cJ (aH .i64 aY 1) (aM++[aO]) aN) else none)) else (if cR (((aM++[aO]).length)*24)=true then (bK k x1 x2 x3 cJ (aH .i64 aY 1) (aM++[aO]) aN) else none)) else (if cR (((aM++[(x3,x2,aN)]).length)*24)=true then (if eqI aO.1 x3=true then (if eqI aO.2.1 x2=true then (bK k x1 x2 x3 true (aH .i64 aY 1) (aM++[(x3,x2,aN)]) aN) else (if cR ((((aM++[(x3,x2,aN)])++[aO]).length)*24)=true then (bK k x1 x2 x3 true (aH .i64 aY 1) ((aM++[(x3,x2,aN)])++[aO]) aN) else none)) else (if cR ((((aM++[(x3,x2,aN)])++[aO]).length)*24)=true then (bK k x1 x2 x3 true (aH .i64 aY 1) ((aM++[(x3,x2,aN)])++[aO]) aN) else none)) else none)) else (if eqI aO.1 x3=true then (if eqI aO.2.1 x2=true then (bK k x1 x2 x3 cJ (aH .i64 aY 1) aM aN) else (if cR (((aM++[aO]).length)*24)=true then (bK k x1 x2 x3 cJ (aH .i64 aY 1) (aM++[aO]) aN) else none)) else (if cR (((aM++[aO]).length)*24)=true then (bK k x1 x2 x3 cJ (aH .i64 aY 1) (aM++[aO]) aN) else none))))) else none)) else (some (cJ,aN,aM)))
def gN:Nat→Ty8→Int→Int→Bool→Int→Option (Sum (Unit) (Ty8 × Int))
 | 0,_,_,_,_,_=>none
 | k+1,x1,x2,x3,x4,eV=>(if ltI eV (nI x1.length)=true then (if inI eV x1.length=true then ((x1[tN eV]?).bind fun uZ=>(if eqI uZ.1 x3=true then (if eqI uZ.2.1 x2=true then (gN k x1 x2 x3 x4 (aH .i64 eV 1)) else (if x4=true then (some (.inr (x1,9))) else (if uZ.2.2=true then (some (.inr (x1,9))) else (gN k x1 x2 x3 x4 (aH .i64 eV 1))))) else (gN k x1 x2 x3 x4 (aH .i64 eV 1)))) else none) else (some (.inl ())))
def gP:Nat→aG→Int→Int→Option (Sum (Unit) (Int))
 | 0,_,_,_=>none
 | k+1,x1,x2,dF=>(if ltI dF (nI x1.length)=true then (if inI dF x1.length=true then ((x1[tN dF]?).bind fun pG=>(if eqI pG.1 x2=true then (some (.inr pG.2)) else (gP k x1 x2 (aH .i64 dF 1)))) else none) else (some (.inl ())))
def t4 (k:Nat) (x1:aG) (x2:Int):Option Int:=((gP k x1 x2 0).bind (fun q=>Sum.elim (fun x4=>(some 0)) (fun x4=>(some x4)) q))
def fZ:Nat→aG→aG→Int→Option xC
 | 0,_,_,_=>none
 | k+1,x1,x2,cH=>(if ltI cH (nI x1.length)=true then (if inI cH x1.length=true then ((x1[tN cH]?).bind fun oK=>(if inI cH x2.length=true then ((x2[tN cH]?).bind fun oL=>(if eqI oK.1 oL.1=true then (if eqI oK.2 oL.2=true then (fZ k x1 x2 (aH .i64 cH 1)) else (some (.inr false))) else (some (.inr false)))) else none)) else none) else (some (.inl ())))
def rS (k:Nat) (x1:aG) (x2:aG):Option Bool:=(if eqI (nI x1.length) (nI x2.length)=true then ((fZ k x1 x2 0).bind (fun q=>Sum.elim (fun x4=>(some true)) (fun x4=>(some x4)) q)) else (some false))
def mA (k:Nat) (x1:Int) (x2:aG) (x3:Ty8) (x4:Ty2) (x5:Ty7):Option (Int × Bool × Int × aG × Bool):=(if k9 x4 x1=true then ((bC x4 x1).bind fun x6=>((eY k x6.2.1).bind fun x7=>(some (x6.1,x6.2.2.1,x6.2.2.2,x6.2.1,true)))) else ((eY k []).bind fun x6=>(some (0,false,0,[],false))))
def nL (k:Nat) (x1:Int) (x2:aG) (x3:Ty8) (x4:Ty2) (x5:Ty7):Option Int:=((n8 k x2 x1).bind fun x6=>(some x6))
def cG:Nat→aG→Int→Int→Int→Int→aG→Ty8→Ty2→Ty7→(Ty8 × Int)→Int→Int→Option (Int)
 | 0,_,_,_,_,_,_,_,_,_,_,_,_=>none
 | k+1,x2,x5,x6,x7,x8,x9,x10,x11,x12,x13,eB,dH=>(if ltI dH (nI x2.length)=true then (if inI dH x2.length=true then ((x2[tN dH]?).bind fun sB=>(if eqI sB.1 x7=true then (cG k x2 x5 x6 x7 x8 x9 x10 x11 x12 x13 (aH .i64 eB sB.2) (aH .i64 dH 1)) else (cG k x2 x5 x6 x7 x8 x9 x10 x11 x12 x13 eB (aH .i64 dH 1)))) else none) else (some eB))
def gT (k:Nat) (x1:Int) (x2:aG) (x3:Bool) (x4:Int) (x5:Int) (x6:Int) (x7:Int) (x8:Int) (x9:aG) (x10:Ty8) (x11:Ty2) (x12:Ty7):Option (Ty8 × Ty2 × Int × Int):=(if eqI x1 0=true then ((rV k x10 x6 x7 (eqI x5 3)).bind fun x13=>(if eqI x13.2 0=true then (if eqI x5 3=true then ((uR k x1 x2 x3 x4 x7 x8).bind fun x14=>(if eqI x14.2.2.2.2 0=true then (if k9 x11 x6=true then ((bC x11 x6).bind fun x15=>(some (x13.1,(aR x11 x6 (x14.1,x14.2.1,x14.2.2.1,x14.2.2.2.1)),0,0))) else (some (x13.1,(aR x11 x6 (x14.1,x14.2.1,x14.2.2.1,x14.2.2.2.1)),0,0))) else (some (x10,x11,x14.2.2.2.2,0)))) else ((n8 k x9 x7).bind fun x14=>((cG k x2 x5 x6 x7 x8 x9 x10 x11 x12 x13 x14 0).bind (fun x16=>(some (x13.1,x11,0,x16)))))) else (some (x10,x11,x13.2,0)))) else (some (x10,x11,13,0)))
def kU (k:Nat) (x1:Int) (x2:aG) (x3:Bool) (x4:Int) (x5:Int) (x6:Int) (x7:Int) (x8:Int) (x9:aG) (x10:Ty8) (x11:Ty2) (x12:Ty7):Option (aG × Ty8 × Ty2 × Int):=(if eqI x5 4=true then ((rW k x1 x2 x3 x4 (!eqI x8 0)).bind fun x13=>(if eqI x13.2.2.2.2 0=true then ((iC k x9 []).bind fun x14=>(if eqI x13.1 2=true then ((kC k x10 x6).bind fun x15=>(some (x14.1,x15,(aR x11 x6 (x13.1,x13.2.1,x13.2.2.1,x13.2.2.2.1)),0))) else (some (x14.1,x10,(aR x11 x6 (x13.1,x13.2.1,x13.2.2.1,x13.2.2.2.1)),0)))) else (some (x9,x10,x11,x13.2.2.2.2)))) else (if eqI x5 5=true then ((pV k x1 x2 x3 x4).bind fun x13=>(if eqI x13.2.2.2.2.2 0=true then ((iC k x9 x13.2.2.2.2.1).bind fun x14=>((kC k x10 x6).bind fun x15=>(some (x14.1,x15,(aR x11 x6 (x13.1,x13.2.1,x13.2.2.1,x13.2.2.2.1)),0)))) else (some (x9,x10,x11,x13.2.2.2.2.2)))) else (if eqI x8 1=true then ((kX k x1 x2 x3 x4 x8).bind fun x13=>(if eqI x13.2.2.2.2.2 0=true then ((iC k x9 x13.2.2.2.2.1).bind fun x14=>((kC k x10 x6).bind fun x15=>(some (x14.1,x15,(aR x11 x6 (x13.1,x13.2.1,x13.2.2.1,x13.2.2.2.1)),0)))) else (some (x9,x10,x11,x13.2.2.2.2.2)))) else (if eqI x8 2=true then ((kX k x1 x2 x3 x4 x8).bind fun x13=>(if eqI x13.2.2.2.2.2 0=true then ((iC k x9 x13.2.2.2.2.1).bind fun x14=>((kC k x10 x6).bind fun x15=>(some (x14.1,x15,(aR x11 x6 (x13.1,x13.2.1,x13.2.2.1,x13.2.2.2.1)),0)))) else (some (x9,x10,x11,x13.2.2.2.2.2)))) else (some (x9,x10,x11,2))))))
def iU (k:Nat) (x1:Int) (x2:aG) (x3:Bool) (x4:Int) (x5:Int) (x6:Int) (x7:Int) (x8:Int) (x9:aG) (x10:Ty8) (x11:Ty2) (x12:Ty7):Option (Int × Int × Ty8 × Ty2 × aG):=(if eqI x5 1=true then (some (0,0,x10,(aR x11 x6 (x1,x2,x3,x4)),x9)) else (if eqI x5 2=true then ((gT k x1 x2 x3 x4 x5 x6 x7 x8 x9 x10 x11 x12).bind fun x13=>(some (x13.2.2.2,x13.2.2.1,x13.1,x13.2.1,x9))) else (if eqI x5 3=true then ((gT k x1 x2 x3 x4 x5 x6 x7 x8 x9 x10 x11 x12).bind fun x13=>(some (x13.2.2.2,x13.2.2.1,x13.1,x13.2.1,x9))) else ((kU k x1 x2 x3 x4 x5 x6 x7 x8 x9 x10 x11 x12).bind fun x13=>(some (0,x13.2.2.2,x13.2.1,x13.2.2.1,x13.1))))))
def lW (k:Nat) (x1:Int) (x2:Int) (x3:Int) (x4:Int) (x5:aG) (x6:Ty8) (x7:Ty2) (x8:Ty7):Option (Int × Int × aG × Ty8 × Ty2 × Ty7):=(if ltI x1 1=true then (some (2,0,x5,x6,x7,x8)) else (if ltI 6 x1=true then (some (2,0,x5,x6,x7,x8)) else (if ltI x2 0=true then (some (2,0,x5,x6,x7,x8)) else (if ltI x2 1000=true then (if k9 x7 x2=true then ((bC x7 x2).bind fun x9=>(if eqB true (eqI x1 1)=true then (some (8,0,x5,x6,x7,x8)) else ((iU k x9.1 x9.2.1 x9.2.2.1 x9.2.2.2 x1 x2 x3 x4 x5 x6 x7 x8).bind fun x10=>(if eqI x10.2.1 0=true then (if cR (((x8++[(x1,x2,x3,x4)]).length)*32)=true then (some (0,x10.1,x10.2.2.2.2,x10.2.2.1,x10.2.2.2.1,(x8++[(x1,x2,x3,x4)]))) else none) else (some (x10.2.1,0,x10.2.2.2.2,x10.2.2.1,x10.2.2.2.1,x8)))))) else (if eqB false (eqI x1 1)=true then (some (7,0,x5,x6,x7,x8)) else ((iU k 0 [] false 0 x1 x2 x3 x4 x5 x6 x7 x8).bind fun x9=>(if eqI x9.2.1 0=true then (if cR (((x8++[(x1,x2,x3,x4)]).length)*32)=true then (some (0,x9.1,x9.2.2.2.2,x9.2.2.1,x9.2.2.2.1,(x8++[(x1,x2,x3,x4)]))) else none) else (some (x9.2.1,0,x9.2.2.2.2,x9.2.2.1,x9.2.2.2.1,x8)))))) else (some (2,0,x5,x6,x7,x8))))))
def cV:Nat→(aG × Int)→(aG × Ty8 × Ty2 × Ty7)→(aG × Int)→Int→Option xC
 | 0,_,_,_,_=>none
 | k+1,x6,x9,x11,eK=>(if ltI eK 64=true then ((nL k eK x9.1 x9.2.1 x9.2.2.1 x9.2.2.2).bind fun aAW=>((t4 k x6.1 eK).bind fun aAX=>(if eqI aAW aAX=true then (cV k x6 x9 x11 (aH .u8 eK 1)) else (some (.inr false))))) else (some (.inl ())))
def cI:Nat→(aG × Ty8 × Ty2 × Ty7)→(aG × Int)→Int→aG→Ty8→Ty2→Ty7→Option (Sum (aG × Ty8 × Ty2 × Ty7) (Bool))
 | 0,_,_,_,_,_,_,_=>none
 | k+1,x4,x6,d6,eC,eD,dP,dQ=>(if ltI d6 (nI x4.2.2.2.length)=true then (if inI d6 x4.2.2.2.length=true then ((x4.2.2.2[tN d6]?).bind fun pQ=>((mA k pQ.2.1 eC eD dP dQ).bind fun rG=>(if eqI rG.1 3=true then (cI k x4 x6 (aH .i64 d6 1) eC eD dP dQ) else ((lW k 6 pQ.2.1 0 2 eC eD dP dQ).bind fun fR=>(if eqI fR.1 0=true then (cI k x4 x6 (aH .i64 d6 1) fR.2.2.1 fR.2.2.2.1 fR.2.2.2.2.1 fR.2.2.2.2.2) else (some (.inr false))))))) else none) else (some (.inl (eC,eD,dP,dQ))))
def cU:Nat→Ty7→Int→aG→Ty8→Ty2→Ty7→Option (aG × Ty8 × Ty2 × Ty7)
 | 0,_,_,_,_,_,_=>none
 | k+1,x1,eS,f6,gA,fS,fT=>(if ltI eS (nI x1.length)=true then (if inI eS x1.length=true then ((x1[tN eS]?).bind fun kP=>((kF k kP.1 kP.2.1 kP.2.2.1 kP.2.2.2 f6 gA fS fT).bind fun fM=>(cU k x1 (aH .i64 eS 1) fM.2.2.1 fM.2.2.2.1 fM.2.2.2.2.1 fM.2.2.2.2.2))) else none) else (some (f6,gA,fS,fT)))
def mY (k:Nat) (x1:Ty7):Option Bool:=((qG k).bind fun x2=>(if x2=true then (if ltI 100 (nI x1.length)=true then (some (!false)) else ((cU k x1 0 [] [] ([]:Ty2) []).bind (fun x4=>((nE k x4.1 x4.2.1 x4.2.2.1 x4.2.2.2).bind fun x5=>((jV k x4.2.2.2).bind fun x6=>((jO k x4.1 x4.2.1 x4.2.2.1 x4.2.2.2).bind fun x7=>((cI k x4 x6 0 x4.1 x4.2.1 x4.2.2.1 x4.2.2.2).bind (fun q=>Sum.elim (fun x9=>((jO k x9.1 x9.2.1 x9.2.2.1 x9.2.2.2).bind fun x10=>((jV k x9.2.2.2).bind fun x11=>((cV k x6 x9 x11 0).bind (fun q=>Sum.elim (fun x13=>(if eqI x6.2 0=true then (if eqI x11.2 0=true then ((rS k x6.1 x11.1).bind fun x14=>(some x14)) else (some false)) else (some false))) (fun x13=>(some x13)) q))))) (fun x9=>(some x9)) q)))))))) else (some false)))
end Go.Ws
