/-
  The functions as plain Lean functions. (Printed by my own program.)
  Conditions: none.
-/
import Derived.Test.YtipeekdnpocclaaZB2
import Derived.Test.YtipeekdnpocclaaZOppDef
import Derived.Test.YtipeekdnpocclaaZAgrDef
set_option linter.unusedVariables false
set_option linter.unusedSimpArgs false
namespace Go.Ws
abbrev aG:=List (Int × Int)
abbrev Ty11:=Int × Int × Bool
abbrev aAI:=Sum (Unit) (Bool)
abbrev Ty9:=Int × Int × Int × Int
abbrev Ty8:=List Ty11
abbrev Ty7:=List Ty9
abbrev Ty6:=Int × aG × Bool × Int
abbrev Ty4:=Int × Ty6
abbrev Ty2:=List Ty4
abbrev Ty1:=Sum (aG × Ty8 × Ty2 × Ty7) (Unit)
abbrev Ty0:=Sum (aG × Ty8 × Ty2 × Ty7) (Ty1)
set_option linter.unusedVariables false
def aK:Ty7:=[(1,1,0,0),(3,1,0,5),(4,1,0,1),(5,1,0,0),(6,1,0,2)]
def aBC:Unit:=()
def fY (k:Nat) (x1:Ty8):Option Unit:=(if fD (x1.length*24)=true then (some ()) else none)
def mO:Unit:=()
def kC (k:Nat) (x1:Ty8):Option Unit:=fY k x1
def jV (x1:Int) (x2:Int):Bool:=(if ltI x2 64=true then (if ltI x1 0=true then false else ltI x1 1000) else false)
def gO (x1:Int):Bool:=(!eqI x1 x1)
def cN (x1:Int) (x2:Int):Int:=(if (gO x1)=true then (if (gO x2)=true then 0 else (-1)) else (if (gO x2)=true then 1 else (if ltI x1 x2=true then (-1) else (if ltI x2 x1=true then 1 else 0))))
def eB (x1:Int):Bool:=(!eqI x1 x1)
def d6 (x1:Int) (x2:Int):Int:=(if (eB x1)=true then (if (eB x2)=true then 0 else (-1)) else (if (eB x2)=true then 1 else (if ltI x1 x2=true then (-1) else (if ltI x2 x1=true then 1 else 0))))
def jK:Nat→(List Int)→Int→Option (Sum (Unit) (Int))
 | 0,_,_=>none
 | k+1,x1,dP=>(if ltI dP (nI x1.length)=true then (if inI dP x1.length=true then ((x1[tN dP]?).bind fun rV=>(if eqI rV 0=true then (jK k x1 (aN .i64 dP 1)) else (some (.inr rV)))) else none) else (some (.inl ())))
def z1 (k:Nat) (x1:List Int):Option Int:=((jK k x1 0).bind (fun q=>Sum.elim (fun x3=>(some 0)) (fun x3=>(some x3)) q))
def jU (k:Nat) (x1:Int) (x2:Int) (x3:Bool) (x4:Int) (x5:Int) (x6:Bool):Option Int:=((z1 k [(cN x1 x4),(d6 x2 x5)]).bind fun x7=>(some x7))
def eA:Nat→Ty8→Int→Option aAI
 | 0,_,_=>none
 | k+1,x1,bX=>(if ltI bX (nI x1.length)=true then (if inI bX x1.length=true then ((x1[tN bX]?).bind fun eG=>(if (jV eG.2.1 eG.1)=true then (if eqI bX 0=true then (eA k x1 (aN .i64 bX 1)) else (if inI (isub .i64 bX 1) x1.length=true then ((x1[tN (isub .i64 bX 1)]?).bind fun gV=>((jU k gV.1 gV.2.1 gV.2.2 eG.1 eG.2.1 eG.2.2).bind fun yY=>(if ltI yY 0=true then (if eqI gV.1 eG.1=true then (if gV.2.2=true then (some (.inr false)) else (if eG.2.2=true then (some (.inr false)) else (eA k x1 (aN .i64 bX 1)))) else (eA k x1 (aN .i64 bX 1))) else (some (.inr false))))) else none)) else (some (.inr false)))) else none) else (some (.inl ())))
def nJ (k:Nat) (x1:Ty8):Option Bool:=((eA k x1 0).bind (fun q=>Sum.elim (fun x3=>(some true)) (fun x3=>(some x3)) q))
def aV:Nat→Ty8→Int→Int→Bool→Int→Int→Option (Int)
 | 0,_,_,_,_,_,_=>none
 | k+1,x1,x2,x3,x4,cC,cO=>(if ltI cC cO=true then (if inI (conv .i64 (tK .u64 (conv .u64 (aN .i64 cC cO)) 1)) x1.length=true then ((x1[tN (conv .i64 (tK .u64 (conv .u64 (aN .i64 cC cO)) 1))]?).bind fun k8=>((jU k k8.1 k8.2.1 k8.2.2 x2 x3 x4).bind fun yZ=>(if ltI yZ 0=true then (aV k x1 x2 x3 x4 (aN .i64 (conv .i64 (tK .u64 (conv .u64 (aN .i64 cC cO)) 1)) 1) cO) else (aV k x1 x2 x3 x4 cC (conv .i64 (tK .u64 (conv .u64 (aN .i64 cC cO)) 1)))))) else none) else (some cC))
def dX (k:Nat) (x1:Ty8) (x2:Int) (x3:Int) (x4:Bool):Option (Int × Bool):=((aV k x1 x2 x3 x4 0 (nI x1.length)).bind (fun x6=>(if ltI x6 (nI x1.length)=true then (if inI x6 x1.length=true then ((x1[tN x6]?).bind fun x7=>((jU k x7.1 x7.2.1 x7.2.2 x2 x3 x4).bind fun x8=>(some (x6,eqI x8 0)))) else none) else (some (x6,false)))))
def kQ (k:Nat) (x1:Int) (x2:Ty8) (x3:Ty8):Option Ty8:=insP 24 x1 x2 x3
def eR:Nat→Ty8→Int→Int→Bool→Int→Option (Sum (Unit) (Ty8 × Int))
 | 0,_,_,_,_,_=>none
 | k+1,x1,x2,x3,x4,cP=>(if ltI cP (nI x1.length)=true then (if inI cP x1.length=true then ((x1[tN cP]?).bind fun iJ=>(if eqI iJ.1 x3=true then (if eqI iJ.2.1 x2=true then (eR k x1 x2 x3 x4 (aN .i64 cP 1)) else (if x4=true then (some (.inr (x1,9))) else (if iJ.2.2=true then (some (.inr (x1,9))) else (eR k x1 x2 x3 x4 (aN .i64 cP 1))))) else (eR k x1 x2 x3 x4 (aN .i64 cP 1)))) else none) else (some (.inl ())))
def pD (k:Nat) (x1:Ty8) (x2:Int) (x3:Int) (x4:Bool):Option (Ty8 × Int):=((kC k x1).bind fun x5=>((nJ k x1).bind fun x6=>(if x6=true then (if (jV x2 x3)=true then ((eR k x1 x2 x3 x4 0).bind (fun q=>Sum.elim (fun x8=>((dX k x1 x3 x2 x4).bind fun x9=>(if x9.2=true then (if inI x9.1 x1.length=true then ((x1[tN x9.1]?).bind fun x10=>(if x10.2.2=true then (some ((List.set x1 (tN x9.1) (x10.1,x10.2.1,true)),0)) else (some ((List.set x1 (tN x9.1) (x10.1,x10.2.1,x4)),0)))) else none) else ((kQ k x9.1 x1 [(x3,x2,x4)]).bind fun x10=>(some (x10,0)))))) (fun x8=>(some x8)) q)) else (some (x1,2))) else (some (x1,2)))))
def eU (k:Nat) (x1:aG):Option Unit:=(if fD (x1.length*16)=true then (some ()) else none)
def jX:Unit:=()
def eQ (k:Nat) (x1:aG):Option Unit:=eU k x1
def jH (k:Nat) (x1:Int) (x2:aG) (x3:Bool) (x4:Int):Option Unit:=((eQ k x2).bind fun x5=>(some ()))
def iD (x1:Int) (x2:Int):Bool:=(!ltI x1 64)
def cH:Nat→aG→Int→Option (Sum (Unit) (Int))
 | 0,_,_=>none
 | k+1,x1,dD=>(if ltI dD (nI x1.length)=true then (if inI dD x1.length=true then ((x1[tN dD]?).bind fun j1=>(if (iD j1.1 j1.2)=true then (some (.inr dD)) else (cH k x1 (aN .i64 dD 1)))) else none) else (some (.inl ())))
def gB (k:Nat) (x1:aG):Option Int:=((cH k x1 0).bind (fun q=>Sum.elim (fun x3=>(some (-1))) (fun x3=>(some x3)) q))
def fG (k:Nat) (x1:aG):Option Bool:=((gB k x1).bind fun x2=>(some (!ltI x2 0)))
def i5 (k:Nat) (x1:Int) (x2:aG) (x3:Bool) (x4:Int):Option Bool:=(if ltI x1 0=true then (some false) else (if ltI 3 x1=true then (some false) else (if ltI 50 (nI x2.length)=true then (some false) else ((fG k x2).bind fun x5=>(if x5=true then (some false) else (if eqI x4 1=true then (if eqI x1 3=true then (some true) else (if eqI x4 0=true then (if x3=true then (some (eqI x1 1)) else (some true)) else (some false))) else (if eqI x1 3=true then (some (eqI x4 2)) else (if eqI x4 0=true then (if x3=true then (some (eqI x1 1)) else (some true)) else (some false)))))))))
def qW (k:Nat) (x1:Int) (x2:aG) (x3:Bool) (x4:Int) (x5:Int) (x6:Int):Option (Int × aG × Bool × Int × Int):=((jH k x1 x2 x3 x4).bind fun x7=>((i5 k x1 x2 x3 x4).bind fun x8=>(if x8=true then (if (iD x5 x6)=true then (some (x1,x2,x3,x4,2)) else (if eqI x1 0=true then (if ltI (nI x2.length) 50=true then (if fD (((x2++[(x5,x6)]).length)*16)=true then (some (x1,(x2++[(x5,x6)]),x3,x4,0)) else none) else (some (x1,x2,x3,x4,6))) else (some (x1,x2,x3,x4,13)))) else (some (x1,x2,x3,x4,2)))))
def eZ:Nat→aG→Int→Int→Option (Sum (Unit) (Int))
 | 0,_,_,_=>none
 | k+1,x1,x2,dQ=>(if ltI dQ (nI x1.length)=true then (if inI dQ x1.length=true then ((x1[tN dQ]?).bind fun pY=>(if eqI pY.1 x2=true then (some (.inr pY.2)) else (eZ k x1 x2 (aN .i64 dQ 1)))) else none) else (some (.inl ())))
def nC (k:Nat) (x1:aG) (x2:Int):Option Int:=((eZ k x1 x2 0).bind (fun q=>Sum.elim (fun x4=>(some 0)) (fun x4=>(some x4)) q))
def fK (k:Nat) (x1:Int) (x2:aG) (x3:Bool) (x4:Int):Option Ty6:=((eQ k x2).bind fun x5=>(some (x1,x2,x3,x4)))
def pA (k:Nat) (x1:Int) (x2:aG) (x3:Bool) (x4:Int) (x5:Bool):Option (Int × aG × Bool × Int × Int):=((fK k x1 x2 x3 x4).bind fun x6=>((i5 k x6.1 x6.2.1 x6.2.2.1 x6.2.2.2).bind fun x7=>(if x7=true then (if eqI x6.1 0=true then (if x5=true then (some (1,x6.2.1,x6.2.2.1,x6.2.2.2,0)) else (some (2,x6.2.1,x6.2.2.1,x6.2.2.2,0))) else (some (x6.1,x6.2.1,x6.2.2.1,x6.2.2.2,13))) else (some (x6.1,x6.2.1,x6.2.2.1,x6.2.2.2,2)))))
def eV (k:Nat) (x1:aG):Option Unit:=(if fD (x1.length*16)=true then (some ()) else none)
def jS:Unit:=()
def jF (k:Nat) (x1:aG):Option Unit:=eV k x1
def dM:Nat→aG→Int→Option aAI
 | 0,_,_=>none
 | k+1,x1,b5=>(if ltI b5 (nI x1.length)=true then (if inI b5 x1.length=true then ((x1[tN b5]?).bind fun mY=>(if ltI mY.1 64=true then (if eqI mY.2 0=true then (some (.inr false)) else (if ltI 0 b5=true then (if inI (isub .i64 b5 1) x1.length=true then ((x1[tN (isub .i64 b5 1)]?).bind fun y2=>(if ltI y2.1 mY.1=true then (dM k x1 (aN .i64 b5 1)) else (some (.inr false)))) else none) else (dM k x1 (aN .i64 b5 1)))) else (some (.inr false)))) else none) else (some (.inl ())))
def j7 (k:Nat) (x1:aG):Option Bool:=((dM k x1 0).bind (fun q=>Sum.elim (fun x3=>(some true)) (fun x3=>(some x3)) q))
def sB (x1:Int) (x2:Int):Unit:=()
def bZ:Nat→aG→Int→Option (Sum (Unit) (Int))
 | 0,_,_=>none
 | k+1,x1,b8=>(if ltI b8 (nI x1.length)=true then (if inI b8 x1.length=true then ((x1[tN b8]?).bind fun l6=>(if ltI l6.1 64=true then (bZ k x1 (aN .i64 b8 1)) else (some (.inr b8)))) else none) else (some (.inl ())))
def fQ (k:Nat) (x1:aG):Option Int:=((bZ k x1 0).bind (fun q=>Sum.elim (fun x3=>(some (-1))) (fun x3=>(some x3)) q))
def eM (k:Nat) (x1:aG):Option Bool:=((fQ k x1).bind fun x2=>(some (!ltI x2 0)))
def qP (x1:Int) (x2:Int) (x3:Int):Unit:=()
def aQ:Nat→aG→Int→Int→Int→Option (Int)
 | 0,_,_,_,_=>none
 | k+1,x1,x2,cD,cQ=>(if ltI cD cQ=true then (if inI (conv .i64 (tK .u64 (conv .u64 (aN .i64 cD cQ)) 1)) x1.length=true then ((x1[tN (conv .i64 (tK .u64 (conv .u64 (aN .i64 cD cQ)) 1))]?).bind fun oK=>(if ltI (cN oK.1 x2) 0=true then (aQ k x1 x2 (aN .i64 (conv .i64 (tK .u64 (conv .u64 (aN .i64 cD cQ)) 1)) 1) cQ) else (aQ k x1 x2 cD (conv .i64 (tK .u64 (conv .u64 (aN .i64 cD cQ)) 1))))) else none) else (some cD))
def dC (k:Nat) (x1:aG) (x2:Int):Option (Int × Bool):=((aQ k x1 x2 0 (nI x1.length)).bind (fun x4=>(if ltI x4 (nI x1.length)=true then (if inI x4 x1.length=true then ((x1[tN x4]?).bind fun x5=>(some (x4,eqI (cN x5.1 x2) 0))) else none) else (some (x4,false)))))
def lV (k:Nat) (x1:aG) (x2:Int):Option (Int × Bool):=((dC k x1 x2).bind fun x3=>(some (x3.1,x3.2)))
def kX (k:Nat) (x1:Int) (x2:Int) (x3:aG):Option aG:=delP x1 x2 x3
def iI (k:Nat) (x1:Int) (x2:aG) (x3:aG):Option aG:=insP 16 x1 x2 x3
def jB (k:Nat) (x1:Int) (x2:Int) (x3:aG):Option aG:=delP x1 x2 x3
def dU:Nat→aG→Int→aG→Option (aG)
 | 0,_,_,_=>none
 | k+1,x2,cE,aS=>(if ltI cE (nI x2.length)=true then (if inI cE x2.length=true then ((x2[tN cE]?).bind fun bT=>((lV k aS bT.1).bind fun aX=>(if aX.2=true then (if inI aX.1 aS.length=true then ((aS[tN aX.1]?).bind fun aR=>(((List.set aS (tN aX.1) (aR.1,aN .i64 aR.2 bT.2))[tN aX.1]?).bind fun bY=>(if eqI bY.2 0=true then ((kX k aX.1 (aN .i64 aX.1 1) (List.set aS (tN aX.1) (aR.1,aN .i64 aR.2 bT.2))).bind fun fT=>(dU k x2 (aN .i64 cE 1) fT)) else (dU k x2 (aN .i64 cE 1) (List.set aS (tN aX.1) (aR.1,aN .i64 aR.2 bT.2)))))) else none) else ((iI k aX.1 aS [(bT.1,0)]).bind fun aR=>(if inI aX.1 aR.length=true then ((aR[tN aX.1]?).bind fun bY=>(((List.set aR (tN aX.1) (bY.1,aN .i64 bY.2 bT.2))[tN aX.1]?).bind fun fT=>(if eqI fT.2 0=true then ((jB k aX.1 (aN .i64 aX.1 1) (List.set aR (tN aX.1) (bY.1,aN .i64 bY.2 bT.2))).bind fun jG=>(dU k x2 (aN .i64 cE 1) jG)) else (dU k x2 (aN .i64 cE 1) (List.set aR (tN aX.1) (bY.1,aN .i64 bY.2 bT.2)))))) else none))))) else none) else (some aS))
def gY (k:Nat) (x1:aG) (x2:aG):Option (aG × Int):=((jF k x1).bind fun x3=>((j7 k x1).bind fun x4=>(if x4=true then ((eM k x2).bind fun x5=>(if x5=true then (some (x1,2)) else ((dU k x2 0 x1).bind (fun x7=>(some (x7,0)))))) else (some (x1,2)))))
def uC (x1:Int) (x2:Int) (x3:Bool) (x4:Int):Unit:=()
def bU:Nat→Ty8→Int→Int→Option (Sum (Unit) (Int))
 | 0,_,_,_=>none
 | k+1,x1,x2,dE=>(if ltI dE (nI x1.length)=true then (if inI dE x1.length=true then ((x1[tN dE]?).bind fun k9=>(if eqI k9.2.1 x2=true then (some (.inr dE)) else (bU k x1 x2 (aN .i64 dE 1)))) else none) else (some (.inl ())))
def fH (k:Nat) (x1:Ty8) (x2:Int):Option Int:=((bU k x1 x2 0).bind (fun q=>Sum.elim (fun x4=>(some (-1))) (fun x4=>(some x4)) q))
def bV:Nat→Ty8→Int→Int→Int→Ty8→Option (Int × Ty8)
 | 0,_,_,_,_,_=>none
 | k+1,x1,x2,dF,cI,dG=>(if ltI dF (nI x1.length)=true then (if inI dF x1.length=true then ((dG[tN dF]?).bind fun fU=>(if eqI fU.2.1 x2=true then (bV k x1 x2 (aN .i64 dF 1) cI dG) else (if inI cI x1.length=true then ((dG[tN cI]?).bind fun v77000_2=>(bV k x1 x2 (aN .i64 dF 1) (aN .i64 cI 1) (List.set dG (tN cI) fU))) else none))) else none) else (some (cI,dG)))
def f3 (k:Nat) (x1:Ty8) (x2:Int):Option (Nat × Ty8):=((fH k x1 x2).bind fun x3=>(if eqI x3 (-1)=true then (some (x1.length,x1)) else ((bV k x1 x2 (aN .i64 x3 1) x3 x1).bind (fun x5=>(if isZ x1.length=true then none else (if oP x1.length x5.2.length=true then (if leI x5.1 x1.length=true then (if isZ (x1.length - (tN x5.1))=true then (if leI x5.1 x5.2.length=true then (some (tN x5.1,x5.2)) else none) else (if oP (tN x5.1+(x1.length - (tN x5.1))) x5.2.length=true then (if oP (tN x5.1) x5.2.length=true then (if oP x1.length ((((List.take (tN x5.1) x5.2)++(List.replicate (x1.length - (tN x5.1)) (0,0,false)))++(List.drop (tN x5.1+(x1.length - (tN x5.1))) x5.2)).length)=true then (if leI x5.1 ((((List.take (tN x5.1) x5.2)++(List.replicate (x1.length - (tN x5.1)) (0,0,false)))++(List.drop (tN x5.1+(x1.length - (tN x5.1))) x5.2)).length)=true then (some (tN x5.1,(((List.take (tN x5.1) x5.2)++(List.replicate (x1.length - (tN x5.1)) (0,0,false)))++(List.drop (tN x5.1+(x1.length - (tN x5.1))) x5.2)))) else none) else none) else none) else none)) else none) else none))))))
def kD (k:Nat) (x1:Ty8) (x2:Int):Option Ty8:=((kC k x1).bind fun x3=>((f3 k x1 x2).bind fun x4=>(if oP x4.1 x4.2.length=true then (some (List.take x4.1 x4.2)) else none)))
def nH (k:Nat) (x1:Int) (x2:aG) (x3:Bool) (x4:Int):Option (Int × aG × Bool × Int × aG × Int):=((fK k x1 x2 x3 x4).bind fun x5=>((i5 k x5.1 x5.2.1 x5.2.2.1 x5.2.2.2).bind fun x6=>(if x6=true then (if eqI x5.1 1=true then (if x5.2.2.1=true then (some (x5.1,x5.2.1,x5.2.2.1,x5.2.2.2,[],8)) else ((eQ k x5.2.1).bind fun x7=>(some (x5.1,x5.2.1,true,x5.2.2.2,x5.2.1,0)))) else (some (x5.1,x5.2.1,x5.2.2.1,x5.2.2.2,[],13))) else (some (x5.1,x5.2.1,x5.2.2.1,x5.2.2.2,[],2)))))
def iG (k:Nat) (x1:aG):Option aG:=oppP x1
def jR (k:Nat) (x1:Int) (x2:aG) (x3:Bool) (x4:Int) (x5:Int):Option (Int × aG × Bool × Int × aG × Int):=((fK k x1 x2 x3 x4).bind fun x6=>((i5 k x6.1 x6.2.1 x6.2.2.1 x6.2.2.2).bind fun x7=>(if x7=true then (if eqI x5 1=true then (if eqI x6.2.2.2 x5=true then (some (x6.1,x6.2.1,x6.2.2.1,x6.2.2.2,[],0)) else (if eqI x6.1 3=true then (some (x6.1,x6.2.1,x6.2.2.1,x6.2.2.2,[],13)) else (if eqI x6.1 1=true then (if eqB (eqI x5 1) x6.2.2.1=true then (some (3,x6.2.1,x6.2.2.1,x5,[],0)) else (if x6.2.2.1=true then ((iG k x6.2.1).bind fun x8=>(some (3,x6.2.1,x6.2.2.1,x5,x8,0))) else ((eQ k x6.2.1).bind fun x8=>(some (3,x6.2.1,x6.2.2.1,x5,x6.2.1,0))))) else (some (x6.1,x6.2.1,x6.2.2.1,x6.2.2.2,[],13))))) else (if eqI x5 2=true then (if eqI x6.2.2.2 x5=true then (some (x6.1,x6.2.1,x6.2.2.1,x6.2.2.2,[],0)) else (if eqI x6.1 3=true then (some (x6.1,x6.2.1,x6.2.2.1,x6.2.2.2,[],13)) else (if eqB (eqI x5 1) x6.2.2.1=true then (some (3,x6.2.1,x6.2.2.1,x5,[],0)) else (if x6.2.2.1=true then ((iG k x6.2.1).bind fun x8=>(some (3,x6.2.1,x6.2.2.1,x5,x8,0))) else ((eQ k x6.2.1).bind fun x8=>(some (3,x6.2.1,x6.2.2.1,x5,x6.2.1,0))))))) else (some (x6.1,x6.2.1,x6.2.2.1,x6.2.2.2,[],2)))) else (some (x6.1,x6.2.1,x6.2.2.1,x6.2.2.2,[],2)))))
def nL (x1:aG) (x2:Ty8) (x3:Ty2) (x4:Ty7):Unit:=()
def bR:Nat→aG→Int→Int→Int→Int→aG→Ty8→Ty2→Ty7→(Ty8 × Int)→Int→Int→Option (Int)
 | 0,_,_,_,_,_,_,_,_,_,_,_,_=>none
 | k+1,x2,x5,x6,x7,x8,x9,x10,x11,x12,x13,cU,b9=>(if ltI b9 (nI x2.length)=true then (if inI b9 x2.length=true then ((x2[tN b9]?).bind fun nM=>(if eqI nM.1 x7=true then (bR k x2 x5 x6 x7 x8 x9 x10 x11 x12 x13 (aN .i64 cU nM.2) (aN .i64 b9 1)) else (bR k x2 x5 x6 x7 x8 x9 x10 x11 x12 x13 cU (aN .i64 b9 1)))) else none) else (some cU))
def eT (k:Nat) (x1:Int) (x2:aG) (x3:Bool) (x4:Int) (x5:Int) (x6:Int) (x7:Int) (x8:Int) (x9:aG) (x10:Ty8) (x11:Ty2) (x12:Ty7):Option (Ty8 × Ty2 × Int × Int):=(if eqI x1 0=true then ((pD k x10 x6 x7 (eqI x5 3)).bind fun x13=>(if eqI x13.2 0=true then (if eqI x5 3=true then ((qW k x1 x2 x3 x4 x7 x8).bind fun x14=>(if eqI x14.2.2.2.2 0=true then (if jA x11 x6=true then ((cZ x11 x6).bind fun x15=>(some (x13.1,(bG x11 x6 (x14.1,x14.2.1,x14.2.2.1,x14.2.2.2.1)),0,0))) else (some (x13.1,(bG x11 x6 (x14.1,x14.2.1,x14.2.2.1,x14.2.2.2.1)),0,0))) else (some (x10,x11,x14.2.2.2.2,0)))) else ((nC k x9 x7).bind fun x14=>((bR k x2 x5 x6 x7 x8 x9 x10 x11 x12 x13 x14 0).bind (fun x16=>(some (x13.1,x11,0,x16)))))) else (some (x10,x11,x13.2,0)))) else (some (x10,x11,13,0)))
def gQ (k:Nat) (x1:Int) (x2:aG) (x3:Bool) (x4:Int) (x5:Int) (x6:Int) (x7:Int) (x8:Int) (x9:aG) (x10:Ty8) (x11:Ty2) (x12:Ty7):Option (aG × Ty8 × Ty2 × Int):=(if eqI x5 4=true then ((pA k x1 x2 x3 x4 (!eqI x8 0)).bind fun x13=>(if eqI x13.2.2.2.2 0=true then ((gY k x9 []).bind fun x14=>(if eqI x13.1 2=true then ((kD k x10 x6).bind fun x15=>(some (x14.1,x15,(bG x11 x6 (x13.1,x13.2.1,x13.2.2.1,x13.2.2.2.1)),0))) else (some (x14.1,x10,(bG x11 x6 (x13.1,x13.2.1,x13.2.2.1,x13.2.2.2.1)),0)))) else (some (x9,x10,x11,x13.2.2.2.2)))) else (if eqI x5 5=true then ((nH k x1 x2 x3 x4).bind fun x13=>(if eqI x13.2.2.2.2.2 0=true then ((gY k x9 x13.2.2.2.2.1).bind fun x14=>((kD k x10 x6).bind fun x15=>(some (x14.1,x15,(bG x11 x6 (x13.1,x13.2.1,x13.2.2.1,x13.2.2.2.1)),0)))) else (some (x9,x10,x11,x13.2.2.2.2.2)))) else (if eqI x8 1=true then ((jR k x1 x2 x3 x4 x8).bind fun x13=>(if eqI x13.2.2.2.2.2 0=true then ((gY k x9 x13.2.2.2.2.1).bind fun x14=>((kD k x10 x6).bind fun x15=>(some (x14.1,x15,(bG x11 x6 (x13.1,x13.2.1,x13.2.2.1,x13.2.2.2.1)),0)))) else (some (x9,x10,x11,x13.2.2.2.2.2)))) else (if eqI x8 2=true then ((jR k x1 x2 x3 x4 x8).bind fun x13=>(if eqI x13.2.2.2.2.2 0=true then ((gY k x9 x13.2.2.2.2.1).bind fun x14=>((kD k x10 x6).bind fun x15=>(some (x14.1,x15,(bG x11 x6 (x13.1,x13.2.1,x13.2.2.1,x13.2.2.2.1)),0)))) else (some (x9,x10,x11,x13.2.2.2.2.2)))) else (some (x9,x10,x11,2))))))
def fM (k:Nat) (x1:Int) (x2:aG) (x3:Bool) (x4:Int) (x5:Int) (x6:Int) (x7:Int) (x8:Int) (x9:aG) (x10:Ty8) (x11:Ty2) (x12:Ty7):Option (Int × Int × Ty8 × Ty2 × aG):=(if eqI x5 1=true then (some (0,0,x10,(bG x11 x6 (x1,x2,x3,x4)),x9)) else (if eqI x5 2=true then ((eT k x1 x2 x3 x4 x5 x6 x7 x8 x9 x10 x11 x12).bind fun x13=>(some (x13.2.2.2,x13.2.2.1,x13.1,x13.2.1,x9))) else (if eqI x5 3=true then ((eT k x1 x2 x3 x4 x5 x6 x7 x8 x9 x10 x11 x12).bind fun x13=>(some (x13.2.2.2,x13.2.2.1,x13.1,x13.2.1,x9))) else ((gQ k x1 x2 x3 x4 x5 x6 x7 x8 x9 x10 x11 x12).bind fun x13=>(some (0,x13.2.2.2,x13.2.1,x13.2.2.1,x13.1))))))
def iE (k:Nat) (x1:Int) (x2:Int) (x3:Int) (x4:Int) (x5:aG) (x6:Ty8) (x7:Ty2) (x8:Ty7):Option (Int × Int × aG × Ty8 × Ty2 × Ty7):=(if ltI x1 1=true then (some (2,0,x5,x6,x7,x8)) else (if ltI 6 x1=true then (some (2,0,x5,x6,x7,x8)) else (if ltI x2 0=true then (some (2,0,x5,x6,x7,x8)) else (if ltI x2 1000=true then (if jA x7 x2=true then ((cZ x7 x2).bind fun x9=>(if eqB true (eqI x1 1)=true then (some (8,0,x5,x6,x7,x8)) else ((fM k x9.1 x9.2.1 x9.2.2.1 x9.2.2.2 x1 x2 x3 x4 x5 x6 x7 x8).bind fun x10=>(if eqI x10.2.1 0=true then (if fD (((x8++[(x1,x2,x3,x4)]).length)*32)=true then (some (0,x10.1,x10.2.2.2.2,x10.2.2.1,x10.2.2.2.1,(x8++[(x1,x2,x3,x4)]))) else none) else (some (x10.2.1,0,x10.2.2.2.2,x10.2.2.1,x10.2.2.2.1,x8)))))) else (if eqB false (eqI x1 1)=true then (some (7,0,x5,x6,x7,x8)) else ((fM k 0 [] false 0 x1 x2 x3 x4 x5 x6 x7 x8).bind fun x9=>(if eqI x9.2.1 0=true then (if fD (((x8++[(x1,x2,x3,x4)]).length)*32)=true then (some (0,x9.1,x9.2.2.2.2,x9.2.2.1,x9.2.2.2.1,(x8++[(x1,x2,x3,x4)]))) else none) else (some (x9.2.1,0,x9.2.2.2.2,x9.2.2.1,x9.2.2.2.1,x8)))))) else (some (2,0,x5,x6,x7,x8))))))
def eP:Nat→Ty7→Int→aG→Ty8→Ty2→Ty7→Option Ty0
 | 0,_,_,_,_,_,_=>none
 | k+1,x1,dR,eH,eI,d7,d8=>(if ltI dR (nI x1.length)=true then (if inI dR x1.length=true then ((x1[tN dR]?).bind fun iK=>((iE k iK.1 iK.2.1 iK.2.2.1 iK.2.2.2 eH eI d7 d8).bind fun dK=>(if eqI dK.1 0=true then (eP k x1 (aN .i64 dR 1) dK.2.2.1 dK.2.2.2.1 dK.2.2.2.2.1 dK.2.2.2.2.2) else (some (.inr (.inr ())))))) else none) else (some (.inl (eH,eI,d7,d8))))
def lY (k:Nat) (x1:Ty7):Option Ty1:=((eP k x1 0 [] [] ([]:Ty2) []).bind (fun q=>Sum.elim (fun x3=>(some (.inl (x3.1,x3.2.1,x3.2.2.1,x3.2.2.2)))) (fun x3=>(some x3)) q))
def eO:Nat→Ty7→Int→aG→Option (aG)
 | 0,_,_,_=>none
 | k+1,x1,eF,dY=>(if ltI eF (nI x1.length)=true then (if inI eF x1.length=true then ((x1[tN eF]?).bind fun gW=>(if eqI gW.1 6=true then (eO k x1 (aN .i64 eF 1) (bG dY gW.2.1 gW.2.2.2)) else (eO k x1 (aN .i64 eF 1) dY))) else none) else (some dY))
def g7 (k:Nat) (x1:Ty7):Option (Sum (aG) (Unit)):=((lY k x1).bind (fun q=>Sum.elim (fun x3=>((eO k x1 0 ([]:aG)).bind (fun x5=>(some (.inl x5))))) (fun x3=>(some (.inr ()))) q))
def eC:Nat→Ty7→Int→Option (Unit)
 | 0,_,_=>none
 | k+1,x1,dS=>(if ltI dS (nI x1.length)=true then (if inI dS x1.length=true then ((x1[tN dS]?).bind fun uQ=>(eC k x1 (aN .i64 dS 1))) else none) else (some ()))
def cK:Nat→Ty7→aG→Int→Int→Option (Int)
 | 0,_,_,_,_=>none
 | k+1,x1,x3,cV,cF=>(if ltI cF (nI x1.length)=true then (if inI cF x1.length=true then ((x1[tN cF]?).bind fun lA=>(if eqI lA.1 5=true then (if jA x3 lA.2.1=true then ((cZ x3 lA.2.1).bind fun y3=>(if eqI y3 2=true then (cK k x1 x3 (aN .i64 cV 1) (aN .i64 cF 1)) else (cK k x1 x3 cV (aN .i64 cF 1)))) else (cK k x1 x3 cV (aN .i64 cF 1))) else (cK k x1 x3 cV (aN .i64 cF 1)))) else none) else (some cV))
def iN (k:Nat) (x1:Ty7):Option (Int × Int):=((g7 k x1).bind (fun q=>Sum.elim (fun x3=>((cK k x1 x3 0 0).bind (fun x5=>(some (x5,0))))) (fun x3=>((eC k x1 0).bind (fun x5=>(some (0,4))))) q))
def cJ:Nat→Ty7→aG→Int→aG→Option (aG)
 | 0,_,_,_,_=>none
 | k+1,x1,x3,cG,aM=>(if ltI cG (nI x1.length)=true then (if inI cG x1.length=true then ((x1[tN cG]?).bind fun cR=>(if eqI cR.1 3=true then (if jA x3 cR.2.1=true then ((cZ x3 cR.2.1).bind fun y4=>(if eqI y4 1=true then (if fD (((aM++[cR.2.2]).length)*16)=true then (cJ k x1 x3 (aN .i64 cG 1) (aM++[cR.2.2])) else none) else (cJ k x1 x3 (aN .i64 cG 1) aM))) else (cJ k x1 x3 (aN .i64 cG 1) aM)) else (cJ k x1 x3 (aN .i64 cG 1) aM))) else none) else (some aM))
def iZ (k:Nat) (x1:Ty7):Option (aG × Int):=((g7 k x1).bind (fun q=>Sum.elim (fun x3=>((cJ k x1 x3 0 []).bind (fun x5=>((gY k [] x5).bind fun x6=>(some (x6.1,x6.2)))))) (fun x3=>(some ([],4))) q))
def lX (x1:aG):Bool:=dL (x1++x1)
def kU (x1:aG) (x2:aG):Bool:=dL (x1++x2)
def lU (k:Nat):Option Bool:=(if eqI (nI aK.length) 0=true then (some false) else ((g7 k aK).bind (fun q=>Sum.elim (fun x2=>((iN k aK).bind fun x3=>((iZ k aK).bind fun x4=>(if leI 1 aK.length=true then ((g7 k (List.drop 1 aK)).bind (fun q=>Sum.elim (fun x6=>(if eqI (nI x2.length) 1=true then (if jA x2 1=true then ((cZ x2 1).bind fun x7=>(if eqI x7 2=true then (if eqI x3.1 1=true then (if eqI x3.2 0=true then (if eqI (nI x4.1.length) 0=true then (if eqI x4.2 0=true then (some false) else (some false)) else (some false)) else (some false)) else (some false)) else (some false))) else (some false)) else (some false))) (fun x6=>(if eqI (nI x2.length) 1=true then (if jA x2 1=true then ((cZ x2 1).bind fun x7=>(if eqI x7 2=true then (if eqI x3.1 1=true then (if eqI x3.2 0=true then (if eqI (nI x4.1.length) 0=true then (if eqI x4.2 0=true then (if (lX x2)=true then (some (!(kU x2 (bG ([]:aG) 1 1)))) else (some false)) else (some false)) else (some false)) else (some false)) else (some false)) else (some false))) else (some false)) else (some false))) q)) else none)))) (fun x2=>((iN k aK).bind fun x3=>((iZ k aK).bind fun x4=>(if leI 1 aK.length=true then ((g7 k (List.drop 1 aK)).bind (fun q=>Sum.elim (fun x6=>(some false)) (fun x6=>(some false)) q)) else none)))) q)))
def bL:Nat→aG→Int→aG→Option (aG)
 | 0,_,_,_=>none
 | k+1,x1,bI,bC=>(if ltI bI (nI x1.length)=true then (if inI bI x1.length=true then ((x1[tN bI]?).bind fun dV=>(if jA bC dV.1=true then ((cZ bC dV.1).bind fun z4=>(bL k x1 (aN .i64 bI 1) bC)) else (bL k x1 (aN .i64 bI 1) (bG bC dV.1 dV.2)))) else none) else (some bC))
def gC (k:Nat) (x1:aG):Option aG:=((bL k x1 0 ([]:aG)).bind (fun x3=>(some x3)))
def gF (k:Nat) (x1:aG):Option aG:=gC k x1
def g6 (k:Nat) (x1:List aG):Option Bool:=wB x1
def eD:Nat→aG→Int→Int→Option (Sum (Unit) (Int))
 | 0,_,_,_=>none
 | k+1,x1,x2,b6=>(if ltI b6 (nI x1.length)=true then (if inI b6 x1.length=true then ((x1[tN b6]?).bind fun lB=>(if eqI lB.1 x2=true then (some (.inr lB.2)) else (eD k x1 x2 (aN .i64 b6 1)))) else none) else (some (.inl ())))
def lN (k:Nat) (x1:aG) (x2:Int):Option Int:=((eD k x1 x2 0).bind (fun q=>Sum.elim (fun x4=>(some 0)) (fun x4=>(some x4)) q))
def cL:Nat→(List aG)→Int→Int→Int→Option (Sum (Int × Int) (Bool))
 | 0,_,_,_,_=>none
 | k+1,x1,bM,bN,bP=>(if inI bP x1.length=true then ((x1[tN bP]?).bind fun d9=>(if ltI bM (nI d9.length)=true then (if inI bM d9.length=true then ((d9[tN bM]?).bind fun lC=>((lN k d9 lC.1).bind fun mZ=>(if inI bN x1.length=true then ((x1[tN bN]?).bind fun rW=>((lN k rW lC.1).bind fun m5=>(if eqI mZ 0=true then (cL k x1 (aN .i64 bM 1) bN bP) else (if eqI m5 0=true then (cL k x1 (aN .i64 bM 1) bN bP) else (if eqI mZ m5=true then (cL k x1 (aN .i64 bM 1) bN bP) else (some (.inr false))))))) else none))) else none) else (some (.inl (bP,bN))))) else none)
def dO:Nat→(List aG)→Int→Int→Option (Sum (Int) (Bool))
 | 0,_,_,_=>none
 | k+1,x1,cW,cX=>(if ltI cW (nI x1.length)=true then ((cL k x1 0 cW cX).bind (fun q=>Sum.elim (fun fV=>(dO k x1 (aN .i64 fV.2 1) fV.1)) (fun fV=>(some (.inr fV))) q)) else (some (.inl cX)))
def dN:Nat→(List aG)→Int→Option aAI
 | 0,_,_=>none
 | k+1,x1,cY=>(if ltI cY (nI x1.length)=true then ((dO k x1 0 cY).bind (fun q=>Sum.elim (fun iL=>(dN k x1 (aN .i64 iL 1))) (fun iL=>(some (.inr iL))) q)) else (some (.inl ())))
def lQ (k:Nat) (x1:List aG):Option Bool:=((dN k x1 0).bind (fun q=>Sum.elim (fun x3=>(some true)) (fun x3=>(some x3)) q))
def bH:Nat→(List aG)→Int→Int→(List aG)→(List aG)→(List aG)→Option (Sum ((List aG) × (List aG) × (List aG)) (Bool))
 | 0,_,_,_,_,_,_=>none
 | k+1,x1,x2,cA,aY,aU,aZ=>(if ltI cA (nI x1.length)=true then (if inI cA x1.length=true then ((x1[tN cA]?).bind fun gX=>(if ltI 100 (nI gX.length)=true then (some (.inr true)) else ((gF k gX).bind fun cS=>(if fD (((aY++[cS]).length)*8)=true then ((gF k gX).bind fun dI=>(if fD ((([dI]++aU).length)*8)=true then (if eqI (nI x1.length) 0=true then none else (if eqI cA (irem .i64 (conv .i64 x2) (nI x1.length))=true then (bH k x1 x2 (aN .i64 cA 1) (aY++[cS]) ([dI]++aU) aZ) else ((gF k gX).bind fun eS=>(if fD (((aZ++[eS]).length)*8)=true then (bH k x1 x2 (aN .i64 cA 1) (aY++[cS]) ([dI]++aU) (aZ++[eS])) else none)))) else none)) else none)))) else none) else (some (.inl (aY,aU,aZ))))
def gR (k:Nat) (x1:List aG) (x2:Int):Option Bool:=((lU k).bind fun x3=>(if x3=true then (if ltI 8 (nI x1.length)=true then (some true) else ((bH k x1 x2 0 [] [] []).bind (fun q=>Sum.elim (fun x5=>((g6 k x5.1).bind fun x6=>((lQ k x1).bind fun x7=>(if eqB x6 x7=true then ((g6 k x5.2.1).bind fun x8=>(if eqB x6 x8=true then (if x6=true then ((g6 k x5.2.2).bind fun x9=>(some x9)) else (some true)) else (some false))) else (some false))))) (fun x5=>(some x5)) q))) else (some false)))
end Go.Ws
