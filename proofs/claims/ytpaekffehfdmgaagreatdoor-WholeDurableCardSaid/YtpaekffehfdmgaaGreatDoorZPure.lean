/-
  The functions as plain Lean functions. (Printed by my own program.)
  Conditions: none.
-/
import Derived.Test.YtpaekffehfdmgaaGreatDoorZB2
import Derived.Test.YtpaekffehfdmgaaGreatDoorZSumDef
set_option linter.unusedVariables false
set_option linter.unusedSimpArgs false
namespace Go.Ws
abbrev Ty6:=Int × ByteArray
abbrev Ty5:=List Ty6
abbrev Ty4:=Int × (List Int) × Bool
abbrev Ty3:=Sum (Unit) ((List Int) × Int)
abbrev Ty2:=Int × Int × Int × Int × ByteArray × Bool
abbrev Ty1:=Int × Ty2
abbrev Ty0:=List Ty1
set_option linter.unusedVariables false
def mW:Int:=2
def pI:Int:=mW
def gY (x1:Int):Bool:=(!eqI x1 x1)
def gV (x1:Int) (x2:Int):Bool:=(if (gY x1)=true then (if (gY x2)=true then ltI x1 x2 else true) else ltI x1 x2)
def fP:Nat→Int→Int→Int→(List Int)→(List Int)→Option (Unit)
 | 0,_,_,_,_,_=>none
 | k+1,x1,x2,x3,aV,eR=>(some ())
def fL:Nat→Int→Int→Int→(List Int)→Int→Int→Int→Int→Option (Unit)
 | 0,_,_,_,_,_,_,_,_=>none
 | k+1,x1,x2,x3,aV,bU,bR,cJ,cD=>(some ())
def fM:Nat→Int→Int→Int→(List Int)→Int→Int→Option ((List Int))
 | 0,_,_,_,_,_,_=>none
 | k+1,x1,x2,x3,aV,bU,bR=>(if inI 1 aV.length=true then (((List.set (List.set aV 2 bR) 1 bU)[1]?).bind fun cJ=>(if inI 0 aV.length=true then (((List.set (List.set aV 2 bR) 1 bU)[0]?).bind fun cD=>(if (gV cJ cD)=true then (((List.set (List.set (List.set aV 2 bR) 1 bU) 1 cD)[0]?).bind fun aNJ=>((fL k x1 x2 x3 aV bU bR cJ cD).bind (fun aNK=>(some (List.set (List.set (List.set (List.set aV 2 bR) 1 bU) 1 cD) 0 cJ))))) else (some (List.set (List.set aV 2 bR) 1 bU)))) else none)) else none)
def fI:Nat→Int→Int→Int→(List Int)→Option ((List Int))
 | 0,_,_,_,_=>none
 | k+1,x1,x2,x3,aV=>(if inI 2 aV.length=true then ((aV[2]?).bind fun bU=>(if inI 1 aV.length=true then ((aV[1]?).bind fun bR=>(if (gV bU bR)=true then (((List.set aV 2 bR)[1]?).bind fun aNL=>((fM k x1 x2 x3 aV bU bR).bind (fun aBQ=>(some aBQ)))) else (some aV))) else none)) else none)
def fO:Nat→Int→Int→Int→(List Int)→Option ((List Int))
 | 0,_,_,_,_=>none
 | k+1,x1,x2,x3,aV=>((fI k x1 x2 x3 aV).bind (fun eR=>((fP k x1 x2 x3 aV eR).bind (fun aNM=>(some eR)))))
def fQ:Nat→Int→Int→Int→Option (Unit)
 | 0,_,_,_=>none
 | k+1,x1,x2,x3=>(some ())
def fK:Nat→Int→Int→Int→Option ((List Int))
 | 0,_,_,_=>none
 | k+1,x1,x2,x3=>(if (gV x2 x1)=true then ((fQ k x1 x2 x3).bind (fun aNN=>(some [x2,x1,x3]))) else (some [x1,x2,x3]))
def fN:Nat→Int→Int→Int→Option ((List Int))
 | 0,_,_,_=>none
 | k+1,x1,x2,x3=>((fK k x1 x2 x3).bind (fun aV=>((fO k x1 x2 x3 aV).bind (fun aBR=>(some aBR)))))
def eZ (k:Nat) (x1:Int) (x2:Int) (x3:Int):Option (List Int):=((fN k x1 x2 x3).bind (fun x5=>(some x5)))
def gN:Nat→Int→Int→Int→Int→Option ((List Int))
 | 0,_,_,_,_=>none
 | k+1,x1,x2,x3,x4=>((eZ k x2 x3 x4).bind fun aAQ=>(some aAQ))
def gA (k:Nat) (x1:Int) (x2:Int) (x3:Int) (x4:Int):Option (List Int):=((gN k x1 x2 x3 x4).bind (fun x6=>(some x6)))
def pW (k:Nat) (x1:Int) (x2:Int) (x3:Int):Option (List Int):=((gA k pI x1 x2 x3).bind fun x4=>(some x4))
def pC (x1:Ty0) (x2:Ty0):Unit:=()
def tD (x1:Ty0) (x2:Ty0):Unit:=()
def cO (x1:Int):Bool:=(if ltI x1 1=true then false else (!ltI 1048576 x1))
def bN (x1:Int) (x2:Int) (x3:Int):Bool:=(if eqI x2 0=true then (eqI x1 0 && (eqI x2 0 && eqI x3 0)) else (if eqI x2 1=true then (if (cO x1)=true then eqI x3 0 else false) else (if eqI x2 2=true then (if (cO x1)=true then ltI x3 8 else false) else false)))
def tH:Unit:=()
def yD:Unit:=()
def dM:Nat→Int→Option (Unit)
 | 0,_=>none
 | k+1,x1=>(some ())
def dL:Nat→Int→Option (Unit)
 | 0,_=>none
 | k+1,x1=>((dM k x1).bind (fun aJO=>(some ())))
def i5 (k:Nat) (x1:Int):Option Unit:=((dL k x1).bind (fun x3=>(some ())))
def rP:Unit:=()
def cW:Nat→Int→(List Int)→Option (Unit)
 | 0,_,_=>none
 | k+1,x1,x2=>(some ())
def cU:Nat→Int→(List Int)→Option (Unit)
 | 0,_,_=>none
 | k+1,x1,x2=>(if bV ((((((x2++[conv .u8 (aE .u64 x1 24)])++[conv .u8 (aE .u64 x1 16)])++[conv .u8 (aE .u64 x1 8)])++[conv .u8 (aE .u64 x1 0)]).length)*1)=true then ((cW k x1 x2).bind (fun aGG=>(some ()))) else none)
def cQ:Nat→Int→(List Int)→Option (Unit)
 | 0,_,_=>none
 | k+1,x1,x2=>(if bV (((((x2++[conv .u8 (aE .u64 x1 24)])++[conv .u8 (aE .u64 x1 16)])++[conv .u8 (aE .u64 x1 8)]).length)*1)=true then ((cU k x1 x2).bind (fun aGH=>(some ()))) else none)
def cP:Nat→Int→(List Int)→Option (Unit)
 | 0,_,_=>none
 | k+1,x1,x2=>(if bV ((((x2++[conv .u8 (aE .u64 x1 24)])++[conv .u8 (aE .u64 x1 16)]).length)*1)=true then ((cQ k x1 x2).bind (fun aGI=>(some ()))) else none)
def cY:Nat→Int→(List Int)→Option (Unit)
 | 0,_,_=>none
 | k+1,x1,x2=>(if bV (((x2++[conv .u8 (aE .u64 x1 24)]).length)*1)=true then ((cP k x1 x2).bind (fun aGJ=>(some ()))) else none)
def iJ (k:Nat) (x1:Int) (x2:List Int):Option Unit:=((cY k x1 x2).bind (fun x4=>(some ())))
def cV:Nat→Int→(List Int)→Option (Unit)
 | 0,_,_=>none
 | k+1,x1,x2=>(some ())
def cR:Nat→Int→(List Int)→Option (Unit)
 | 0,_,_=>none
 | k+1,x1,x2=>(if bV (((x2++[conv .u8 (aE .u64 x1 0)]).length)*1)=true then ((cV k x1 x2).bind (fun aGK=>(some ()))) else none)
def gM (k:Nat) (x1:Int) (x2:List Int):Option Unit:=((cR k x1 x2).bind (fun x4=>(some ())))
def dH:Nat→Ty6→Ty6→Ty6→Option (Unit)
 | 0,_,_,_=>none
 | k+1,x1,x2,x3=>(some ())
def dR:Nat→Ty6→Ty6→Ty6→Option Ty3
 | 0,_,_,_=>none
 | k+1,x1,x2,x3=>(if eqS x3.2 (ByteArray.mk #[])=true then (if eqI (aE .u64 x3.1 8) 0=true then ((gM k x3.1 (((([conv .u8 (aE .u64 x1.1 0)]++[conv .u8 (aE .u64 x2.1 24)])++[conv .u8 (aE .u64 x2.1 16)])++[conv .u8 (aE .u64 x2.1 8)])++[conv .u8 (aE .u64 x2.1 0)])).bind fun aJP=>((dH k x1 x2 x3).bind (fun aJQ=>(some (.inl ()))))) else (some (.inr ([],2)))) else (some (.inr ([],2))))
def dO:Nat→Ty6→Ty6→Ty6→Option Ty3
 | 0,_,_,_=>none
 | k+1,x1,x2,x3=>(if eqS x2.2 (ByteArray.mk #[])=true then (if eqI (aE .u64 x2.1 32) 0=true then ((iJ k x2.1 [conv .u8 (aE .u64 x1.1 0)]).bind fun aJR=>((dR k x1 x2 x3).bind (fun q=>Sum.elim (fun lL=>(some (.inl ()))) (fun lL=>(some (.inr lL))) q))) else (some (.inr ([],2)))) else (some (.inr ([],2))))
def dQ:Nat→Ty6→Ty6→Ty6→Option Ty3
 | 0,_,_,_=>none
 | k+1,x1,x2,x3=>(if eqS x1.2 (ByteArray.mk #[])=true then (if eqI (aE .u64 x1.1 8) 0=true then ((i5 k x1.1).bind fun aJS=>((dO k x1 x2 x3).bind (fun q=>Sum.elim (fun lN=>(some (.inl ()))) (fun lN=>(some (.inr lN))) q))) else (some (.inr ([],2)))) else (some (.inr ([],2))))
def kA (k:Nat) (x1:Int × ByteArray) (x2:Int × ByteArray) (x3:Int × ByteArray):Option ((List Int) × Int):=((dQ k x1 x2 x3).bind (fun q=>Sum.elim (fun x5=>(if ltI 4000 (nI (((((([conv .u8 (aE .u64 x1.1 0)]++[conv .u8 (aE .u64 x2.1 24)])++[conv .u8 (aE .u64 x2.1 16)])++[conv .u8 (aE .u64 x2.1 8)])++[conv .u8 (aE .u64 x2.1 0)])++[conv .u8 (aE .u64 x3.1 0)]).length))=true then (some ([],3)) else (some (((((([conv .u8 (aE .u64 x1.1 0)]++[conv .u8 (aE .u64 x2.1 24)])++[conv .u8 (aE .u64 x2.1 16)])++[conv .u8 (aE .u64 x2.1 8)])++[conv .u8 (aE .u64 x2.1 0)])++[conv .u8 (aE .u64 x3.1 0)]),0)))) (fun x5=>(some x5)) q))
def gC (k:Nat) (x1:Int) (x2:Int) (x3:Int):Option ((List Int) × Int):=(if (bN x1 x2 x3)=true then ((kA k (conv .u64 x2,(ByteArray.mk #[])) (conv .u64 x1,(ByteArray.mk #[])) (conv .u64 x3,(ByteArray.mk #[]))).bind fun x4=>(some (x4.1,x4.2))) else (some ([],2)))
def fZ (k:Nat) (x1:Int) (x2:List Int) (x3:Bool):Option ((List Int) × (List Int) × Bool):=(if x3=true then (some ([],x2,true)) else (if ltI (nI x2.length) x1=true then (some ([],x2,true)) else (if leI x1 x2.length=true then (some ((List.take (tN x1) x2),(List.drop (tN x1) x2),x3)) else none)))
def bZ:Nat→(List Int)→Bool→((List Int) × (List Int) × Bool)→Int→Int→Option (Int)
 | 0,_,_,_,_,_=>none
 | k+1,x2,x3,x4,dA,cE=>(if ltI cE (nI x4.1.length)=true then (if inI cE x4.1.length=true then ((x4.1[tN cE]?).bind fun rG=>(bZ k x2 x3 x4 (ior .u64 (eQ .u64 dA 8) (conv .u64 rG)) (bI .i64 cE 1))) else none) else (some dA))
def cA (k:Nat) (x1:Int) (x2:List Int) (x3:Bool):Option Ty4:=((fZ k x1 x2 x3).bind fun x4=>((bZ k x2 x3 x4 0 0).bind (fun x6=>(some (x6,x4.2.1,x4.2.2)))))
def dJ:Nat→(List Int)→Ty4→Ty4→Ty4→Option (Unit)
 | 0,_,_,_,_=>none
 | k+1,x1,aX,bE,bP=>(some ())
def dI:Nat→(List Int)→Ty4→Ty4→Option ((List Int) × Bool × Ty5)
 | 0,_,_,_=>none
 | k+1,x1,aX,bE=>((cA k 1 bE.2.1 bE.2.2).bind fun bP=>((dJ k x1 aX bE bP).bind (fun aJT=>(some (bP.2.1,bP.2.2,[(aX.1,(ByteArray.mk #[])),(bE.1,(ByteArray.mk #[])),(bP.1,(ByteArray.mk #[]))])))))
def dN:Nat→(List Int)→Ty4→Option ((List Int) × Bool × Ty5)
 | 0,_,_=>none
 | k+1,x1,aX=>((cA k 4 aX.2.1 aX.2.2).bind fun bE=>((dI k x1 aX bE).bind (fun i7=>(some (i7.1,i7.2.1,i7.2.2)))))
def dG:Nat→(List Int)→Option ((List Int) × Bool × Ty5)
 | 0,_=>none
 | k+1,x1=>((cA k 1 x1 false).bind fun aX=>((dN k x1 aX).bind (fun i8=>(some (i8.1,i8.2.1,i8.2.2)))))
def j9 (k:Nat) (x1:List Int):Option (Ty5 × Int):=((dG k x1).bind (fun x3=>(if x3.2.1=true then (some ([],4)) else (if ltI 0 (nI x3.1.length)=true then (some ([],4)) else (if ltI 4000 (nI x1.length)=true then (some ([],4)) else (some (x3.2.2,0)))))))
def gH (k:Nat) (x1:List Int):Option (Int × Int × Int × Int):=((j9 k x1).bind fun x2=>(if eqI x2.2 0=true then (if inI 1 x2.1.length=true then ((x2.1[1]?).bind fun x3=>(if inI 0 x2.1.length=true then ((x2.1[0]?).bind fun x4=>(if inI 2 x2.1.length=true then ((x2.1[2]?).bind fun x5=>(if (bN (conv .i64 x3.1) (conv .i64 x4.1) (conv .u8 x5.1))=true then (some (conv .i64 x3.1,conv .i64 x4.1,conv .u8 x5.1,0)) else (some (0,0,0,4)))) else none)) else none)) else none) else (some (0,0,0,4))))
def gU (x1:Int):Int:=ixor .u64 (conv .u64 x1) 9223372036854775808
def qL:Unit:=()
def sB:Unit:=()
def eG:Nat→Int→(List Int)→Option (Unit)
 | 0,_,_=>none
 | k+1,x1,x2=>(some ())
def eF:Nat→Int→(List Int)→Option (Unit)
 | 0,_,_=>none
 | k+1,x1,x2=>(if bV ((((x2++[conv .u8 (aE .u64 x1 8)])++[conv .u8 (aE .u64 x1 0)]).length)*1)=true then ((eG k x1 x2).bind (fun aNO=>(some ()))) else none)
def dT:Nat→Int→(List Int)→Option (Unit)
 | 0,_,_=>none
 | k+1,x1,x2=>(if bV (((x2++[conv .u8 (aE .u64 x1 8)]).length)*1)=true then ((eF k x1 x2).bind (fun aNP=>(some ()))) else none)
def iI (k:Nat) (x1:Int) (x2:List Int):Option Unit:=((dT k x1 x2).bind (fun x4=>(some ())))
def rO:Unit:=()
def eJ:Nat→Int→(List Int)→Option (Unit)
 | 0,_,_=>none
 | k+1,x1,x2=>(some ())
def dU:Nat→Int→(List Int)→Option (Unit)
 | 0,_,_=>none
 | k+1,x1,x2=>(if bV ((((((((((x2++[conv .u8 (aE .u64 x1 56)])++[conv .u8 (aE .u64 x1 48)])++[conv .u8 (aE .u64 x1 40)])++[conv .u8 (aE .u64 x1 32)])++[conv .u8 (aE .u64 x1 24)])++[conv .u8 (aE .u64 x1 16)])++[conv .u8 (aE .u64 x1 8)])++[conv .u8 (aE .u64 x1 0)]).length)*1)=true then ((eJ k x1 x2).bind (fun aNQ=>(some ()))) else none)
def eC:Nat→Int→(List Int)→Option (Unit)
 | 0,_,_=>none
 | k+1,x1,x2=>(if bV (((((((((x2++[conv .u8 (aE .u64 x1 56)])++[conv .u8 (aE .u64 x1 48)])++[conv .u8 (aE .u64 x1 40)])++[conv .u8 (aE .u64 x1 32)])++[conv .u8 (aE .u64 x1 24)])++[conv .u8 (aE .u64 x1 16)])++[conv .u8 (aE .u64 x1 8)]).length)*1)=true then ((dU k x1 x2).bind (fun aNR=>(some ()))) else none)
def d9:Nat→Int→(List Int)→Option (Unit)
 | 0,_,_=>none
 | k+1,x1,x2=>(if bV ((((((((x2++[conv .u8 (aE .u64 x1 56)])++[conv .u8 (aE .u64 x1 48)])++[conv .u8 (aE .u64 x1 40)])++[conv .u8 (aE .u64 x1 32)])++[conv .u8 (aE .u64 x1 24)])++[conv .u8 (aE .u64 x1 16)]).length)*1)=true then ((eC k x1 x2).bind (fun aNS=>(some ()))) else none)
def eL:Nat→Int→(List Int)→Option (Unit)
 | 0,_,_=>none
 | k+1,x1,x2=>(if bV (((((((x2++[conv .u8 (aE .u64 x1 56)])++[conv .u8 (aE .u64 x1 48)])++[conv .u8 (aE .u64 x1 40)])++[conv .u8 (aE .u64 x1 32)])++[conv .u8 (aE .u64 x1 24)]).length)*1)=true then ((d9 k x1 x2).bind (fun aNT=>(some ()))) else none)
def d8:Nat→Int→(List Int)→Option (Unit)
 | 0,_,_=>none
 | k+1,x1,x2=>(if bV ((((((x2++[conv .u8 (aE .u64 x1 56)])++[conv .u8 (aE .u64 x1 48)])++[conv .u8 (aE .u64 x1 40)])++[conv .u8 (aE .u64 x1 32)]).length)*1)=true then ((eL k x1 x2).bind (fun aNU=>(some ()))) else none)
def eB:Nat→Int→(List Int)→Option (Unit)
 | 0,_,_=>none
 | k+1,x1,x2=>(if bV (((((x2++[conv .u8 (aE .u64 x1 56)])++[conv .u8 (aE .u64 x1 48)])++[conv .u8 (aE .u64 x1 40)]).length)*1)=true then ((d8 k x1 x2).bind (fun aNV=>(some ()))) else none)
def eI:Nat→Int→(List Int)→Option (Unit)
 | 0,_,_=>none
 | k+1,x1,x2=>(if bV ((((x2++[conv .u8 (aE .u64 x1 56)])++[conv .u8 (aE .u64 x1 48)]).length)*1)=true then ((eB k x1 x2).bind (fun aNW=>(some ()))) else none)
def dY:Nat→Int→(List Int)→Option (Unit)
 | 0,_,_=>none
 | k+1,x1,x2=>(if bV (((x2++[conv .u8 (aE .u64 x1 56)]).length)*1)=true then ((eI k x1 x2).bind (fun aNX=>(some ()))) else none)
def iK (k:Nat) (x1:Int) (x2:List Int):Option Unit:=((dY k x1 x2).bind (fun x4=>(some ())))
def eE:Nat→Ty6→Ty6→Ty6→Ty6→Option (Unit)
 | 0,_,_,_,_=>none
 | k+1,x1,x2,x3,x4=>(some ())
def dX:Nat→Ty6→Ty6→Ty6→Ty6→Option Ty3
 | 0,_,_,_,_=>none
 | k+1,x1,x2,x3,x4=>(if eqS x4.2 (ByteArray.mk #[])=true then ((iK k x4.1 ((([conv .u8 (aE .u64 x1.1 0)]++[conv .u8 (aE .u64 x2.1 8)])++[conv .u8 (aE .u64 x2.1 0)])++[conv .u8 (aE .u64 x3.1 0)])).bind fun aNY=>((eE k x1 x2 x3 x4).bind (fun aNZ=>(some (.inl ()))))) else (some (.inr ([],2))))
def eD:Nat→Ty6→Ty6→Ty6→Ty6→Option Ty3
 | 0,_,_,_,_=>none
 | k+1,x1,x2,x3,x4=>(if eqS x3.2 (ByteArray.mk #[])=true then (if eqI (aE .u64 x3.1 8) 0=true then ((gM k x3.1 (([conv .u8 (aE .u64 x1.1 0)]++[conv .u8 (aE .u64 x2.1 8)])++[conv .u8 (aE .u64 x2.1 0)])).bind fun aN0=>((dX k x1 x2 x3 x4).bind (fun q=>Sum.elim (fun o3=>(some (.inl ()))) (fun o3=>(some (.inr o3))) q))) else (some (.inr ([],2)))) else (some (.inr ([],2))))
def eH:Nat→Ty6→Ty6→Ty6→Ty6→Option Ty3
 | 0,_,_,_,_=>none
 | k+1,x1,x2,x3,x4=>(if eqS x2.2 (ByteArray.mk #[])=true then (if eqI (aE .u64 x2.1 16) 0=true then ((iI k x2.1 [conv .u8 (aE .u64 x1.1 0)]).bind fun aN1=>((eD k x1 x2 x3 x4).bind (fun q=>Sum.elim (fun o4=>(some (.inl ()))) (fun o4=>(some (.inr o4))) q))) else (some (.inr ([],2)))) else (some (.inr ([],2))))
def dW:Nat→Ty6→Ty6→Ty6→Ty6→Option Ty3
 | 0,_,_,_,_=>none
 | k+1,x1,x2,x3,x4=>(if eqS x1.2 (ByteArray.mk #[])=true then (if eqI (aE .u64 x1.1 8) 0=true then ((i5 k x1.1).bind fun aN2=>((eH k x1 x2 x3 x4).bind (fun q=>Sum.elim (fun o5=>(some (.inl ()))) (fun o5=>(some (.inr o5))) q))) else (some (.inr ([],2)))) else (some (.inr ([],2))))
def iH (k:Nat) (x1:Int × ByteArray) (x2:Int × ByteArray) (x3:Int × ByteArray) (x4:Int × ByteArray):Option ((List Int) × Int):=((dW k x1 x2 x3 x4).bind (fun q=>Sum.elim (fun x6=>(if ltI 4000 (nI (((((((((((([conv .u8 (aE .u64 x1.1 0)]++[conv .u8 (aE .u64 x2.1 8)])++[conv .u8 (aE .u64 x2.1 0)])++[conv .u8 (aE .u64 x3.1 0)])++[conv .u8 (aE .u64 x4.1 56)])++[conv .u8 (aE .u64 x4.1 48)])++[conv .u8 (aE .u64 x4.1 40)])++[conv .u8 (aE .u64 x4.1 32)])++[conv .u8 (aE .u64 x4.1 24)])++[conv .u8 (aE .u64 x4.1 16)])++[conv .u8 (aE .u64 x4.1 8)])++[conv .u8 (aE .u64 x4.1 0)]).length))=true then (some ([],3)) else (some (((((((((((([conv .u8 (aE .u64 x1.1 0)]++[conv .u8 (aE .u64 x2.1 8)])++[conv .u8 (aE .u64 x2.1 0)])++[conv .u8 (aE .u64 x3.1 0)])++[conv .u8 (aE .u64 x4.1 56)])++[conv .u8 (aE .u64 x4.1 48)])++[conv .u8 (aE .u64 x4.1 40)])++[conv .u8 (aE .u64 x4.1 32)])++[conv .u8 (aE .u64 x4.1 24)])++[conv .u8 (aE .u64 x4.1 16)])++[conv .u8 (aE .u64 x4.1 8)])++[conv .u8 (aE .u64 x4.1 0)]),0)))) (fun x6=>(some x6)) q))
def oU (k:Nat) (x1:Int) (x2:Int) (x3:Int) (x4:Int):Option ((List Int) × Int):=((iH k (conv .u64 x1,(ByteArray.mk #[])) (conv .u64 x2,(ByteArray.mk #[])) (conv .u64 x3,(ByteArray.mk #[])) ((gU x4),(ByteArray.mk #[]))).bind fun x5=>(some (x5.1,x5.2)))
def fU (k:Nat) (x1:List Int):Option Unit:=(if bV (x1.length*1)=true then (some ()) else none)
def kT:Unit:=()
def gI (k:Nat) (x1:List Int):Option Unit:=fU k x1
def iG (k:Nat) (x1:List Int) (x2:Int) (x3:Int) (x4:Int):Option Unit:=(if leI (cK 0 (cF x4 (nI x1.length))) x1.length=true then ((gI k (List.take (tN (cK 0 (cF x4 (nI x1.length)))) x1)).bind fun x5=>(some ())) else none)
def tX (k:Nat) (x1:List Int):Option Int:=sumP x1
def oY (k:Nat) (x1:List Int):Option ((List Int) × Int):=(if ltI 4000 (nI x1.length)=true then (some ([],3)) else (if bV ((([1,conv .u8 (aE .i64 (nI x1.length) 8),conv .u8 (nI x1.length)]++x1).length)*1)=true then ((tX k ([1,conv .u8 (aE .i64 (nI x1.length) 8),conv .u8 (nI x1.length)]++x1)).bind fun x2=>(if bV (((([1,conv .u8 (aE .i64 (nI x1.length) 8),conv .u8 (nI x1.length)]++x1)++[conv .u8 (aE .u32 x2 24),conv .u8 (aE .u32 x2 16),conv .u8 (aE .u32 x2 8),conv .u8 x2]).length)*1)=true then (some ((([1,conv .u8 (aE .i64 (nI x1.length) 8),conv .u8 (nI x1.length)]++x1)++[conv .u8 (aE .u32 x2 24),conv .u8 (aE .u32 x2 16),conv .u8 (aE .u32 x2 8),conv .u8 x2]),0)) else none)) else none))
def kB (k:Nat) (x1:List Int) (x2:Int) (x3:Int) (x4:List Int):Option ((List Int) × Int × Int × Int):=((iG k x1 x2 x3 (nI x1.length)).bind fun x5=>((oY k x4).bind fun x6=>(if eqI x6.2 0=true then (if ltI x3 (bI .i64 (nI ((List.take (tN (cK 0 (cF (nI x1.length) (nI x1.length)))) x1).length)) (nI x6.1.length))=true then (some ((List.take (tN (cK 0 (cF (nI x1.length) (nI x1.length)))) x1),cF x2 (cK 0 (cF (nI x1.length) (nI x1.length))),x3,6)) else (if bV ((((List.take (tN (cK 0 (cF (nI x1.length) (nI x1.length)))) x1)++x6.1).length)*1)=true then (some (((List.take (tN (cK 0 (cF (nI x1.length) (nI x1.length)))) x1)++x6.1),cF x2 (cK 0 (cF (nI x1.length) (nI x1.length))),x3,0)) else none)) else (some ((List.take (tN (cK 0 (cF (nI x1.length) (nI x1.length)))) x1),cF x2 (cK 0 (cF (nI x1.length) (nI x1.length))),x3,x6.2)))))
def fV (k:Nat) (x1:List Int) (x2:Int) (x3:Int) (x4:Int):Option ((List Int) × Int × Int):=(if leI (cK 0 (cF x4 (nI x1.length))) x1.length=true then ((gI k (List.take (tN (cK 0 (cF x4 (nI x1.length)))) x1)).bind fun x5=>(some ((List.take (tN (cK 0 (cF x4 (nI x1.length)))) x1),cF x2 (cK 0 (cF x4 (nI x1.length))),x3))) else none)
def mS (k:Nat) (x1:List Int) (x2:Int) (x3:Int):Option ((List Int) × Int × Int):=((fV k x1 x2 x3 (nI x1.length)).bind fun x4=>(some (x4.1,nI x4.1.length,x4.2.2)))
def mO (k:Nat) (x1:List Int) (x2:Int) (x3:Int) (x4:Int):Option ((List Int) × Int × Int):=(if eqI (bI .i64 (cK 0 (pR .i64 (nI x1.length) x2)) 1) 0=true then none else ((fV k x1 x2 x3 (bI .i64 x2 (aP .i64 (conv .i64 x4) (bI .i64 (cK 0 (pR .i64 (nI x1.length) x2)) 1)))).bind fun x5=>((mS k x5.1 x5.2.1 x5.2.2).bind fun x6=>(some (x6.1,x6.2.1,x6.2.2)))))
def oX (k:Nat) (x1:List Int):Option ((List Int) × Int × Int):=(if eqI (nI x1.length) 0=true then (some ([],0,7)) else (if inI 0 x1.length=true then ((x1[0]?).bind fun x2=>(if eqI x2 1=true then (if ltI (nI x1.length) 3=true then (some ([],0,4)) else (if inI 1 x1.length=true then ((x1[1]?).bind fun x3=>(if inI 2 x1.length=true then ((x1[2]?).bind fun x4=>(if ltI 4003 (bI .i64 (bI .i64 3 (eQ .i64 (conv .i64 x3) 8)) (conv .i64 x4))=true then (some ([],0,4)) else (if ltI (nI x1.length) (bI .i64 (bI .i64 (bI .i64 3 (eQ .i64 (conv .i64 x3) 8)) (conv .i64 x4)) 4)=true then (some ([],0,4)) else (if leI (bI .i64 (bI .i64 3 (eQ .i64 (conv .i64 x3) 8)) (conv .i64 x4)) x1.length=true then ((tX k (List.take (tN (bI .i64 (bI .i64 3 (eQ .i64 (conv .i64 x3) 8)) (conv .i64 x4))) x1)).bind fun x5=>(if aCV 4 (x1.length - (tN (bI .i64 (bI .i64 3 (eQ .i64 (conv .i64 x3) 8)) (conv .i64 x4))))=true then (((List.drop (tN (bI .i64 (bI .i64 3 (eQ .i64 (conv .i64 x3) 8)) (conv .i64 x4))) x1)[0]?).bind fun x6=>(((List.drop (tN (bI .i64 (bI .i64 3 (eQ .i64 (conv .i64 x3) 8)) (conv .i64 x4))) x1)[1]?).bind fun x7=>(((List.drop (tN (bI .i64 (bI .i64 3 (eQ .i64 (conv .i64 x3) 8)) (conv .i64 x4))) x1)[2]?).bind fun x8=>(((List.drop (tN (bI .i64 (bI .i64 3 (eQ .i64 (conv .i64 x3) 8)) (conv .i64 x4))) x1)[3]?).bind fun x9=>(if eqI x6 (conv .u8 (aE .u32 x5 24))=true then (if eqI x7 (conv .u8 (aE .u32 x5 16))=true then (if eqI x8 (conv .u8 (aE .u32 x5 8))=true then (if eqI x9 (conv .u8 x5)=true then (if leI (bI .i64 (bI .i64 3 (eQ .i64 (conv .i64 x3) 8)) (conv .i64 x4)) (tN (bI .i64 (bI .i64 3 (eQ .i64 (conv .i64 x3) 8)) (conv .i64 x4)))=true then (if leI 3 (tN (bI .i64 (bI .i64 3 (eQ .i64 (conv .i64 x3) 8)) (conv .i64 x4)))=true then (if eqN (tN (bI .i64 (bI .i64 3 (eQ .i64 (conv .i64 x3) 8)) (conv .i64 x4))) 3=true then ((gI k []).bind fun x10=>(some ([],bI .i64 (bI .i64 (bI .i64 3 (eQ .i64 (conv .i64 x3) 8)) (conv .i64 x4)) 4,0))) else ((gI k (List.take ((tN (bI .i64 (bI .i64 3 (eQ .i64 (conv .i64 x3) 8)) (conv .i64 x4))) - 3) (List.drop 3 x1))).bind fun x10=>(some ((List.take ((tN (bI .i64 (bI .i64 3 (eQ .i64 (conv .i64 x3) 8)) (conv .i64 x4))) - 3) (List.drop 3 x1)),bI .i64 (bI .i64 (bI .i64 3 (eQ .i64 (conv .i64 x3) 8)) (conv .i64 x4)) 4,0)))) else none) else none) else (some ([],0,5))) else (some ([],0,5))) else (some ([],0,5))) else (some ([],0,5))))))) else none)) else none)))) else none)) else none)) else (some ([],0,4)))) else none))
def gO:Nat→(List Int)→Int→(List (List Int))→Option (Int × (List (List Int)))
 | 0,_,_,_=>none
 | k+1,x1,cN,b5=>(if leI cN x1.length=true then ((oX k (List.drop (tN cN) x1)).bind fun dB=>(if eqI dB.2.2 0=true then (if bV (((b5++[dB.1]).length)*24)=true then (gO k x1 (bI .i64 cN dB.2.1) (b5++[dB.1])) else none) else (some (cN,b5)))) else none)
def uC (k:Nat) (x1:List Int):Option (Int × (List (List Int))):=((gO k x1 0 []).bind (fun x3=>(some (x3.1,x3.2))))
def jC (k:Nat) (x1:List Int) (x2:Int) (x3:Int):Option ((List (List Int)) × Int):=((uC k x1).bind fun x4=>(some (x4.2,x4.1)))
def eM:Nat→(List Int)→Ty4→Ty4→Ty4→Ty4→Option (Unit)
 | 0,_,_,_,_,_=>none
 | k+1,x1,aQ,aW,bF,bQ=>(some ())
def dV:Nat→(List Int)→Ty4→Ty4→Ty4→Option ((List Int) × Bool × Ty5)
 | 0,_,_,_,_=>none
 | k+1,x1,aQ,aW,bF=>((cA k 8 bF.2.1 bF.2.2).bind fun bQ=>((eM k x1 aQ aW bF bQ).bind (fun aN3=>(some (bQ.2.1,bQ.2.2,[(aQ.1,(ByteArray.mk #[])),(aW.1,(ByteArray.mk #[])),(bF.1,(ByteArray.mk #[])),(bQ.1,(ByteArray.mk #[]))])))))
def dZ:Nat→(List Int)→Ty4→Ty4→Option ((List Int) × Bool × Ty5)
 | 0,_,_,_=>none
 | k+1,x1,aQ,aW=>((cA k 1 aW.2.1 aW.2.2).bind fun bF=>((dV k x1 aQ aW bF).bind (fun nA=>(some (nA.1,nA.2.1,nA.2.2)))))
def eK:Nat→(List Int)→Ty4→Option ((List Int) × Bool × Ty5)
 | 0,_,_=>none
 | k+1,x1,aQ=>((cA k 2 aQ.2.1 aQ.2.2).bind fun aW=>((dZ k x1 aQ aW).bind (fun nB=>(some (nB.1,nB.2.1,nB.2.2)))))
def d7:Nat→(List Int)→Option ((List Int) × Bool × Ty5)
 | 0,_=>none
 | k+1,x1=>((cA k 1 x1 false).bind fun aQ=>((eK k x1 aQ).bind (fun nC=>(some (nC.1,nC.2.1,nC.2.2)))))
def iF (k:Nat) (x1:List Int):Option (Ty5 × Int):=((d7 k x1).bind (fun x3=>(if x3.2.1=true then (some ([],4)) else (if ltI 0 (nI x3.1.length)=true then (some ([],4)) else (if ltI 4000 (nI x1.length)=true then (some ([],4)) else (some (x3.2.2,0)))))))
def iU (x1:Int):Int:=conv .i64 (ixor .u64 x1 9223372036854775808)
def mV (k:Nat) (x1:List Int):Option (Int × Int × Int × Int × Int):=((iF k x1).bind fun x2=>(if eqI x2.2 0=true then (if eqI (nI x2.1.length) 4=true then (if inI 0 x2.1.length=true then ((x2.1[0]?).bind fun x3=>(if inI 1 x2.1.length=true then ((x2.1[1]?).bind fun x4=>(if inI 2 x2.1.length=true then ((x2.1[2]?).bind fun x5=>(if inI 3 x2.1.length=true then ((x2.1[3]?).bind fun x6=>(some (conv .i64 x3.1,conv .i64 x4.1,conv .u8 x5.1,(iU x6.1),0))) else none)) else none)) else none)) else none) else (some (0,0,0,0,4))) else (some (0,0,0,0,4))))
def aDT:Unit:=()
def kD (k:Nat):Option Bool:=((oU k 3 300 3 (-5)).bind fun x1=>((kB k [] 0 1000 x1.1).bind fun x2=>((mS k x2.1 x2.2.1 x2.2.2.1).bind fun x3=>((mO k x3.1 x3.2.1 x3.2.2 0).bind fun x4=>((jC k x4.1 x4.2.1 x4.2.2).bind fun x5=>(if eqI x1.2 0=true then (if eqI x2.2.2.2 0=true then (if eqI (nI x5.1.length) 1=true then (if inI 0 x5.1.length=true then ((x5.1[0]?).bind fun x6=>((mV k x6).bind fun x7=>(if eqI x7.2.2.2.2 0=true then (if eqI x7.1 3=true then (if eqI x7.2.1 300=true then (if eqI x7.2.2.1 3=true then (if eqI x7.2.2.2.1 (-5)=true then (some (!false)) else (some false)) else (some false)) else (some false)) else (some false)) else (some false)))) else none) else (some false)) else (some false)) else (some false)))))))
def aBF:Unit:=()
def m5 (x1:Int) (x2:Ty0) (x3:Ty0):Unit:=()
def gX (k:Nat) (x1:Int) (x2:Int) (x3:Ty0) (x4:Ty0):Option (Int × Int × Int × Int × ByteArray × Bool × Int):=(if ltI 0 x2=true then (if mHas x3 x1=true then ((sO x3 x1).bind fun x5=>(some (x5.1,x5.2.1,x5.2.2.1,x5.2.2.2.1,x5.2.2.2.2.1,x5.2.2.2.2.2,0))) else (some (0,0,0,0,(ByteArray.mk #[]),false,7))) else (some (0,0,0,0,(ByteArray.mk #[]),false,1)))
def eS (k:Nat) (x1:Int) (x2:Int) (x3:Int) (x4:Int) (x5:Int) (x6:ByteArray) (x7:Bool) (x8:Int) (x9:Ty0) (x10:Ty0):Option (Int × Ty0):=((gX k x1 x8 x9 x10).bind fun x11=>(if eqI x11.2.2.2.2.2.2 1=true then (some (x11.2.2.2.2.2.2,x9)) else (if eqI x11.2.2.2.2.2.2 7=true then (if ltI (nI x9.length) x8=true then (some (0,(qV x9 x1 (x2,x3,x4,x5,x6,x7)))) else (some (6,x9))) else (some (0,(qV x9 x1 (x2,x3,x4,x5,x6,x7)))))))
def o8 (x1:Ty0) (x2:Ty0):Unit:=()
def pB (x1:Ty0) (x2:Ty0):Unit:=()
def cZ (k:Nat) (x1:Int) (x2:Ty0) (x3:Ty0):Option (Int × Int × Int × Int × ByteArray × Bool × Int):=(if mHas x2 x1=true then ((sO x2 x1).bind fun x4=>(some (x4.1,x4.2.1,x4.2.2.1,x4.2.2.2.1,x4.2.2.2.2.1,x4.2.2.2.2.2,0))) else (some (0,0,0,0,(ByteArray.mk #[]),false,7)))
def cH (x1:Int) (x2:Int) (x3:Int) (x4:Int) (x5:ByteArray) (x6:Bool):Bool:=(if ltI x1 8=true then (if (bN x2 x3 x4)=true then (if ltI 500 (ssz x5)=true then false else (if eqI x3 2=true then (if eqI x4 x1=true then false else (if x6=true then (if eqS x5 (ByteArray.mk #[])=true then true else true) else (if eqS x5 (ByteArray.mk #[])=true then true else eqI x3 1))) else (if x6=true then false else (if eqS x5 (ByteArray.mk #[])=true then true else eqI x3 1)))) else false) else false)
def bA (x1:Int) (x2:Int) (x3:Int) (x4:Int):Int × Int × Int × Int:=(if (bN x1 x2 x3)=true then (if ltI x4 8=true then (if eqI x2 1=true then (if eqI x1 1048576=true then (x1,x2,x3,3) else (x1,2,x4,0)) else (x1,x2,x3,7)) else (x1,x2,x3,2)) else (x1,x2,x3,2))
def nK (k:Nat) (x1:Int) (x2:Int) (x3:Int) (x4:Int) (x5:ByteArray) (x6:Bool) (x7:Int):Option (Int × Int × Int × Int × ByteArray × Int):=(if (cH x1 x2 x3 x4 x5 x6)=true then (if eqI x7 x1=true then (some (0,0,0,0,(ByteArray.mk #[]),2)) else (if eqI ((bA x2 x3 x4 x7).2.2.2) 0=true then (some (1,x1,x7,x2,(ByteArray.mk #[]),0)) else (some (0,0,0,0,(ByteArray.mk #[]),(bA x2 x3 x4 x7).2.2.2)))) else (some (0,0,0,0,(ByteArray.mk #[]),2)))
def qF (k:Nat) (x1:Ty2):Option Int:=((gC k x1.2.1 x1.2.2.1 x1.2.2.2.1).bind fun b=>(if eqI b.2 0=true then ((gH k b.1).bind fun q=>(if (eqI q.2.2.2 0 && (eqI q.1 x1.2.1 && (eqI q.2.1 x1.2.2.1 && eqI q.2.2.1 x1.2.2.2.1)))=true then (if eqI x1.2.2.1 1=true then (if eqS x1.2.2.2.2.1 (ByteArray.mk #[99,97,114,103,111])=true then (some 1) else none) else (some 0)) else none)) else none))
def held (k:Nat) (x1:Ty0):Option Int:=((x1[0]?).bind fun a=>((x1[1]?).bind fun b=>((x1[2]?).bind fun c=>(if (eqN x1.length 3 && (eqI a.1 0 && (eqI b.1 1 && eqI c.1 2)))=true then ((qF k a.2).bind fun p=>((qF k b.2).bind fun q=>((qF k c.2).bind fun r=>(some (p+q+r))))) else none))))
def pA (x1:Ty0) (x2:Ty0):Unit:=()
def aS (x1:Int) (x2:Int) (x3:Int) (x4:Int) (x5:ByteArray) (x6:Bool):(List (Int × Int × Int × Int × ByteArray)):=(if (cH x1 x2 x3 x4 x5 x6)=true then (if x6=true then [(3,x1,x4,bI .i64 x2 1,x5)] else []) else [])
def fB (x1:Int) (x2:Int) (x3:Int) (x4:Int) (x5:ByteArray):Bool:=(if ltI x1 1=true then false else (if ltI 4 x1=true then false else (if ltI x4 1=true then false else (if ltI 1048576 x4=true then false else (if ltI x2 8=true then (if ltI x3 8=true then (if eqI x2 x3=true then false else (if eqS x5 (ByteArray.mk #[])=true then true else (if eqI x1 3=true then (!ltI 500 (ssz x5)) else false))) else false) else false)))))
def aY (x1:Int) (x2:Int) (x3:Int) (x4:Int) (x5:Int) (x6:ByteArray) (x7:Bool) (x8:Int) (x9:Int) (x10:Int) (x11:Int) (x12:ByteArray):Bool:=(if x7=true then (eqI x3 x1 && (eqI x4 2 && eqI x5 x9)) else false)
def bJ (x1:Int) (x2:Int) (x3:Int) (x4:Int):Bool:=(if (bN x1 x2 x3)=true then (if eqI x2 1=true then eqI x1 x4 else false) else false)
def bM (x1:Int) (x2:Int) (x3:Int) (x4:Int):Int × Int × Int × Int:=(if (bN x1 x2 x3)=true then (if (cO x4)=true then (if (bJ x1 x2 x3 x4)=true then (x1,x2,x3,8) else (if ltI x1 x4=true then (x4,1,0,0) else (x1,x2,x3,10))) else (x1,x2,x3,2)) else (x1,x2,x3,2))
def aR (x1:Int) (x2:Int) (x3:Int) (x4:Int) (x5:ByteArray) (x6:Bool) (x7:Int) (x8:Int) (x9:Int) (x10:Int) (x11:ByteArray):Int × Int × Int × Int × ByteArray × Bool × (List (Int × Int × Int × Int × ByteArray)) × Int:=(if eqI x7 1=true then (if ltI x2 x10=true then (x1,x2,x3,x4,x5,x6,[(2,x1,x8,x10,(ByteArray.mk #[]))],0) else (if eqI x7 2=true then (if (aY x10 x1 x2 x3 x4 x5 x6 x7 x8 x9 x10 x11)=true then (x1,x2,x3,x4,x5,x6,(aS x1 x2 x3 x4 x5 x6),0) else (if (bJ x2 x3 x4 x10)=true then (x1,(bA x2 x3 x4 x8).1,(bA x2 x3 x4 x8).2.1,(bA x2 x3 x4 x8).2.2.1,x5,true,(aS x1 ((bA x2 x3 x4 x8).1) ((bA x2 x3 x4 x8).2.1) ((bA x2 x3 x4 x8).2.2.1) x5 true),(bA x2 x3 x4 x8).2.2.2) else (if eqI x7 3=true then (x1,x2,x3,x4,x5,x6,[(4,x1,x8,x10,(ByteArray.mk #[]))],0) else (if eqI x7 4=true then (if (aY (pR .i64 x10 1) x1 x2 x3 x4 x5 x6 x7 x8 x9 x10 x11)=true then (x1,x2,x3,x4,(ByteArray.mk #[]),false,[],0) else (x1,x2,x3,x4,x5,x6,[],10)) else (x1,x2,x3,x4,x5,x6,[],10))))) else (if eqI x7 3=true then (x1,x2,x3,x4,x5,x6,[(4,x1,x8,x10,(ByteArray.mk #[]))],0) else (if eqI x7 4=true then (if (aY (pR .i64 x10 1) x1 x2 x3 x4 x5 x6 x7 x8 x9 x10 x11)=true then (x1,x2,x3,x4,(ByteArray.mk #[]),false,[],0) else (x1,x2,x3,x4,x5,x6,[],10)) else (x1,x2,x3,x4,x5,x6,[],10))))) else (if eqI x7 2=true then (if (aY x10 x1 x2 x3 x4 x5 x6 x7 x8 x9 x10 x11)=true then (x1,x2,x3,x4,x5,x6,(aS x1 x2 x3 x4 x5 x6),0) else (if (bJ x2 x3 x4 x10)=true then (x1,(bA x2 x3 x4 x8).1,(bA x2 x3 x4 x8).2.1,(bA x2 x3 x4 x8).2.2.1,x5,true,(aS x1 ((bA x2 x3 x4 x8).1) ((bA x2 x3 x4 x8).2.1) ((bA x2 x3 x4 x8).2.2.1) x5 true),(bA x2 x3 x4 x8).2.2.2) else (if eqI x7 3=true then (if ltI x2 x10=true then (x1,(bM x2 x3 x4 x10).1,(bM x2 x3 x4 x10).2.1,(bM x2 x3 x4 x10).2.2.1,x11,false,[(4,x1,x8,x10,(ByteArray.mk #[]))],(bM x2 x3 x4 x10).2.2.2) else (x1,x2,x3,x4,x5,x6,[(4,x1,x8,x10,(ByteArray.mk #[]))],0)) else (if eqI x7 4=true then (if (aY (pR .i64 x10 1) x1 x2 x3 x4 x5 x6 x7 x8 x9 x10 x11)=true then (x1,x2,x3,x4,(ByteArray.mk #[]),false,[],0) else (x1,x2,x3,x4,x5,x6,[],10)) else (x1,x2,x3,x4,x5,x6,[],10))))) else (if eqI x7 3=true then (if ltI x2 x10=true then (x1,(bM x2 x3 x4 x10).1,(bM x2 x3 x4 x10).2.1,(bM x2 x3 x4 x10).2.2.1,x11,false,[(4,x1,x8,x10,(ByteArray.mk #[]))],(bM x2 x3 x4 x10).2.2.2) else (x1,x2,x3,x4,x5,x6,[(4,x1,x8,x10,(ByteArray.mk #[]))],0)) else (if eqI x7 4=true then (if (aY (pR .i64 x10 1) x1 x2 x3 x4 x5 x6 x7 x8 x9 x10 x11)=true then (x1,x2,x3,x4,(ByteArray.mk #[]),false,[],0) else (x1,x2,x3,x4,x5,x6,[],10)) else (x1,x2,x3,x4,x5,x6,[],10)))))
def kC (k:Nat) (x1:Int) (x2:Int) (x3:Int) (x4:Int) (x5:ByteArray) (x6:Bool) (x7:Int) (x8:Int) (x9:Int) (x10:Int) (x11:ByteArray):Option (Int × Int × Int × Int × ByteArray × Bool × (List (Int × Int × Int × Int × ByteArray)) × Int):=(if (cH x1 x2 x3 x4 x5 x6)=true then (if (fB x7 x8 x9 x10 x11)=true then (if eqI x9 x1=true then (if eqI ((aR x1 x2 x3 x4 x5 x6 x7 x8 x9 x10 x11).2.2.2.2.2.2.2) 0=true then (some ((aR x1 x2 x3 x4 x5 x6 x7 x8 x9 x10 x11).1,(aR x1 x2 x3 x4 x5 x6 x7 x8 x9 x10 x11).2.1,(aR x1 x2 x3 x4 x5 x6 x7 x8 x9 x10 x11).2.2.1,(aR x1 x2 x3 x4 x5 x6 x7 x8 x9 x10 x11).2.2.2.1,(aR x1 x2 x3 x4 x5 x6 x7 x8 x9 x10 x11).2.2.2.2.1,(aR x1 x2 x3 x4 x5 x6 x7 x8 x9 x10 x11).2.2.2.2.2.1,(aR x1 x2 x3 x4 x5 x6 x7 x8 x9 x10 x11).2.2.2.2.2.2.1,0)) else (some (x1,x2,x3,x4,x5,x6,[],(aR x1 x2 x3 x4 x5 x6 x7 x8 x9 x10 x11).2.2.2.2.2.2.2))) else (some (x1,x2,x3,x4,x5,x6,[],2))) else (some (x1,x2,x3,x4,x5,x6,[],2))) else (some (x1,x2,x3,x4,x5,x6,[],2)))
def bG:Nat→(List Int)→(List Int)→Int→(List (Int × Int × Int × Int × ByteArray))→Ty0→Ty0→Option (Sum (Unit) (Bool))
 | 0,_,_,_,_,_,_=>none
 | k+1,x1,x2,aI,aH,aM,aK=>(if ltI aI (nI x1.length)=true then (if inI aI x1.length=true then ((x1[tN aI]?).bind fun aG=>(if ltI aI (nI x2.length)=true then (if inI aI x2.length=true then ((x2[tN aI]?).bind fun aD=>(if eqI (aP .u8 aD 2) 0=true then ((cZ k (conv .u8 (aP .u16 aG 3)) aK aK).bind fun aA=>(if eqI aA.2.2.2.2.2.2 0=true then (if eqI (aP .u16 (bB .u16 aG 3) 4) 0=true then ((nK k aA.1 aA.2.1 aA.2.2.1 aA.2.2.2.1 aA.2.2.2.2.1 aA.2.2.2.2.2.1 (conv .u8 (aP .u16 (bB .u16 aG 12) 3))).bind fun aC=>(if eqI aC.2.2.2.2.2 0=true then (if bV (((aH++[(aC.1,aC.2.1,aC.2.2.1,aC.2.2.2.1,aC.2.2.2.2.1)]).length)*40)=true then ((held k aK).bind fun aJ=>(if ltI 1 aJ=true then (some (.inr false)) else (if eqI (nI aK.length) 3=true then (bG k x1 x2 (bI .i64 aI 1) (aH++[(aC.1,aC.2.1,aC.2.2.1,aC.2.2.2.1,aC.2.2.2.2.1)]) aK aK) else (some (.inr false))))) else none) else ((held k aK).bind fun aJ=>(if ltI 1 aJ=true then (some (.inr false)) else (if eqI (nI aK.length) 3=true then (bG k x1 x2 (bI .i64 aI 1) aH aK aK) else (some (.inr false))))))) else (if eqI (aP .u16 (bB .u16 aG 3) 4) 1=true then (if bV (((aH++(aS aA.1 aA.2.1 aA.2.2.1 aA.2.2.2.1 aA.2.2.2.2.1 aA.2.2.2.2.2.1)).length)*40)=true then ((held k aK).bind fun aC=>(if ltI 1 aC=true then (some (.inr false)) else (if eqI (nI aK.length) 3=true then (bG k x1 x2 (bI .i64 aI 1) (aH++(aS aA.1 aA.2.1 aA.2.2.1 aA.2.2.2.1 aA.2.2.2.2.1 aA.2.2.2.2.2.1)) aK aK) else (some (.inr false))))) else none) else (if eqI (nI aH.length) 0=true then ((held k aK).bind fun aC=>(if ltI 1 aC=true then (some (.inr false)) else (if eqI (nI aK.length) 3=true then (bG k x1 x2 (bI .i64 aI 1) aH aK aK) else (some (.inr false))))) else (if inI (aP .i64 (conv .i64 (bB .u16 aG 12)) (nI aH.length)) aH.length=true then ((aH[tN (aP .i64 (conv .i64 (bB .u16 aG 12)) (nI aH.length))]?).bind fun aC=>((cZ k aC.2.2.1 aK aK).bind fun aJ=>(if eqI aJ.2.2.2.2.2.2 0=true then ((kC k aJ.1 aJ.2.1 aJ.2.2.1 aJ.2.2.2.1 aJ.2.2.2.2.1 aJ.2.2.2.2.2.1 aC.1 aC.2.1 aC.2.2.1 aC.2.2.2.1 aC.2.2.2.2).bind fun aL=>((eS k aC.2.2.1 aL.1 aL.2.1 aL.2.2.1 aL.2.2.2.1 aL.2.2.2.2.1 aL.2.2.2.2.2.1 8 aK aK).bind fun bC=>(if bV (((aH++aL.2.2.2.2.2.2.1).length)*40)=true then ((held k bC.2).bind fun jG=>(if ltI 1 jG=true then (some (.inr false)) else (if eqI (nI bC.2.length) 3=true then (bG k x1 x2 (bI .i64 aI 1) (aH++aL.2.2.2.2.2.2.1) bC.2 bC.2) else (some (.inr false))))) else none))) else (some (.inr false))))) else none)))) else (some (.inr false)))) else ((cZ k (conv .u8 (aP .u16 aG 3)) aM aK).bind fun aA=>(if eqI aA.2.2.2.2.2.2 0=true then (if eqI (aP .u16 (bB .u16 aG 3) 4) 0=true then ((nK k aA.1 aA.2.1 aA.2.2.1 aA.2.2.2.1 aA.2.2.2.2.1 aA.2.2.2.2.2.1 (conv .u8 (aP .u16 (bB .u16 aG 12) 3))).bind fun aC=>(if eqI aC.2.2.2.2.2 0=true then (if bV (((aH++[(aC.1,aC.2.1,aC.2.2.1,aC.2.2.2.1,aC.2.2.2.2.1)]).length)*40)=true then ((held k aM).bind fun aJ=>(if ltI 1 aJ=true then (some (.inr false)) else (if eqI (nI aM.length) 3=true then (bG k x1 x2 (bI .i64 aI 1) (aH++[(aC.1,aC.2.1,aC.2.2.1,aC.2.2.2.1,aC.2.2.2.2.1)]) aM aK) else (some (.inr false))))) else none) else ((held k aM).bind fun aJ=>(if ltI 1 aJ=true then (some (.inr false)) else (if eqI (nI aM.length) 3=true then (bG k x1 x2 (bI .i64 aI 1) aH aM aK) else (some (.inr false))))))) else (if eqI (aP .u16 (bB .u16 aG 3) 4) 1=true then (if bV (((aH++(aS aA.1 aA.2.1 aA.2.2.1 aA.2.2.2.1 aA.2.2.2.2.1 aA.2.2.2.2.2.1)).length)*40)=true then ((held k aM).bind fun aC=>(if ltI 1 aC=true then (some (.inr false)) else (if eqI (nI aM.length) 3=true then (bG k x1 x2 (bI .i64 aI 1) (aH++(aS aA.1 aA.2.1 aA.2.2.1 aA.2.2.2.1 aA.2.2.2.2.1 aA.2.2.2.2.2.1)) aM aK) else (some (.inr false))))) else none) else (if eqI (nI aH.length) 0=true then ((held k aM).bind fun aC=>(if ltI 1 aC=true then (some (.inr false)) else (if eqI (nI aM.length) 3=true then (bG k x1 x2 (bI .i64 aI 1) aH aM aK) else (some (.inr false))))) else (if inI (aP .i64 (conv .i64 (bB .u16 aG 12)) (nI aH.length)) aH.length=true then ((aH[tN (aP .i64 (conv .i64 (bB .u16 aG 12)) (nI aH.length))]?).bind fun aC=>((cZ k aC.2.2.1 aM aK).bind fun aJ=>(if eqI aJ.2.2.2.2.2.2 0=true then ((kC k aJ.1 aJ.2.1 aJ.2.2.1 aJ.2.2.2.1 aJ.2.2.2.2.1 aJ.2.2.2.2.2.1 aC.1 aC.2.1 aC.2.2.1 aC.2.2.2.1 aC.2.2.2.2).bind fun aL=>((eS k aC.2.2.1 aL.1 aL.2.1 aL.2.2.1 aL.2.2.2.1 aL.2.2.2.2.1 aL.2.2.2.2.2.1 8 aM aK).bind fun bC=>(if bV (((aH++aL.2.2.2.2.2.2.1).length)*40)=true then ((held k bC.2).bind fun jG=>(if ltI 1 jG=true then (some (.inr false)) else (if eqI (nI bC.2.length) 3=true then (bG k x1 x2 (bI .i64 aI 1) (aH++aL.2.2.2.2.2.2.1) bC.2 bC.2) else (some (.inr false))))) else none))) else (some (.inr false))))) else none)))) else (some (.inr false)))))) else none) else ((cZ k (conv .u8 (aP .u16 aG 3)) aM aK).bind fun aD=>(if eqI aD.2.2.2.2.2.2 0=true then (if eqI (aP .u16 (bB .u16 aG 3) 4) 0=true then ((nK k aD.1 aD.2.1 aD.2.2.1 aD.2.2.2.1 aD.2.2.2.2.1 aD.2.2.2.2.2.1 (conv .u8 (aP .u16 (bB .u16 aG 12) 3))).bind fun aA=>(if eqI aA.2.2.2.2.2 0=true then (if bV (((aH++[(aA.1,aA.2.1,aA.2.2.1,aA.2.2.2.1,aA.2.2.2.2.1)]).length)*40)=true then ((held k aM).bind fun aC=>(if ltI 1 aC=true then (some (.inr false)) else (if eqI (nI aM.length) 3=true then (bG k x1 x2 (bI .i64 aI 1) (aH++[(aA.1,aA.2.1,aA.2.2.1,aA.2.2.2.1,aA.2.2.2.2.1)]) aM aK) else (some (.inr false))))) else none) else ((held k aM).bind fun aC=>(if ltI 1 aC=true then (some (.inr false)) else (if eqI (nI aM.length) 3=true then (bG k x1 x2 (bI .i64 aI 1) aH aM aK) else (some (.inr false))))))) else (if eqI (aP .u16 (bB .u16 aG 3) 4) 1=true then (if bV (((aH++(aS aD.1 aD.2.1 aD.2.2.1 aD.2.2.2.1 aD.2.2.2.2.1 aD.2.2.2.2.2.1)).length)*40)=true then ((held k aM).bind fun aA=>(if ltI 1 aA=true then (some (.inr false)) else (if eqI (nI aM.length) 3=true then (bG k x1 x2 (bI .i64 aI 1) (aH++(aS aD.1 aD.2.1 aD.2.2.1 aD.2.2.2.1 aD.2.2.2.2.1 aD.2.2.2.2.2.1)) aM aK) else (some (.inr false))))) else none) else (if eqI (nI aH.length) 0=true then ((held k aM).bind fun aA=>(if ltI 1 aA=true then (some (.inr false)) else (if eqI (nI aM.length) 3=true then (bG k x1 x2 (bI .i64 aI 1) aH aM aK) else (some (.inr false))))) else (if inI (aP .i64 (conv .i64 (bB .u16 aG 12)) (nI aH.length)) aH.length=true then ((aH[tN (aP .i64 (conv .i64 (bB .u16 aG 12)) (nI aH.length))]?).bind fun aA=>((cZ k aA.2.2.1 aM aK).bind fun aC=>(if eqI aC.2.2.2.2.2.2 0=true then ((kC k aC.1 aC.2.1 aC.2.2.1 aC.2.2.2.1 aC.2.2.2.2.1 aC.2.2.2.2.2.1 aA.1 aA.2.1 aA.2.2.1 aA.2.2.2.1 aA.2.2.2.2).bind fun aJ=>((eS k aA.2.2.1 aJ.1 aJ.2.1 aJ.2.2.1 aJ.2.2.2.1 aJ.2.2.2.2.1 aJ.2.2.2.2.2.1 8 aM aK).bind fun aL=>(if bV (((aH++aJ.2.2.2.2.2.2.1).length)*40)=true then ((held k aL.2).bind fun bC=>(if ltI 1 bC=true then (some (.inr false)) else (if eqI (nI aL.2.length) 3=true then (bG k x1 x2 (bI .i64 aI 1) (aH++aJ.2.2.2.2.2.2.1) aL.2 aL.2) else (some (.inr false))))) else none))) else (some (.inr false))))) else none)))) else (some (.inr false)))))) else none) else (some (.inl ())))
def cC:Nat→(List Int)→(List Int)→Int→Ty0→Option (Ty0)
 | 0,_,_,_,_=>none
 | k+1,x1,x2,cM,eV=>(if ltI cM 3=true then (if eqI cM 0=true then ((eS k cM cM 1 1 0 (ByteArray.mk #[99,97,114,103,111]) false 8 eV ([]:Ty0)).bind fun jH=>(cC k x1 x2 (bI .u8 cM 1) jH.2)) else ((eS k cM cM 0 0 0 (ByteArray.mk #[]) false 8 eV ([]:Ty0)).bind fun jH=>(cC k x1 x2 (bI .u8 cM 1) jH.2))) else (some eV))
def gZ (k:Nat) (x1:List Int) (x2:List Int):Option Bool:=(if ltI 200 (nI x1.length)=true then ((kD k).bind fun x3=>(some x3)) else ((kD k).bind fun x3=>(if x3=true then ((cC k x1 x2 0 ([]:Ty0)).bind (fun x5=>((bG k x1 x2 0 [] x5 x5).bind (fun q=>Sum.elim (fun x7=>(some true)) (fun x7=>(some x7)) q)))) else ((kD k).bind fun x4=>(some x4)))))
end Go.Ws
