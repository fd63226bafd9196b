/-
  The functions as plain Lean functions. (Printed by my own program.)
  Conditions: none.
-/
import Derived.Test.YtpaekffehfdmgaaGreatDoorZB2
import Derived.Test.YtpaekffehfdmgaaGreatDoorZSumDef
import Derived.Test.YtpaekffehfdmgaaGreatDoorZOppDef
set_option linter.unusedVariables false
set_option linter.unusedSimpArgs false
namespace Go.Ws
abbrev g7:=Int × ByteArray
abbrev aM:=List (Int × Int)
abbrev Ty10:=Int × Int × Bool
abbrev Ty9:=Int × Int × Int × Int
abbrev Ty8:=List Ty10
abbrev Ty7:=List Ty9
abbrev Ty6:=Int × aM × Bool × Int
abbrev Ty5:=Int × Ty6
abbrev Ty4:=List Ty5
abbrev Ty3:=Sum (aM × Ty8 × Ty4 × Ty7) (Unit)
abbrev Ty2:=Int × aM × Ty8 × (List Int) × Int × Int × Ty4 × Ty7
abbrev Ty1:=Sum Ty2 (Bool)
abbrev Ty0:=Sum (aM × Ty8 × Ty4 × Ty7) (Ty3)
set_option linter.unusedVariables false
def kF (x1:Int):Int:=ixor .u64 (conv .u64 x1) 9223372036854775808
def aBB:Unit:=()
def aE7:Unit:=()
def f4:Nat→Int→Option (Unit)
 | 0,_=>none
 | k+1,x1=>(some ())
def gI:Nat→Int→Option (Unit)
 | 0,_=>none
 | k+1,x1=>((f4 k x1).bind (fun aQ2=>(some ())))
def rM (k:Nat) (x1:Int):Option Unit:=((gI k x1).bind (fun x3=>(some ())))
def zL:Unit:=()
def eE:Nat→Int→(List Int)→Option (Unit)
 | 0,_,_=>none
 | k+1,x1,x2=>(some ())
def eR:Nat→Int→(List Int)→Option (Unit)
 | 0,_,_=>none
 | k+1,x1,x2=>(if bT ((((x2++[conv .u8 (aA .u64 x1 8)])++[conv .u8 (aA .u64 x1 0)]).length)*1)=true then ((eE k x1 x2).bind (fun aMZ=>(some ()))) else none)
def eH:Nat→Int→(List Int)→Option (Unit)
 | 0,_,_=>none
 | k+1,x1,x2=>(if bT (((x2++[conv .u8 (aA .u64 x1 8)]).length)*1)=true then ((eR k x1 x2).bind (fun aM0=>(some ()))) else none)
def nD (k:Nat) (x1:Int) (x2:List Int):Option Unit:=((eH k x1 x2).bind (fun x4=>(some ())))
def eQ:Nat→Int→(List Int)→Option (Unit)
 | 0,_,_=>none
 | k+1,x1,x2=>(some ())
def eD:Nat→Int→(List Int)→Option (Unit)
 | 0,_,_=>none
 | k+1,x1,x2=>(if bT (((x2++[conv .u8 (aA .u64 x1 0)]).length)*1)=true then ((eQ k x1 x2).bind (fun aM1=>(some ()))) else none)
def nG (k:Nat) (x1:Int) (x2:List Int):Option Unit:=((eD k x1 x2).bind (fun x4=>(some ())))
def zQ:Unit:=()
def eJ:Nat→Int→(List Int)→Option (Unit)
 | 0,_,_=>none
 | k+1,x1,x2=>(some ())
def eN:Nat→Int→(List Int)→Option (Unit)
 | 0,_,_=>none
 | k+1,x1,x2=>(if bT ((((((((((x2++[conv .u8 (aA .u64 x1 56)])++[conv .u8 (aA .u64 x1 48)])++[conv .u8 (aA .u64 x1 40)])++[conv .u8 (aA .u64 x1 32)])++[conv .u8 (aA .u64 x1 24)])++[conv .u8 (aA .u64 x1 16)])++[conv .u8 (aA .u64 x1 8)])++[conv .u8 (aA .u64 x1 0)]).length)*1)=true then ((eJ k x1 x2).bind (fun aM2=>(some ()))) else none)
def eP:Nat→Int→(List Int)→Option (Unit)
 | 0,_,_=>none
 | k+1,x1,x2=>(if bT (((((((((x2++[conv .u8 (aA .u64 x1 56)])++[conv .u8 (aA .u64 x1 48)])++[conv .u8 (aA .u64 x1 40)])++[conv .u8 (aA .u64 x1 32)])++[conv .u8 (aA .u64 x1 24)])++[conv .u8 (aA .u64 x1 16)])++[conv .u8 (aA .u64 x1 8)]).length)*1)=true then ((eN k x1 x2).bind (fun aM3=>(some ()))) else none)
def eO:Nat→Int→(List Int)→Option (Unit)
 | 0,_,_=>none
 | k+1,x1,x2=>(if bT ((((((((x2++[conv .u8 (aA .u64 x1 56)])++[conv .u8 (aA .u64 x1 48)])++[conv .u8 (aA .u64 x1 40)])++[conv .u8 (aA .u64 x1 32)])++[conv .u8 (aA .u64 x1 24)])++[conv .u8 (aA .u64 x1 16)]).length)*1)=true then ((eP k x1 x2).bind (fun aM4=>(some ()))) else none)
def eF:Nat→Int→(List Int)→Option (Unit)
 | 0,_,_=>none
 | k+1,x1,x2=>(if bT (((((((x2++[conv .u8 (aA .u64 x1 56)])++[conv .u8 (aA .u64 x1 48)])++[conv .u8 (aA .u64 x1 40)])++[conv .u8 (aA .u64 x1 32)])++[conv .u8 (aA .u64 x1 24)]).length)*1)=true then ((eO k x1 x2).bind (fun aM5=>(some ()))) else none)
def eL:Nat→Int→(List Int)→Option (Unit)
 | 0,_,_=>none
 | k+1,x1,x2=>(if bT ((((((x2++[conv .u8 (aA .u64 x1 56)])++[conv .u8 (aA .u64 x1 48)])++[conv .u8 (aA .u64 x1 40)])++[conv .u8 (aA .u64 x1 32)]).length)*1)=true then ((eF k x1 x2).bind (fun aM6=>(some ()))) else none)
def eI:Nat→Int→(List Int)→Option (Unit)
 | 0,_,_=>none
 | k+1,x1,x2=>(if bT (((((x2++[conv .u8 (aA .u64 x1 56)])++[conv .u8 (aA .u64 x1 48)])++[conv .u8 (aA .u64 x1 40)]).length)*1)=true then ((eL k x1 x2).bind (fun aM7=>(some ()))) else none)
def eM:Nat→Int→(List Int)→Option (Unit)
 | 0,_,_=>none
 | k+1,x1,x2=>(if bT ((((x2++[conv .u8 (aA .u64 x1 56)])++[conv .u8 (aA .u64 x1 48)]).length)*1)=true then ((eI k x1 x2).bind (fun aM8=>(some ()))) else none)
def eG:Nat→Int→(List Int)→Option (Unit)
 | 0,_,_=>none
 | k+1,x1,x2=>(if bT (((x2++[conv .u8 (aA .u64 x1 56)]).length)*1)=true then ((eM k x1 x2).bind (fun aM9=>(some ()))) else none)
def nB (k:Nat) (x1:Int) (x2:List Int):Option Unit:=((eG k x1 x2).bind (fun x4=>(some ())))
def fT:Nat→g7→g7→g7→g7→Option (Unit)
 | 0,_,_,_,_=>none
 | k+1,x1,x2,x3,x4=>(some ())
def gE:Nat→g7→g7→g7→g7→Option (Sum (Unit) ((List Int) × Int))
 | 0,_,_,_,_=>none
 | k+1,x1,x2,x3,x4=>(if eqS x4.2 (ByteArray.mk #[])=true then ((nB k x4.1 ((([conv .u8 (aA .u64 x1.1 0)]++[conv .u8 (aA .u64 x2.1 8)])++[conv .u8 (aA .u64 x2.1 0)])++[conv .u8 (aA .u64 x3.1 0)])).bind fun aQ3=>((fT k x1 x2 x3 x4).bind (fun aQ4=>(some (.inl ()))))) else (some (.inr ([],2))))
def gH:Nat→g7→g7→g7→g7→Option (Sum (Unit) ((List Int) × Int))
 | 0,_,_,_,_=>none
 | k+1,x1,x2,x3,x4=>(if eqS x3.2 (ByteArray.mk #[])=true then (if eqI (aA .u64 x3.1 8) 0=true then ((nG k x3.1 (([conv .u8 (aA .u64 x1.1 0)]++[conv .u8 (aA .u64 x2.1 8)])++[conv .u8 (aA .u64 x2.1 0)])).bind fun aQ5=>((gE k x1 x2 x3 x4).bind (fun q=>Sum.elim (fun sQ=>(some (.inl ()))) (fun sQ=>(some (.inr sQ))) q))) else (some (.inr ([],2)))) else (some (.inr ([],2))))
def fX:Nat→g7→g7→g7→g7→Option (Sum (Unit) ((List Int) × Int))
 | 0,_,_,_,_=>none
 | k+1,x1,x2,x3,x4=>(if eqS x2.2 (ByteArray.mk #[])=true then (if eqI (aA .u64 x2.1 16) 0=true then ((nD k x2.1 [conv .u8 (aA .u64 x1.1 0)]).bind fun aQ6=>((gH k x1 x2 x3 x4).bind (fun q=>Sum.elim (fun sR=>(some (.inl ()))) (fun sR=>(some (.inr sR))) q))) else (some (.inr ([],2)))) else (some (.inr ([],2))))
def gC:Nat→g7→g7→g7→g7→Option (Sum (Unit) ((List Int) × Int))
 | 0,_,_,_,_=>none
 | k+1,x1,x2,x3,x4=>(if eqS x1.2 (ByteArray.mk #[])=true then (if eqI (aA .u64 x1.1 8) 0=true then ((rM k x1.1).bind fun aQ7=>((fX k x1 x2 x3 x4).bind (fun q=>Sum.elim (fun sS=>(some (.inl ()))) (fun sS=>(some (.inr sS))) q))) else (some (.inr ([],2)))) else (some (.inr ([],2))))
def rN (k:Nat) (x1:Int × ByteArray) (x2:Int × ByteArray) (x3:Int × ByteArray) (x4:Int × ByteArray):Option ((List Int) × Int):=((gC k x1 x2 x3 x4).bind (fun q=>Sum.elim (fun x6=>(if ltI 4000 (nI (((((((((((([conv .u8 (aA .u64 x1.1 0)]++[conv .u8 (aA .u64 x2.1 8)])++[conv .u8 (aA .u64 x2.1 0)])++[conv .u8 (aA .u64 x3.1 0)])++[conv .u8 (aA .u64 x4.1 56)])++[conv .u8 (aA .u64 x4.1 48)])++[conv .u8 (aA .u64 x4.1 40)])++[conv .u8 (aA .u64 x4.1 32)])++[conv .u8 (aA .u64 x4.1 24)])++[conv .u8 (aA .u64 x4.1 16)])++[conv .u8 (aA .u64 x4.1 8)])++[conv .u8 (aA .u64 x4.1 0)]).length))=true then (some ([],3)) else (some (((((((((((([conv .u8 (aA .u64 x1.1 0)]++[conv .u8 (aA .u64 x2.1 8)])++[conv .u8 (aA .u64 x2.1 0)])++[conv .u8 (aA .u64 x3.1 0)])++[conv .u8 (aA .u64 x4.1 56)])++[conv .u8 (aA .u64 x4.1 48)])++[conv .u8 (aA .u64 x4.1 40)])++[conv .u8 (aA .u64 x4.1 32)])++[conv .u8 (aA .u64 x4.1 24)])++[conv .u8 (aA .u64 x4.1 16)])++[conv .u8 (aA .u64 x4.1 8)])++[conv .u8 (aA .u64 x4.1 0)]),0)))) (fun x6=>(some x6)) q))
def oW (k:Nat) (x1:Int) (x2:Int) (x3:Int) (x4:Int):Option ((List Int) × Int):=((rN k (conv .u64 x1,(ByteArray.mk #[])) (conv .u64 x2,(ByteArray.mk #[])) (conv .u64 x3,(ByteArray.mk #[])) ((kF x4),(ByteArray.mk #[]))).bind fun x5=>(some (x5.1,x5.2)))
def jN (k:Nat) (x1:List Int):Option Unit:=(if bT (x1.length*1)=true then (some ()) else none)
def sJ:Unit:=()
def kW (k:Nat) (x1:List Int):Option Unit:=jN k x1
def nH (k:Nat) (x1:List Int) (x2:Int) (x3:Int) (x4:Int):Option Unit:=(if leI (dO 0 (dG x4 (nI x1.length))) x1.length=true then ((kW k (List.take (tN (dO 0 (dG x4 (nI x1.length)))) x1)).bind fun x5=>(some ())) else none)
def aCU (k:Nat) (x1:List Int):Option Int:=sumP x1
def wA (k:Nat) (x1:List Int):Option ((List Int) × Int):=(if ltI 4000 (nI x1.length)=true then (some ([],3)) else (if bT ((([1,conv .u8 (aA .i64 (nI x1.length) 8),conv .u8 (nI x1.length)]++x1).length)*1)=true then ((aCU k ([1,conv .u8 (aA .i64 (nI x1.length) 8),conv .u8 (nI x1.length)]++x1)).bind fun x2=>(if bT (((([1,conv .u8 (aA .i64 (nI x1.length) 8),conv .u8 (nI x1.length)]++x1)++[conv .u8 (aA .u32 x2 24),conv .u8 (aA .u32 x2 16),conv .u8 (aA .u32 x2 8),conv .u8 x2]).length)*1)=true then (some ((([1,conv .u8 (aA .i64 (nI x1.length) 8),conv .u8 (nI x1.length)]++x1)++[conv .u8 (aA .u32 x2 24),conv .u8 (aA .u32 x2 16),conv .u8 (aA .u32 x2 8),conv .u8 x2]),0)) else none)) else none))
def kY (k:Nat) (x1:List Int) (x2:Int) (x3:Int) (x4:List Int):Option ((List Int) × Int × Int × Int):=((nH k x1 x2 x3 (nI x1.length)).bind fun x5=>((wA k x4).bind fun x6=>(if eqI x6.2 0=true then (if ltI x3 (aH .i64 (nI ((List.take (tN (dO 0 (dG (nI x1.length) (nI x1.length)))) x1).length)) (nI x6.1.length))=true then (some ((List.take (tN (dO 0 (dG (nI x1.length) (nI x1.length)))) x1),dG x2 (dO 0 (dG (nI x1.length) (nI x1.length))),x3,6)) else (if bT ((((List.take (tN (dO 0 (dG (nI x1.length) (nI x1.length)))) x1)++x6.1).length)*1)=true then (some (((List.take (tN (dO 0 (dG (nI x1.length) (nI x1.length)))) x1)++x6.1),dG x2 (dO 0 (dG (nI x1.length) (nI x1.length))),x3,0)) else none)) else (some ((List.take (tN (dO 0 (dG (nI x1.length) (nI x1.length)))) x1),dG x2 (dO 0 (dG (nI x1.length) (nI x1.length))),x3,x6.2)))))
def jQ (k:Nat) (x1:List Int) (x2:Int) (x3:Int) (x4:Int):Option ((List Int) × Int × Int):=(if leI (dO 0 (dG x4 (nI x1.length))) x1.length=true then ((kW k (List.take (tN (dO 0 (dG x4 (nI x1.length)))) x1)).bind fun x5=>(some ((List.take (tN (dO 0 (dG x4 (nI x1.length)))) x1),dG x2 (dO 0 (dG x4 (nI x1.length))),x3))) else none)
def nC (k:Nat) (x1:List Int) (x2:Int) (x3:Int):Option ((List Int) × Int × Int):=((jQ k x1 x2 x3 (nI x1.length)).bind fun x4=>(some (x4.1,nI x4.1.length,x4.2.2)))
def qL (k:Nat) (x1:List Int) (x2:Int) (x3:Int) (x4:Int):Option ((List Int) × Int × Int):=(if eqI (aH .i64 (dO 0 (vS .i64 (nI x1.length) x2)) 1) 0=true then none else ((jQ k x1 x2 x3 (aH .i64 x2 (gK .i64 (conv .i64 x4) (aH .i64 (dO 0 (vS .i64 (nI x1.length) x2)) 1)))).bind fun x5=>((nC k x5.1 x5.2.1 x5.2.2).bind fun x6=>(some (x6.1,x6.2.1,x6.2.2)))))
def vX (k:Nat) (x1:List Int):Option ((List Int) × Int × Int):=(if eqI (nI x1.length) 0=true then (some ([],0,7)) else (if inI 0 x1.length=true then ((x1[0]?).bind fun x2=>(if eqI x2 1=true then (if ltI (nI x1.length) 3=true then (some ([],0,4)) else (if inI 1 x1.length=true then ((x1[1]?).bind fun x3=>(if inI 2 x1.length=true then ((x1[2]?).bind fun x4=>(if ltI 4003 (aH .i64 (aH .i64 3 (gL .i64 (conv .i64 x3) 8)) (conv .i64 x4))=true then (some ([],0,4)) else (if ltI (nI x1.length) (aH .i64 (aH .i64 (aH .i64 3 (gL .i64 (conv .i64 x3) 8)) (conv .i64 x4)) 4)=true then (some ([],0,4)) else (if leI (aH .i64 (aH .i64 3 (gL .i64 (conv .i64 x3) 8)) (conv .i64 x4)) x1.length=true then ((aCU k (List.take (tN (aH .i64 (aH .i64 3 (gL .i64 (conv .i64 x3) 8)) (conv .i64 x4))) x1)).bind fun x5=>(if qV 4 (x1.length - (tN (aH .i64 (aH .i64 3 (gL .i64 (conv .i64 x3) 8)) (conv .i64 x4))))=true then (((List.drop (tN (aH .i64 (aH .i64 3 (gL .i64 (conv .i64 x3) 8)) (conv .i64 x4))) x1)[0]?).bind fun x6=>(((List.drop (tN (aH .i64 (aH .i64 3 (gL .i64 (conv .i64 x3) 8)) (conv .i64 x4))) x1)[1]?).bind fun x7=>(((List.drop (tN (aH .i64 (aH .i64 3 (gL .i64 (conv .i64 x3) 8)) (conv .i64 x4))) x1)[2]?).bind fun x8=>(((List.drop (tN (aH .i64 (aH .i64 3 (gL .i64 (conv .i64 x3) 8)) (conv .i64 x4))) x1)[3]?).bind fun x9=>(if eqI x6 (conv .u8 (aA .u32 x5 24))=true then (if eqI x7 (conv .u8 (aA .u32 x5 16))=true then (if eqI x8 (conv .u8 (aA .u32 x5 8))=true then (if eqI x9 (conv .u8 x5)=true then (if leI (aH .i64 (aH .i64 3 (gL .i64 (conv .i64 x3) 8)) (conv .i64 x4)) (tN (aH .i64 (aH .i64 3 (gL .i64 (conv .i64 x3) 8)) (conv .i64 x4)))=true then (if leI 3 (tN (aH .i64 (aH .i64 3 (gL .i64 (conv .i64 x3) 8)) (conv .i64 x4)))=true then (if eqN (tN (aH .i64 (aH .i64 3 (gL .i64 (conv .i64 x3) 8)) (conv .i64 x4))) 3=true then ((kW k []).bind fun x10=>(some ([],aH .i64 (aH .i64 (aH .i64 3 (gL .i64 (conv .i64 x3) 8)) (conv .i64 x4)) 4,0))) else ((kW k (List.take ((tN (aH .i64 (aH .i64 3 (gL .i64 (conv .i64 x3) 8)) (conv .i64 x4))) - 3) (List.drop 3 x1))).bind fun x10=>(some ((List.take ((tN (aH .i64 (aH .i64 3 (gL .i64 (conv .i64 x3) 8)) (conv .i64 x4))) - 3) (List.drop 3 x1)),aH .i64 (aH .i64 (aH .i64 3 (gL .i64 (conv .i64 x3) 8)) (conv .i64 x4)) 4,0)))) else none) else none) else (some ([],0,5))) else (some ([],0,5))) else (some ([],0,5))) else (some ([],0,5))))))) else none)) else none)))) else none)) else none)) else (some ([],0,4)))) else none))
def jR:Nat→(List Int)→Int→(List (List Int))→Option (Int × (List (List Int)))
 | 0,_,_,_=>none
 | k+1,x1,cT,bI=>(if leI cT x1.length=true then ((vX k (List.drop (tN cT) x1)).bind fun dH=>(if eqI dH.2.2 0=true then (if bT (((bI++[dH.1]).length)*24)=true then (jR k x1 (aH .i64 cT dH.2.1) (bI++[dH.1])) else none) else (some (cT,bI)))) else none)
def aCG (k:Nat) (x1:List Int):Option (Int × (List (List Int))):=((jR k x1 0 []).bind (fun x3=>(some (x3.1,x3.2))))
def mJ (k:Nat) (x1:List Int) (x2:Int) (x3:Int):Option ((List (List Int)) × Int):=((aCG k x1).bind fun x4=>(some (x4.2,x4.1)))
def kD (k:Nat) (x1:Int) (x2:List Int) (x3:Bool):Option ((List Int) × (List Int) × Bool):=(if x3=true then (some ([],x2,true)) else (if ltI (nI x2.length) x1=true then (some ([],x2,true)) else (if leI x1 x2.length=true then (some ((List.take (tN x1) x2),(List.drop (tN x1) x2),x3)) else none)))
def cF:Nat→(List Int)→Bool→((List Int) × (List Int) × Bool)→Int→Int→Option (Int)
 | 0,_,_,_,_,_=>none
 | k+1,x2,x3,x4,eT,dI=>(if ltI dI (nI x4.1.length)=true then (if inI dI x4.1.length=true then ((x4.1[tN dI]?).bind fun zH=>(cF k x2 x3 x4 (ior .u64 (gL .u64 eT 8) (conv .u64 zH)) (aH .i64 dI 1))) else none) else (some eT))
def fB (k:Nat) (x1:Int) (x2:List Int) (x3:Bool):Option (Int × (List Int) × Bool):=((kD k x1 x2 x3).bind fun x4=>((cF k x2 x3 x4 0 0).bind (fun x6=>(some (x6,x4.2.1,x4.2.2)))))
def gF:Nat→(List Int)→(Int × (List Int) × Bool)→(Int × (List Int) × Bool)→(Int × (List Int) × Bool)→(Int × (List Int) × Bool)→Option (Unit)
 | 0,_,_,_,_,_=>none
 | k+1,x1,aI,aK,aO,bB=>(some ())
def fY:Nat→(List Int)→(Int × (List Int) × Bool)→(Int × (List Int) × Bool)→(Int × (List Int) × Bool)→Option ((List Int) × Bool × (List g7))
 | 0,_,_,_,_=>none
 | k+1,x1,aI,aK,aO=>((fB k 8 aO.2.1 aO.2.2).bind fun bB=>((gF k x1 aI aK aO bB).bind (fun aQ8=>(some (bB.2.1,bB.2.2,[(aI.1,(ByteArray.mk #[])),(aK.1,(ByteArray.mk #[])),(aO.1,(ByteArray.mk #[])),(bB.1,(ByteArray.mk #[]))])))))
def fZ:Nat→(List Int)→(Int × (List Int) × Bool)→(Int × (List Int) × Bool)→Option ((List Int) × Bool × (List g7))
 | 0,_,_,_=>none
 | k+1,x1,aI,aK=>((fB k 1 aK.2.1 aK.2.2).bind fun aO=>((fY k x1 aI aK aO).bind (fun oQ=>(some (oQ.1,oQ.2.1,oQ.2.2)))))
def fU:Nat→(List Int)→(Int × (List Int) × Bool)→Option ((List Int) × Bool × (List g7))
 | 0,_,_=>none
 | k+1,x1,aI=>((fB k 2 aI.2.1 aI.2.2).bind fun aK=>((fZ k x1 aI aK).bind (fun oR=>(some (oR.1,oR.2.1,oR.2.2)))))
def gA:Nat→(List Int)→Option ((List Int) × Bool × (List g7))
 | 0,_=>none
 | k+1,x1=>((fB k 1 x1 false).bind fun aI=>((fU k x1 aI).bind (fun oS=>(some (oS.1,oS.2.1,oS.2.2)))))
def rA (k:Nat) (x1:List Int):Option ((List g7) × Int):=((gA k x1).bind (fun x3=>(if x3.2.1=true then (some ([],4)) else (if ltI 0 (nI x3.1.length)=true then (some ([],4)) else (if ltI 4000 (nI x1.length)=true then (some ([],4)) else (some (x3.2.2,0)))))))
def kZ (x1:Int):Int:=conv .i64 (ixor .u64 x1 9223372036854775808)
def qM (k:Nat) (x1:List Int):Option (Int × Int × Int × Int × Int):=((rA k x1).bind fun x2=>(if eqI x2.2 0=true then (if eqI (nI x2.1.length) 4=true then (if inI 0 x2.1.length=true then ((x2.1[0]?).bind fun x3=>(if inI 1 x2.1.length=true then ((x2.1[1]?).bind fun x4=>(if inI 2 x2.1.length=true then ((x2.1[2]?).bind fun x5=>(if inI 3 x2.1.length=true then ((x2.1[3]?).bind fun x6=>(some (conv .i64 x3.1,conv .i64 x4.1,conv .u8 x5.1,(kZ x6.1),0))) else none)) else none)) else none)) else none) else (some (0,0,0,0,4))) else (some (0,0,0,0,4))))
def aJV:Unit:=()
def rE (k:Nat):Option Bool:=((oW k 3 300 3 (-5)).bind fun x1=>((kY k [] 0 1000 x1.1).bind fun x2=>((nC k x2.1 x2.2.1 x2.2.2.1).bind fun x3=>((qL k x3.1 x3.2.1 x3.2.2 0).bind fun x4=>((mJ k x4.1 x4.2.1 x4.2.2).bind fun x5=>(if eqI x1.2 0=true then (if eqI x2.2.2.2 0=true then (if eqI (nI x5.1.length) 1=true then (if inI 0 x5.1.length=true then ((x5.1[0]?).bind fun x6=>((qM k x6).bind fun x7=>(if eqI x7.2.2.2.2 0=true then (if eqI x7.1 3=true then (if eqI x7.2.1 300=true then (if eqI x7.2.2.1 3=true then (if eqI x7.2.2.2.1 (-5)=true then (some (!false)) else (some false)) else (some false)) else (some false)) else (some false)) else (some false)))) else none) else (some false)) else (some false)) else (some false)))))))
def hU (k:Nat) (x1:Ty8):Option Unit:=(if bT (x1.length*24)=true then (some ()) else none)
def oD:Unit:=()
def kS (k:Nat) (x1:Ty8):Option Unit:=hU k x1
def iP (x1:Int) (x2:Int):Bool:=(if ltI x2 64=true then (if ltI x1 0=true then false else ltI x1 1000) else false)
def iS (x1:Int):Bool:=(!eqI x1 x1)
def bC (x1:Int) (x2:Int):Int:=(if (iS x1)=true then (if (iS x2)=true then 0 else (-1)) else (if (iS x2)=true then 1 else (if ltI x1 x2=true then (-1) else (if ltI x2 x1=true then 1 else 0))))
def eW (x1:Int):Bool:=(!eqI x1 x1)
def dC (x1:Int) (x2:Int):Int:=(if (eW x1)=true then (if (eW x2)=true then 0 else (-1)) else (if (eW x2)=true then 1 else (if ltI x1 x2=true then (-1) else (if ltI x2 x1=true then 1 else 0))))
def kQ:Nat→(List Int)→Int→Option (Sum (Unit) (Int))
 | 0,_,_=>none
 | k+1,x1,cN=>(if ltI cN (nI x1.length)=true then (if inI cN x1.length=true then ((x1[tN cN]?).bind fun pB=>(if eqI pB 0=true then (kQ k x1 (aH .i64 cN 1)) else (some (.inr pB)))) else none) else (some (.inl ())))
def aH2 (k:Nat) (x1:List Int):Option Int:=((kQ k x1 0).bind (fun q=>Sum.elim (fun x3=>(some 0)) (fun x3=>(some x3)) q))
def nZ (k:Nat) (x1:Int) (x2:Int) (x3:Bool) (x4:Int) (x5:Int) (x6:Bool):Option Int:=((aH2 k [(bC x1 x4),(dC x2 x5)]).bind fun x7=>(some x7))
def eY:Nat→Ty8→Int→Option (Sum (Unit) (Bool))
 | 0,_,_=>none
 | k+1,x1,bJ=>(if ltI bJ (nI x1.length)=true then (if inI bJ x1.length=true then ((x1[tN bJ]?).bind fun dQ=>(if (iP dQ.2.1 dQ.1)=true then (if eqI bJ 0=true then (eY k x1 (aH .i64 bJ 1)) else (if inI (vS .i64 bJ 1) x1.length=true then ((x1[tN (vS .i64 bJ 1)]?).bind fun iC=>((nZ k iC.1 iC.2.1 iC.2.2 dQ.1 dQ.2.1 dQ.2.2).bind fun zI=>(if ltI zI 0=true then (if eqI iC.1 dQ.1=true then (if iC.2.2=true then (some (.inr false)) else (if dQ.2.2=true then (some (.inr false)) else (eY k x1 (aH .i64 bJ 1)))) else (eY k x1 (aH .i64 bJ 1))) else (some (.inr false))))) else none)) else (some (.inr false)))) else none) else (some (.inl ())))
def tO (k:Nat) (x1:Ty8):Option Bool:=((eY k x1 0).bind (fun q=>Sum.elim (fun x3=>(some true)) (fun x3=>(some x3)) q))
def aZ:Nat→Ty8→Int→Int→Bool→Int→Int→Option (Int)
 | 0,_,_,_,_,_,_=>none
 | k+1,x1,x2,x3,x4,b5,cL=>(if ltI b5 cL=true then (if inI (conv .i64 (aA .u64 (conv .u64 (aH .i64 b5 cL)) 1)) x1.length=true then ((x1[tN (conv .i64 (aA .u64 (conv .u64 (aH .i64 b5 cL)) 1))]?).bind fun lB=>((nZ k lB.1 lB.2.1 lB.2.2 x2 x3 x4).bind fun zJ=>(if ltI zJ 0=true then (aZ k x1 x2 x3 x4 (aH .i64 (conv .i64 (aA .u64 (conv .u64 (aH .i64 b5 cL)) 1)) 1) cL) else (aZ k x1 x2 x3 x4 b5 (conv .i64 (aA .u64 (conv .u64 (aH .i64 b5 cL)) 1)))))) else none) else (some b5))
def fO (k:Nat) (x1:Ty8) (x2:Int) (x3:Int) (x4:Bool):Option (Int × Bool):=((aZ k x1 x2 x3 x4 0 (nI x1.length)).bind (fun x6=>(if ltI x6 (nI x1.length)=true then (if inI x6 x1.length=true then ((x1[tN x6]?).bind fun x7=>((nZ k x7.1 x7.2.1 x7.2.2 x2 x3 x4).bind fun x8=>(some (x6,eqI x8 0)))) else none) else (some (x6,false)))))
def qC (k:Nat) (x1:Int) (x2:Ty8) (x3:Ty8):Option Ty8:=aIQ 24 x1 x2 x3
def fK:Nat→Ty8→Int→Int→Bool→Int→Option (Sum (Unit) (Ty8 × Int))
 | 0,_,_,_,_,_=>none
 | k+1,x1,x2,x3,x4,cM=>(if ltI cM (nI x1.length)=true then (if inI cM x1.length=true then ((x1[tN cM]?).bind fun jG=>(if eqI jG.1 x3=true then (if eqI jG.2.1 x2=true then (fK k x1 x2 x3 x4 (aH .i64 cM 1)) else (if x4=true then (some (.inr (x1,9))) else (if jG.2.2=true then (some (.inr (x1,9))) else (fK k x1 x2 x3 x4 (aH .i64 cM 1))))) else (fK k x1 x2 x3 x4 (aH .i64 cM 1)))) else none) else (some (.inl ())))
def vZ (k:Nat) (x1:Ty8) (x2:Int) (x3:Int) (x4:Bool):Option (Ty8 × Int):=((kS k x1).bind fun x5=>((tO k x1).bind fun x6=>(if x6=true then (if (iP x2 x3)=true then ((fK k x1 x2 x3 x4 0).bind (fun q=>Sum.elim (fun x8=>((fO k x1 x3 x2 x4).bind fun x9=>(if x9.2=true then (if inI x9.1 x1.length=true then ((x1[tN x9.1]?).bind fun x10=>(if x10.2.2=true then (some ((List.set x1 (tN x9.1) (x10.1,x10.2.1,true)),0)) else (some ((List.set x1 (tN x9.1) (x10.1,x10.2.1,x4)),0)))) else none) else ((qC k x9.1 x1 [(x3,x2,x4)]).bind fun x10=>(some (x10,0)))))) (fun x8=>(some x8)) q)) else (some (x1,2))) else (some (x1,2)))))
def hO (k:Nat) (x1:aM):Option Unit:=(if bT (x1.length*16)=true then (some ()) else none)
def oM:Unit:=()
def g5 (k:Nat) (x1:aM):Option Unit:=hO k x1
def nA (k:Nat) (x1:Int) (x2:aM) (x3:Bool) (x4:Int):Option Unit:=((g5 k x2).bind fun x5=>(some ()))
def iT (x1:Int) (x2:Int):Bool:=(!ltI x1 64)
def cQ:Nat→aM→Int→Option (Sum (Unit) (Int))
 | 0,_,_=>none
 | k+1,x1,b6=>(if ltI b6 (nI x1.length)=true then (if inI b6 x1.length=true then ((x1[tN b6]?).bind fun jO=>(if (iT jO.1 jO.2)=true then (some (.inr b6)) else (cQ k x1 (aH .i64 b6 1)))) else none) else (some (.inl ())))
def j9 (k:Nat) (x1:aM):Option Int:=((cQ k x1 0).bind (fun q=>Sum.elim (fun x3=>(some (-1))) (fun x3=>(some x3)) q))
def iU (k:Nat) (x1:aM):Option Bool:=((j9 k x1).bind fun x2=>(some (!ltI x2 0)))
def lZ (k:Nat) (x1:Int) (x2:aM) (x3:Bool) (x4:Int):Option Bool:=(if ltI x1 0=true then (some false) else (if ltI 3 x1=true then (some false) else (if ltI 50 (nI x2.length)=true then (some false) else ((iU k x2).bind fun x5=>(if x5=true then (some false) else (if eqI x4 1=true then (if eqI x1 3=true then (some true) else (if eqI x4 0=true then (if x3=true then (some (eqI x1 1)) else (some true)) else (some false))) else (if eqI x1 3=true then (some (eqI x4 2)) else (if eqI x4 0=true then (if x3=true then (some (eqI x1 1)) else (some true)) else (some false)))))))))
def yL (k:Nat) (x1:Int) (x2:aM) (x3:Bool) (x4:Int) (x5:Int) (x6:Int):Option (Int × aM × Bool × Int × Int):=((nA k x1 x2 x3 x4).bind fun x7=>((lZ k x1 x2 x3 x4).bind fun x8=>(if x8=true then (if (iT x5 x6)=true then (some (x1,x2,x3,x4,2)) else (if eqI x1 0=true then (if ltI (nI x2.length) 50=true then (if bT (((x2++[(x5,x6)]).length)*16)=true then (some (x1,(x2++[(x5,x6)]),x3,x4,0)) else none) else (some (x1,x2,x3,x4,6))) else (some (x1,x2,x3,x4,13)))) else (some (x1,x2,x3,x4,2)))))
def gJ:Nat→aM→Int→Int→Option (Sum (Unit) (Int))
 | 0,_,_,_=>none
 | k+1,x1,x2,dJ=>(if ltI dJ (nI x1.length)=true then (if inI dJ x1.length=true then ((x1[tN dJ]?).bind fun qE=>(if eqI qE.1 x2=true then (some (.inr qE.2)) else (gJ k x1 x2 (aH .i64 dJ 1)))) else none) else (some (.inl ())))
def qR (k:Nat) (x1:aM) (x2:Int):Option Int:=((gJ k x1 x2 0).bind (fun q=>Sum.elim (fun x4=>(some 0)) (fun x4=>(some x4)) q))
def iV (k:Nat) (x1:Int) (x2:aM) (x3:Bool) (x4:Int):Option Ty6:=((g5 k x2).bind fun x5=>(some (x1,x2,x3,x4)))
def v8 (k:Nat) (x1:Int) (x2:aM) (x3:Bool) (x4:Int) (x5:Bool):Option (Int × aM × Bool × Int × Int):=((iV k x1 x2 x3 x4).bind fun x6=>((lZ k x6.1 x6.2.1 x6.2.2.1 x6.2.2.2).bind fun x7=>(if x7=true then (if eqI x6.1 0=true then (if x5=true then (some (1,x6.2.1,x6.2.2.1,x6.2.2.2,0)) else (some (2,x6.2.1,x6.2.2.1,x6.2.2.2,0))) else (some (x6.1,x6.2.1,x6.2.2.1,x6.2.2.2,13))) else (some (x6.1,x6.2.1,x6.2.2.1,x6.2.2.2,2)))))
def iB (k:Nat) (x1:aM):Option Unit:=(if bT (x1.length*16)=true then (some ()) else none)
def n8:Unit:=()
def m8 (k:Nat) (x1:aM):Option Unit:=iB k x1
def dS:Nat→aM→Int→Option (Sum (Unit) (Bool))
 | 0,_,_=>none
 | k+1,x1,bU=>(if ltI bU (nI x1.length)=true then (if inI bU x1.length=true then ((x1[tN bU]?).bind fun lW=>(if ltI lW.1 64=true then (if eqI lW.2 0=true then (some (.inr false)) else (if ltI 0 bU=true then (if inI (vS .i64 bU 1) x1.length=true then ((x1[tN (vS .i64 bU 1)]?).bind fun zK=>(if ltI zK.1 lW.1=true then (dS k x1 (aH .i64 bU 1)) else (some (.inr false)))) else none) else (dS k x1 (aH .i64 bU 1)))) else (some (.inr false)))) else none) else (some (.inl ())))
def o5 (k:Nat) (x1:aM):Option Bool:=((dS k x1 0).bind (fun q=>Sum.elim (fun x3=>(some true)) (fun x3=>(some x3)) q))
def aAG (x1:Int) (x2:Int):Unit:=()
def cE:Nat→aM→Int→Option (Sum (Unit) (Int))
 | 0,_,_=>none
 | k+1,x1,b7=>(if ltI b7 (nI x1.length)=true then (if inI b7 x1.length=true then ((x1[tN b7]?).bind fun nK=>(if ltI nK.1 64=true then (cE k x1 (aH .i64 b7 1)) else (some (.inr b7)))) else none) else (some (.inl ())))
def jA (k:Nat) (x1:aM):Option Int:=((cE k x1 0).bind (fun q=>Sum.elim (fun x3=>(some (-1))) (fun x3=>(some x3)) q))
def gU (k:Nat) (x1:aM):Option Bool:=((jA k x1).bind fun x2=>(some (!ltI x2 0)))
def xQ (x1:Int) (x2:Int) (x3:Int):Unit:=()
def aW:Nat→aM→Int→Int→Int→Option (Int)
 | 0,_,_,_,_=>none
 | k+1,x1,x2,bE,bN=>(if ltI bE bN=true then (if inI (conv .i64 (aA .u64 (conv .u64 (aH .i64 bE bN)) 1)) x1.length=true then ((x1[tN (conv .i64 (aA .u64 (conv .u64 (aH .i64 bE bN)) 1))]?).bind fun nL=>(if ltI (bC nL.1 x2) 0=true then (aW k x1 x2 (aH .i64 (conv .i64 (aA .u64 (conv .u64 (aH .i64 bE bN)) 1)) 1) bN) else (aW k x1 x2 bE (conv .i64 (aA .u64 (conv .u64 (aH .i64 bE bN)) 1))))) else none) else (some bE))
def d5 (k:Nat) (x1:aM) (x2:Int):Option (Int × Bool):=((aW k x1 x2 0 (nI x1.length)).bind (fun x4=>(if ltI x4 (nI x1.length)=true then (if inI x4 x1.length=true then ((x1[tN x4]?).bind fun x5=>(some (x4,eqI (bC x5.1 x2) 0))) else none) else (some (x4,false)))))
def rC (k:Nat) (x1:aM) (x2:Int):Option (Int × Bool):=((d5 k x1 x2).bind fun x3=>(some (x3.1,x3.2)))
def pS (k:Nat) (x1:Int) (x2:Int) (x3:aM):Option aM:=delP x1 x2 x3
def lS (k:Nat) (x1:Int) (x2:aM) (x3:aM):Option aM:=aIQ 16 x1 x2 x3
def m6 (k:Nat) (x1:Int) (x2:Int) (x3:aM):Option aM:=delP x1 x2 x3
def dY:Nat→aM→Int→aM→Option (aM)
 | 0,_,_,_=>none
 | k+1,x2,b9,aY=>(if ltI b9 (nI x2.length)=true then (if inI b9 x2.length=true then ((x2[tN b9]?).bind fun bL=>((rC k aY bL.1).bind fun aU=>(if aU.2=true then (if inI aU.1 aY.length=true then ((aY[tN aU.1]?).bind fun aV=>(((List.set aY (tN aU.1) (aV.1,aH .i64 aV.2 bL.2))[tN aU.1]?).bind fun bV=>(if eqI bV.2 0=true then ((pS k aU.1 (aH .i64 aU.1 1) (List.set aY (tN aU.1) (aV.1,aH .i64 aV.2 bL.2))).bind fun gY=>(dY k x2 (aH .i64 b9 1) gY)) else (dY k x2 (aH .i64 b9 1) (List.set aY (tN aU.1) (aV.1,aH .i64 aV.2 bL.2)))))) else none) else ((lS k aU.1 aY [(bL.1,0)]).bind fun aV=>(if inI aU.1 aV.length=true then ((aV[tN aU.1]?).bind fun bV=>(((List.set aV (tN aU.1) (bV.1,aH .i64 bV.2 bL.2))[tN aU.1]?).bind fun gY=>(if eqI gY.2 0=true then ((m6 k aU.1 (aH .i64 aU.1 1) (List.set aV (tN aU.1) (bV.1,aH .i64 bV.2 bL.2))).bind fun lC=>(dY k x2 (aH .i64 b9 1) lC)) else (dY k x2 (aH .i64 b9 1) (List.set aV (tN aU.1) (bV.1,aH .i64 bV.2 bL.2)))))) else none))))) else none) else (some aY))
def mH (k:Nat) (x1:aM) (x2:aM):Option (aM × Int):=((m8 k x1).bind fun x3=>((o5 k x1).bind fun x4=>(if x4=true then ((gU k x2).bind fun x5=>(if x5=true then (some (x1,2)) else ((dY k x2 0 x1).bind (fun x7=>(some (x7,0)))))) else (some (x1,2)))))
def aBR (x1:Int) (x2:Int) (x3:Bool) (x4:Int):Unit:=()
def bM:Nat→Ty8→Int→Int→Option (Sum (Unit) (Int))
 | 0,_,_,_=>none
 | k+1,x1,x2,cA=>(if ltI cA (nI x1.length)=true then (if inI cA x1.length=true then ((x1[tN cA]?).bind fun kV=>(if eqI kV.2.1 x2=true then (some (.inr cA)) else (bM k x1 x2 (aH .i64 cA 1)))) else none) else (some (.inl ())))
def hX (k:Nat) (x1:Ty8) (x2:Int):Option Int:=((bM k x1 x2 0).bind (fun q=>Sum.elim (fun x4=>(some (-1))) (fun x4=>(some x4)) q))
def bZ:Nat→Ty8→Int→Int→Int→Ty8→Option (Int × Ty8)
 | 0,_,_,_,_,_=>none
 | k+1,x1,x2,cB,bK,cC=>(if ltI cB (nI x1.length)=true then (if inI cB x1.length=true then ((cC[tN cB]?).bind fun fR=>(if eqI fR.2.1 x2=true then (bZ k x1 x2 (aH .i64 cB 1) bK cC) else (if inI bK x1.length=true then ((cC[tN bK]?).bind fun aNA=>(bZ k x1 x2 (aH .i64 cB 1) (aH .i64 bK 1) (List.set cC (tN bK) fR))) else none))) else none) else (some (bK,cC)))
def jL (k:Nat) (x1:Ty8) (x2:Int):Option (Nat × Ty8):=((hX k x1 x2).bind fun x3=>(if eqI x3 (-1)=true then (some (x1.length,x1)) else ((bZ k x1 x2 (aH .i64 x3 1) x3 x1).bind (fun x5=>(if isZ x1.length=true then none else (if qV x1.length x5.2.length=true then (if leI x5.1 x1.length=true then (if isZ (x1.length - (tN x5.1))=true then (if leI x5.1 x5.2.length=true then (some (tN x5.1,x5.2)) else none) else (if qV (tN x5.1+(x1.length - (tN x5.1))) x5.2.length=true then (if qV (tN x5.1) x5.2.length=true then (if qV x1.length ((((List.take (tN x5.1) x5.2)++(List.replicate (x1.length - (tN x5.1)) (0,0,false)))++(List.drop (tN x5.1+(x1.length - (tN x5.1))) x5.2)).length)=true then (if leI x5.1 ((((List.take (tN x5.1) x5.2)++(List.replicate (x1.length - (tN x5.1)) (0,0,false)))++(List.drop (tN x5.1+(x1.length - (tN x5.1))) x5.2)).length)=true then (some (tN x5.1,(((List.take (tN x5.1) x5.2)++(List.replicate (x1.length - (tN x5.1)) (0,0,false)))++(List.drop (tN x5.1+(x1.length - (tN x5.1))) x5.2)))) else none) else none) else none) else none)) else none) else none))))))
def oY (k:Nat) (x1:Ty8) (x2:Int):Option Ty8:=((kS k x1).bind fun x3=>((jL k x1 x2).bind fun x4=>(if qV x4.1 x4.2.length=true then (some (List.take x4.1 x4.2)) else none)))
def tL (k:Nat) (x1:Int) (x2:aM) (x3:Bool) (x4:Int):Option (Int × aM × Bool × Int × aM × Int):=((iV k x1 x2 x3 x4).bind fun x5=>((lZ k x5.1 x5.2.1 x5.2.2.1 x5.2.2.2).bind fun x6=>(if x6=true then (if eqI x5.1 1=true then (if x5.2.2.1=true then (some (x5.1,x5.2.1,x5.2.2.1,x5.2.2.2,[],8)) else ((g5 k x5.2.1).bind fun x7=>(some (x5.1,x5.2.1,true,x5.2.2.2,x5.2.1,0)))) else (some (x5.1,x5.2.1,x5.2.2.1,x5.2.2.2,[],13))) else (some (x5.1,x5.2.1,x5.2.2.1,x5.2.2.2,[],2)))))
def lR (k:Nat) (x1:aM):Option aM:=oppP x1
def oK (k:Nat) (x1:Int) (x2:aM) (x3:Bool) (x4:Int) (x5:Int):Option (Int × aM × Bool × Int × aM × Int):=((iV k x1 x2 x3 x4).bind fun x6=>((lZ k x6.1 x6.2.1 x6.2.2.1 x6.2.2.2).bind fun x7=>(if x7=true then (if eqI x5 1=true then (if eqI x6.2.2.2 x5=true then (some (x6.1,x6.2.1,x6.2.2.1,x6.2.2.2,[],0)) else (if eqI x6.1 3=true then (some (x6.1,x6.2.1,x6.2.2.1,x6.2.2.2,[],13)) else (if eqI x6.1 1=true then (if eqB (eqI x5 1) x6.2.2.1=true then (some (3,x6.2.1,x6.2.2.1,x5,[],0)) else (if x6.2.2.1=true then ((lR k x6.2.1).bind fun x8=>(some (3,x6.2.1,x6.2.2.1,x5,x8,0))) else ((g5 k x6.2.1).bind fun x8=>(some (3,x6.2.1,x6.2.2.1,x5,x6.2.1,0))))) else (some (x6.1,x6.2.1,x6.2.2.1,x6.2.2.2,[],13))))) else (if eqI x5 2=true then (if eqI x6.2.2.2 x5=true then (some (x6.1,x6.2.1,x6.2.2.1,x6.2.2.2,[],0)) else (if eqI x6.1 3=true then (some (x6.1,x6.2.1,x6.2.2.1,x6.2.2.2,[],13)) else (if eqB (eqI x5 1) x6.2.2.1=true then (some (3,x6.2.1,x6.2.2.1,x5,[],0)) else (if x6.2.2.1=true then ((lR k x6.2.1).bind fun x8=>(some (3,x6.2.1,x6.2.2.1,x5,x8,0))) else ((g5 k x6.2.1).bind fun x8=>(some (3,x6.2.1,x6.2.2.1,x5,x6.2.1,0))))))) else (some (x6.1,x6.2.1,x6.2.2.1,x6.2.2.2,[],2)))) else (some (x6.1,x6.2.1,x6.2.2.1,x6.2.2.2,[],2)))))
def tS (x1:aM) (x2:Ty8) (x3:Ty4) (x4:Ty7):Unit:=()
def bQ:Nat→aM→Int→Int→Int→Int→aM→Ty8→Ty4→Ty7→(Ty8 × Int)→Int→Int→Option (Int)
 | 0,_,_,_,_,_,_,_,_,_,_,_,_=>none
 | k+1,x2,x5,x6,x7,x8,x9,x10,x11,x12,x13,cR,cD=>(if ltI cD (nI x2.length)=true then (if inI cD x2.length=true then ((x2[tN cD]?).bind fun nM=>(if eqI nM.1 x7=true then (bQ k x2 x5 x6 x7 x8 x9 x10 x11 x12 x13 (aH .i64 cR nM.2) (aH .i64 cD 1)) else (bQ k x2 x5 x6 x7 x8 x9 x10 x11 x12 x13 cR (aH .i64 cD 1)))) else none) else (some cR))
def g6 (k:Nat) (x1:Int) (x2:aM) (x3:Bool) (x4:Int) (x5:Int) (x6:Int) (x7:Int) (x8:Int) (x9:aM) (x10:Ty8) (x11:Ty4) (x12:Ty7):Option (Ty8 × Ty4 × Int × Int):=(if eqI x1 0=true then ((vZ k x10 x6 x7 (eqI x5 3)).bind fun x13=>(if eqI x13.2 0=true then (if eqI x5 3=true then ((yL k x1 x2 x3 x4 x7 x8).bind fun x14=>(if eqI x14.2.2.2.2 0=true then (if aC9 x11 x6=true then ((gG x11 x6).bind fun x15=>(some (x13.1,(d7 x11 x6 (x14.1,x14.2.1,x14.2.2.1,x14.2.2.2.1)),0,0))) else (some (x13.1,(d7 x11 x6 (x14.1,x14.2.1,x14.2.2.1,x14.2.2.2.1)),0,0))) else (some (x10,x11,x14.2.2.2.2,0)))) else ((qR k x9 x7).bind fun x14=>((bQ k x2 x5 x6 x7 x8 x9 x10 x11 x12 x13 x14 0).bind (fun x16=>(some (x13.1,x11,0,x16)))))) else (some (x10,x11,x13.2,0)))) else (some (x10,x11,13,0)))
def kR (k:Nat) (x1:Int) (x2:aM) (x3:Bool) (x4:Int) (x5:Int) (x6:Int) (x7:Int) (x8:Int) (x9:aM) (x10:Ty8) (x11:Ty4) (x12:Ty7):Option (aM × Ty8 × Ty4 × Int):=(if eqI x5 4=true then ((v8 k x1 x2 x3 x4 (!eqI x8 0)).bind fun x13=>(if eqI x13.2.2.2.2 0=true then ((mH k x9 []).bind fun x14=>(if eqI x13.1 2=true then ((oY k x10 x6).bind fun x15=>(some (x14.1,x15,(d7 x11 x6 (x13.1,x13.2.1,x13.2.2.1,x13.2.2.2.1)),0))) else (some (x14.1,x10,(d7 x11 x6 (x13.1,x13.2.1,x13.2.2.1,x13.2.2.2.1)),0)))) else (some (x9,x10,x11,x13.2.2.2.2)))) else (if eqI x5 5=true then ((tL k x1 x2 x3 x4).bind fun x13=>(if eqI x13.2.2.2.2.2 0=true then ((mH k x9 x13.2.2.2.2.1).bind fun x14=>((oY k x10 x6).bind fun x15=>(some (x14.1,x15,(d7 x11 x6 (x13.1,x13.2.1,x13.2.2.1,x13.2.2.2.1)),0)))) else (some (x9,x10,x11,x13.2.2.2.2.2)))) else (if eqI x8 1=true then ((oK k x1 x2 x3 x4 x8).bind fun x13=>(if eqI x13.2.2.2.2.2 0=true then ((mH k x9 x13.2.2.2.2.1).bind fun x14=>((oY k x10 x6).bind fun x15=>(some (x14.1,x15,(d7 x11 x6 (x13.1,x13.2.1,x13.2.2.1,x13.2.2.2.1)),0)))) else (some (x9,x10,x11,x13.2.2.2.2.2)))) else (if eqI x8 2=true then ((oK k x1 x2 x3 x4 x8).bind fun x13=>(if eqI x13.2.2.2.2.2 0=true then ((mH k x9 x13.2.2.2.2.1).bind fun x14=>((oY k x10 x6).bind fun x15=>(some (x14.1,x15,(d7 x11 x6 (x13.1,x13.2.1,x13.2.2.1,x13.2.2.2.1)),0)))) else (some (x9,x10,x11,x13.2.2.2.2.2)))) else (some (x9,x10,x11,2))))))
def i9 (k:Nat) (x1:Int) (x2:aM) (x3:Bool) (x4:Int) (x5:Int) (x6:Int) (x7:Int) (x8:Int) (x9:aM) (x10:Ty8) (x11:Ty4) (x12:Ty7):Option (Int × Int × Ty8 × Ty4 × aM):=(if eqI x5 1=true then (some (0,0,x10,(d7 x11 x6 (x1,x2,x3,x4)),x9)) else (if eqI x5 2=true then ((g6 k x1 x2 x3 x4 x5 x6 x7 x8 x9 x10 x11 x12).bind fun x13=>(some (x13.2.2.2,x13.2.2.1,x13.1,x13.2.1,x9))) else (if eqI x5 3=true then ((g6 k x1 x2 x3 x4 x5 x6 x7 x8 x9 x10 x11 x12).bind fun x13=>(some (x13.2.2.2,x13.2.2.1,x13.1,x13.2.1,x9))) else ((kR k x1 x2 x3 x4 x5 x6 x7 x8 x9 x10 x11 x12).bind fun x13=>(some (0,x13.2.2.2,x13.2.1,x13.2.2.1,x13.1))))))
def iK (k:Nat) (x1:Int) (x2:Int) (x3:Int) (x4:Int) (x5:aM) (x6:Ty8) (x7:Ty4) (x8:Ty7):Option (Int × Int × aM × Ty8 × Ty4 × Ty7):=(if ltI x1 1=true then (some (2,0,x5,x6,x7,x8)) else (if ltI 6 x1=true then (some (2,0,x5,x6,x7,x8)) else (if ltI x2 0=true then (some (2,0,x5,x6,x7,x8)) else (if ltI x2 1000=true then (if aC9 x7 x2=true then ((gG x7 x2).bind fun x9=>(if eqB true (eqI x1 1)=true then (some (8,0,x5,x6,x7,x8)) else ((i9 k x9.1 x9.2.1 x9.2.2.1 x9.2.2.2 x1 x2 x3 x4 x5 x6 x7 x8).bind fun x10=>(if eqI x10.2.1 0=true then (if bT (((x8++[(x1,x2,x3,x4)]).length)*32)=true then (some (0,x10.1,x10.2.2.2.2,x10.2.2.1,x10.2.2.2.1,(x8++[(x1,x2,x3,x4)]))) else none) else (some (x10.2.1,0,x10.2.2.2.2,x10.2.2.1,x10.2.2.2.1,x8)))))) else (if eqB false (eqI x1 1)=true then (some (7,0,x5,x6,x7,x8)) else ((i9 k 0 [] false 0 x1 x2 x3 x4 x5 x6 x7 x8).bind fun x9=>(if eqI x9.2.1 0=true then (if bT (((x8++[(x1,x2,x3,x4)]).length)*32)=true then (some (0,x9.1,x9.2.2.2.2,x9.2.2.1,x9.2.2.2.1,(x8++[(x1,x2,x3,x4)]))) else none) else (some (x9.2.1,0,x9.2.2.2.2,x9.2.2.1,x9.2.2.2.1,x8)))))) else (some (2,0,x5,x6,x7,x8))))))
def fE:Nat→Ty7→Int→aM→Ty8→Ty4→Ty7→Option Ty0
 | 0,_,_,_,_,_,_=>none
 | k+1,x1,dK,eU,eV,d8,d9=>(if ltI dK (nI x1.length)=true then (if inI dK x1.length=true then ((x1[tN dK]?).bind fun i6=>((iK k i6.1 i6.2.1 i6.2.2.1 i6.2.2.2 eU eV d8 d9).bind fun dL=>(if eqI dL.1 0=true then (fE k x1 (aH .i64 dK 1) dL.2.2.1 dL.2.2.2.1 dL.2.2.2.2.1 dL.2.2.2.2.2) else (some (.inr (.inr ())))))) else none) else (some (.inl (eU,eV,d8,d9))))
def lX (k:Nat) (x1:Ty7):Option Ty3:=((fE k x1 0 [] [] ([]:Ty4) []).bind (fun q=>Sum.elim (fun x3=>(some (.inl (x3.1,x3.2.1,x3.2.2.1,x3.2.2.2)))) (fun x3=>(some x3)) q))
def g9 (k:Nat) (x1:Ty7):Option Unit:=(if bT (x1.length*32)=true then (some ()) else none)
def oN:Unit:=()
def kU (k:Nat) (x1:Ty7):Option Unit:=g9 k x1
def lF (k:Nat) (x1:aM) (x2:Ty8) (x3:Ty4) (x4:Ty7):Option Unit:=((kU k x4).bind fun x5=>(some ()))
def tZ (x1:aM) (x2:Ty8) (x3:Ty4) (x4:Ty7):Unit:=()
def gZ (k:Nat) (x1:Int) (x2:aM) (x3:Ty8) (x4:Ty4) (x5:Ty7):Option Int:=((qR k x2 x1).bind fun x6=>(some x6))
def jT (k:Nat) (x1:aM) (x2:Ty8) (x3:Ty4) (x4:Ty7):Option Unit:=((kU k x4).bind fun x5=>(some ()))
def cP:Nat→Ty2→(aM × Ty8 × Ty4 × Ty7)→Int→Option (Sum (Unit) (Bool))
 | 0,_,_,_=>none
 | k+1,x5,x11,dP=>(if ltI dP (nI x11.2.2.2.length)=true then (if inI dP x11.2.2.2.length=true then ((x11.2.2.2[tN dP]?).bind fun iD=>(if inI dP x5.2.2.2.2.2.2.2.length=true then ((x5.2.2.2.2.2.2.2[tN dP]?).bind fun iE=>(if eqI iD.1 iE.1=true then (if eqI iD.2.1 iE.2.1=true then (if eqI iD.2.2.1 iE.2.2.1=true then (if eqI iD.2.2.2 iE.2.2.2=true then (cP k x5 x11 (aH .i64 dP 1)) else (some (.inr false))) else (some (.inr false))) else (some (.inr false))) else (some (.inr false)))) else none)) else none) else (some (.inl ())))
def cG:Nat→Ty2→Ty7→(aM × Ty8 × Ty4 × Ty7)→(aM × Ty8 × Ty4 × Ty7)→Int→Option (Sum (Unit) (Bool))
 | 0,_,_,_,_,_=>none
 | k+1,x5,x9,x11,x14,cU=>(if ltI cU 8=true then ((gZ k cU x11.1 x11.2.1 x11.2.2.1 x11.2.2.2).bind fun aCY=>((gZ k cU x14.1 x14.2.1 x14.2.2.1 x14.2.2.2).bind fun aCZ=>(if eqI aCY aCZ=true then (if eqI (nI x9.length) (nI x5.2.2.2.2.2.2.2.length)=true then ((gZ k cU x11.1 x11.2.1 x11.2.2.1 x11.2.2.2).bind fun aC0=>((gZ k cU x5.2.1 x5.2.2.1 x5.2.2.2.2.2.2.1 x5.2.2.2.2.2.2.2).bind fun aC1=>(if eqI aC0 aC1=true then (cG k x5 x9 x11 x14 (aH .u8 cU 1)) else (some (.inr false))))) else (cG k x5 x9 x11 x14 (aH .u8 cU 1))) else (some (.inr false))))) else (some (.inl ())))
def dB:Nat→Ty2→((List (List Int)) × Int)→Int→Ty7→Option (Sum (Ty7) (Bool))
 | 0,_,_,_,_=>none
 | k+1,x5,x7,eZ,cI=>(if ltI eZ (nI x7.1.length)=true then (if inI eZ x7.1.length=true then ((x7.1[tN eZ]?).bind fun aC2=>((qM k aC2).bind fun aP=>(if eqI aP.2.2.2.2 0=true then (if bT (((cI++[(aP.1,aP.2.1,aP.2.2.1,aP.2.2.2.1)]).length)*32)=true then (dB k x5 x7 (aH .i64 eZ 1) (cI++[(aP.1,aP.2.1,aP.2.2.1,aP.2.2.2.1)])) else none) else (some (.inr false))))) else none) else (some (.inl cI)))
def a8:Nat→(List (Int × Int × Int × Int × Bool))→Int→Int→Int→Int→aM→Ty8→(List Int)→Int→Int→Ty4→Ty7→Option Ty1
 | 0,_,_,_,_,_,_,_,_,_,_,_,_=>none
 | k+1,x1,x2,bF,cV,bH,eB,eC,cW,cX,cY,d6,dA=>(if ltI bH (nI x1.length)=true then (if inI bH x1.length=true then ((x1[tN bH]?).bind fun aQ=>(if eqI (conv .i64 (gK .u8 aQ.1 8)) 4=true then ((iK k (conv .i64 (gK .u8 aQ.1 8)) (conv .i64 (gK .u8 aQ.2.1 4)) (gK .u8 aQ.2.2.1 4) (aA3 .i64 aQ.2.2.2.1 3) eB eC d6 dA).bind fun aF=>(if eqI aF.1 0=true then ((oW k (conv .i64 (gK .u8 aQ.1 8)) (conv .i64 (gK .u8 aQ.2.1 4)) (gK .u8 aQ.2.2.1 4) (aA3 .i64 aQ.2.2.2.1 3)).bind fun dX=>((kY k cW cX cY dX.1).bind fun aR=>(if eqI dX.2 0=true then (if eqI aR.2.2.2 0=true then (if aQ.2.2.2.2=true then ((nC k aR.1 aR.2.1 aR.2.2.1).bind fun cJ=>(a8 k x1 x2 (aH .i64 bF 1) (aH .i64 bF 1) (aH .i64 bH 1) aF.2.2.1 aF.2.2.2.1 cJ.1 cJ.2.1 cJ.2.2 aF.2.2.2.2.1 aF.2.2.2.2.2)) else (a8 k x1 x2 (aH .i64 bF 1) cV (aH .i64 bH 1) aF.2.2.1 aF.2.2.2.1 aR.1 aR.2.1 aR.2.2.1 aF.2.2.2.2.1 aF.2.2.2.2.2)) else (some (.inr false))) else (some (.inr false))))) else (a8 k x1 x2 bF cV (aH .i64 bH 1) aF.2.2.1 aF.2.2.2.1 cW cX cY aF.2.2.2.2.1 aF.2.2.2.2.2))) else (if eqI (conv .i64 (gK .u8 aQ.1 8)) 6=true then ((iK k (conv .i64 (gK .u8 aQ.1 8)) (conv .i64 (gK .u8 aQ.2.1 4)) (gK .u8 aQ.2.2.1 4) (aA3 .i64 aQ.2.2.2.1 3) eB eC d6 dA).bind fun aF=>(if eqI aF.1 0=true then ((oW k (conv .i64 (gK .u8 aQ.1 8)) (conv .i64 (gK .u8 aQ.2.1 4)) (gK .u8 aQ.2.2.1 4) (aA3 .i64 aQ.2.2.2.1 3)).bind fun dX=>((kY k cW cX cY dX.1).bind fun aR=>(if eqI dX.2 0=true then (if eqI aR.2.2.2 0=true then (if aQ.2.2.2.2=true then ((nC k aR.1 aR.2.1 aR.2.2.1).bind fun cJ=>(a8 k x1 x2 (aH .i64 bF 1) (aH .i64 bF 1) (aH .i64 bH 1) aF.2.2.1 aF.2.2.2.1 cJ.1 cJ.2.1 cJ.2.2 aF.2.2.2.2.1 aF.2.2.2.2.2)) else (a8 k x1 x2 (aH .i64 bF 1) cV (aH .i64 bH 1) aF.2.2.1 aF.2.2.2.1 aR.1 aR.2.1 aR.2.2.1 aF.2.2.2.2.1 aF.2.2.2.2.2)) else (some (.inr false))) else (some (.inr false))))) else (a8 k x1 x2 bF cV (aH .i64 bH 1) aF.2.2.1 aF.2.2.2.1 cW cX cY aF.2.2.2.2.1 aF.2.2.2.2.2))) else ((iK k (conv .i64 (gK .u8 aQ.1 8)) (conv .i64 (gK .u8 aQ.2.1 4)) (gK .u8 aQ.2.2.1 4) aQ.2.2.2.1 eB eC d6 dA).bind fun aF=>(if eqI aF.1 0=true then ((oW k (conv .i64 (gK .u8 aQ.1 8)) (conv .i64 (gK .u8 aQ.2.1 4)) (gK .u8 aQ.2.2.1 4) aQ.2.2.2.1).bind fun dX=>((kY k cW cX cY dX.1).bind fun aR=>(if eqI dX.2 0=true then (if eqI aR.2.2.2 0=true then (if aQ.2.2.2.2=true then ((nC k aR.1 aR.2.1 aR.2.2.1).bind fun cJ=>(a8 k x1 x2 (aH .i64 bF 1) (aH .i64 bF 1) (aH .i64 bH 1) aF.2.2.1 aF.2.2.2.1 cJ.1 cJ.2.1 cJ.2.2 aF.2.2.2.2.1 aF.2.2.2.2.2)) else (a8 k x1 x2 (aH .i64 bF 1) cV (aH .i64 bH 1) aF.2.2.1 aF.2.2.2.1 aR.1 aR.2.1 aR.2.2.1 aF.2.2.2.2.1 aF.2.2.2.2.2)) else (some (.inr false))) else (some (.inr false))))) else (a8 k x1 x2 bF cV (aH .i64 bH 1) aF.2.2.1 aF.2.2.2.1 cW cX cY aF.2.2.2.2.1 aF.2.2.2.2.2)))))) else none) else (some (.inl (cV,eB,eC,cW,cX,cY,d6,dA))))
def mT (k:Nat) (x1:List (Int × Int × Int × Int × Bool)) (x2:Int):Option Bool:=(if ltI 60 (nI x1.length)=true then ((rE k).bind fun x3=>(some x3)) else ((rE k).bind fun x3=>(if x3=true then ((a8 k x1 x2 0 0 0 [] [] [] 0 1048576 ([]:Ty4) []).bind (fun q=>Sum.elim (fun x5=>((qL k x5.2.2.2.1 x5.2.2.2.2.1 x5.2.2.2.2.2.1 x2).bind fun x6=>((mJ k x6.1 x6.2.1 x6.2.2).bind fun x7=>((dB k x5 x7 0 []).bind (fun q=>Sum.elim (fun x9=>((lX k x9).bind (fun q=>Sum.elim (fun x11=>((lF k x5.2.1 x5.2.2.1 x5.2.2.2.2.2.2.1 x5.2.2.2.2.2.2.2).bind fun x12=>(if ltI (nI x9.length) x5.1=true then (some false) else (if ltI (nI x5.2.2.2.2.2.2.2.length) (nI x9.length)=true then (some false) else (if isZ x5.2.2.2.2.2.2.2.length=true then (if leI (nI x9.length) 0=true then ((lX k []).bind (fun q=>Sum.elim (fun x14=>((cG k x5 x9 x11 x14 0).bind (fun q=>Sum.elim (fun x16=>((jT k x11.1 x11.2.1 x11.2.2.1 x11.2.2.2).bind fun x17=>((cP k x5 x11 0).bind (fun q=>Sum.elim (fun x19=>(some true)) (fun x19=>(some x19)) q)))) (fun x16=>(some x16)) q))) (fun x14=>(some false)) q)) else none) else (if leI (nI x9.length) x5.2.2.2.2.2.2.2.length=true then (if qV x9.length x5.2.2.2.2.2.2.2.length=true then ((lX k (List.take x9.length x5.2.2.2.2.2.2.2)).bind (fun q=>Sum.elim (fun x14=>((cG k x5 x9 x11 x14 0).bind (fun q=>Sum.elim (fun x16=>((jT k x11.1 x11.2.1 x11.2.2.1 x11.2.2.2).bind fun x17=>((cP k x5 x11 0).bind (fun q=>Sum.elim (fun x19=>(some true)) (fun x19=>(some x19)) q)))) (fun x16=>(some x16)) q))) (fun x14=>(some false)) q)) else none) else none)))))) (fun x11=>((lF k x5.2.1 x5.2.2.1 x5.2.2.2.2.2.2.1 x5.2.2.2.2.2.2.2).bind fun x12=>(some false))) q))) (fun x9=>(some x9)) q))))) (fun x5=>(some x5)) q)) else ((rE k).bind fun x4=>(some x4)))))
end Go.Ws
