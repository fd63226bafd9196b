/-
  Walks, merged.
  Conditions: none.
-/
import Derived.Test.YtpaekffehfdmgaaGreatDoorZPre
import Derived.Test.YtpaekffehfdmgaaGreatDoorZPure
import Derived.Test.YtpaekffehfdmgaaGreatDoorZWGWholeDurable0
set_option linter.unusedVariables false
set_option linter.unusedSimpArgs false
namespace Go.Ws
open Go.Proofs
set_option linter.unusedSimpArgs false
set_option linter.unusedVariables false
set_option maxRecDepth 1000000
set_option maxHeartbeats 4000000
noncomputable def zE:Ctx:=⟨Tryz.f36,[],true⟩
noncomputable def L36_1_4:Code:=at_ Tryz.f36 [1,1,1,1,1,0,1,4,5]
def S36_1_4 (x1:List Int) (aQ:Int × (List Int) × Bool) (aW:Int × (List Int) × Bool) (bF:Int × (List Int) × Bool) (bQ:Int × (List Int) × Bool):St:=⟨mkT 70 [(0,(.str (ByteArray.mk #[97,98,97,100]))),(1,(.sl 1 (List.map aN x1))),(6,(.hp 0 0)),(7,(.fn 1000059 [(.hp 0 0)])),(8,(.ref 2 1 0 0 4 .virt)),(21,(.int .i64 4)),(22,(.int .i64 4))],[(.row [(.sl 1 (List.map aN bQ.2.1)),(.bool bQ.2.2)]),(.arr 2 (List.map aU [(aQ.1,(ByteArray.mk #[])),(aW.1,(ByteArray.mk #[])),(bF.1,(ByteArray.mk #[])),(bQ.1,(ByteArray.mk #[]))]) 0 0 false)]⟩
def aE2 (x1:List Int) (aQ:Int × (List Int) × Bool) (aW:Int × (List Int) × Bool) (bF:Int × (List Int) × Bool) (bQ:Int × (List Int) × Bool):St:=⟨mkT 70 [(1,(.sl 1 (List.map aN x1))),(6,(.hp 0 0)),(8,(.ref 2 1 0 0 4 .virt))],[(.row [(.sl 1 (List.map aN bQ.2.1)),(.bool bQ.2.2)]),(.arr 2 (List.map aU [(aQ.1,(ByteArray.mk #[])),(aW.1,(ByteArray.mk #[])),(bF.1,(ByteArray.mk #[])),(bQ.1,(ByteArray.mk #[]))]) 0 0 false)]⟩
def O36_1_4 (x1:List Int) (aQ:Int × (List Int) × Bool) (aW:Int × (List Int) × Bool) (bF:Int × (List Int) × Bool) (bQ:Int × (List Int) × Bool) (y:(Unit)):GX:=.st (.exit 0) (aE2 x1 aQ aW bF bQ)
noncomputable def L36_1_3:Code:=at_ Tryz.f36 [1,1,1,1,1,0,1,4,5]
def S36_1_3 (x1:List Int) (aQ:Int × (List Int) × Bool) (aW:Int × (List Int) × Bool) (bF:Int × (List Int) × Bool):St:=⟨mkT 70 [(0,(.str (ByteArray.mk #[97,98,97,100]))),(1,(.sl 1 (List.map aN x1))),(6,(.hp 0 0)),(7,(.fn 1000059 [(.hp 0 0)])),(8,(.ref 2 1 0 0 3 .virt)),(21,(.int .i64 4)),(22,(.int .i64 3))],[(.row [(.sl 1 (List.map aN bF.2.1)),(.bool bF.2.2)]),(.arr 2 (List.map aU [(aQ.1,(ByteArray.mk #[])),(aW.1,(ByteArray.mk #[])),(bF.1,(ByteArray.mk #[]))]) 0 0 false)]⟩
def aFG (x1:List Int) (aN8:List Int) (aN9:Bool) (aGM:Ty5):St:=⟨mkT 70 [(1,(.sl 1 (List.map aN x1))),(6,(.hp 0 0)),(8,(.ref 2 1 0 0 aGM.length .virt))],[(.row [(.sl 1 (List.map aN aN8)),(.bool aN9)]),(.arr 2 (List.map aU aGM) 0 0 false)]⟩
def O36_1_3 (x1:List Int) (aQ:Int × (List Int) × Bool) (aW:Int × (List Int) × Bool) (bF:Int × (List Int) × Bool) (y:((List Int) × Bool × Ty5)):GX:=.st (.exit 0) (aFG x1 y.1 y.2.1 y.2.2)
noncomputable def L36_1_2:Code:=at_ Tryz.f36 [1,1,1,1,1,0,1,4,5]
def S36_1_2 (x1:List Int) (aQ:Int × (List Int) × Bool) (aW:Int × (List Int) × Bool):St:=⟨mkT 70 [(0,(.str (ByteArray.mk #[97,98,97,100]))),(1,(.sl 1 (List.map aN x1))),(6,(.hp 0 0)),(7,(.fn 1000059 [(.hp 0 0)])),(8,(.ref 2 1 0 0 2 .virt)),(21,(.int .i64 4)),(22,(.int .i64 2))],[(.row [(.sl 1 (List.map aN aW.2.1)),(.bool aW.2.2)]),(.arr 2 (List.map aU [(aQ.1,(ByteArray.mk #[])),(aW.1,(ByteArray.mk #[]))]) 0 0 false)]⟩
def aFV (x1:List Int) (aOA:List Int) (aOB:Bool) (aGN:Ty5):St:=⟨mkT 70 [(1,(.sl 1 (List.map aN x1))),(6,(.hp 0 0)),(8,(.ref 2 1 0 0 aGN.length .virt))],[(.row [(.sl 1 (List.map aN aOA)),(.bool aOB)]),(.arr 2 (List.map aU aGN) 0 0 false)]⟩
def O36_1_2 (x1:List Int) (aQ:Int × (List Int) × Bool) (aW:Int × (List Int) × Bool) (y:((List Int) × Bool × Ty5)):GX:=.st (.exit 0) (aFV x1 y.1 y.2.1 y.2.2)
noncomputable def L36_1_1:Code:=at_ Tryz.f36 [1,1,1,1,1,0,1,4,5]
def S36_1_1 (x1:List Int) (aQ:Int × (List Int) × Bool):St:=⟨mkT 70 [(0,(.str (ByteArray.mk #[97,98,97,100]))),(1,(.sl 1 (List.map aN x1))),(6,(.hp 0 0)),(7,(.fn 1000059 [(.hp 0 0)])),(8,(.ref 2 1 0 0 1 .virt)),(21,(.int .i64 4)),(22,(.int .i64 1))],[(.row [(.sl 1 (List.map aN aQ.2.1)),(.bool aQ.2.2)]),(.arr 2 (List.map aU [(aQ.1,(ByteArray.mk #[]))]) 0 0 false)]⟩
def aF5 (x1:List Int) (aOC:List Int) (aOD:Bool) (aGO:Ty5):St:=⟨mkT 70 [(1,(.sl 1 (List.map aN x1))),(6,(.hp 0 0)),(8,(.ref 2 1 0 0 aGO.length .virt))],[(.row [(.sl 1 (List.map aN aOC)),(.bool aOD)]),(.arr 2 (List.map aU aGO) 0 0 false)]⟩
def O36_1_1 (x1:List Int) (aQ:Int × (List Int) × Bool) (y:((List Int) × Bool × Ty5)):GX:=.st (.exit 0) (aF5 x1 y.1 y.2.1 y.2.2)
noncomputable def L36_1_0:Code:=at_ Tryz.f36 [1,1,1,1,1,0,1,4,5]
def S36_1_0 (x1:List Int):St:=⟨mkT 70 [(0,(.str (ByteArray.mk #[97,98,97,100]))),(1,(.sl 1 (List.map aN x1))),(6,(.hp 0 0)),(7,(.fn 1000059 [(.hp 0 0)])),(8,.nils),(21,(.int .i64 4)),(22,(.int .i64 0))],[(.row [(.sl 1 (List.map aN x1)),(.bool false)])]⟩
def aBI (x1:List Int) (aOE:List Int) (aOF:Bool) (aGP:Ty5):St:=⟨mkT 70 [(1,(.sl 1 (List.map aN x1))),(6,(.hp 0 0)),(8,(.ref 2 1 0 0 aGP.length .virt))],[(.row [(.sl 1 (List.map aN aOE)),(.bool aOF)]),(.arr 2 (List.map aU aGP) 0 0 false)]⟩
def O36_1_0 (x1:List Int) (y:((List Int) × Bool × Ty5)):GX:=.st (.exit 0) (aBI x1 y.1 y.2.1 y.2.2)
def aHO:Ans:=.norm 0 ⟨[(4,[(0,2)]),(5,[])],[],false,[],[]⟩
theorem wN (x1:List Int) (aQ:Int × (List Int) × Bool) (aW:Int × (List Int) × Bool) (bF:Int × (List Int) × Bool) (bQ:Int × (List Int) × Bool) (y:(Unit)):∀(k:Nat),eM k x1 aQ aW bF bQ=some y→LT Tryz.prog zE L36_1_4 (S36_1_4 x1 aQ aW bF bQ) (O36_1_4 x1 aQ aW bF bQ y)
 | 0,h=>by cases h
 | k+1,h=>by
  rw[eM] at h
  obtain rfl:=osi h
  show LT _ _ _ _ (.st (.exit 0) (aE2 x1 aQ aW bF bQ))
  exact LT.done mixed (hs:=⟨[],[],false,[],[]⟩) (es:=(some ⟨[(1,[]),(6,[]),(8,[])],[⟨.tmp 6,[],none⟩,⟨.tmp 8,[],none⟩],false,[],[]⟩)) [df] [⟨(rfl:ltI 4 4=false)⟩] (by kernel_rfl) (fun s h=>by cases h)
theorem vL (x1:List Int) (aQ:Int × (List Int) × Bool) (aW:Int × (List Int) × Bool) (bF:Int × (List Int) × Bool) (y:((List Int) × Bool × Ty5)):∀(k:Nat),dV k x1 aQ aW bF=some y→LT Tryz.prog zE L36_1_3 (S36_1_3 x1 aQ aW bF) (O36_1_3 x1 aQ aW bF y)
 | 0,h=>by cases h
 | k+1,h=>by
  rw[dV] at h
  obtain⟨bQ,eL0,h⟩:=bsm h
  obtain⟨aN3,eL1,h⟩:=bsm h
  obtain rfl:=osi h
  show LT _ _ _ _ (.st (.exit 0) (aFG x1 bQ.2.1 bQ.2.2 [(aQ.1,(ByteArray.mk #[])),(aW.1,(ByteArray.mk #[])),(bF.1,(ByteArray.mk #[])),(bQ.1,(ByteArray.mk #[]))]))
  exact LT.next mixed (hs:=⟨[(0,[]),(1,[]),(6,[]),(7,[]),(8,[]),(21,[]),(22,[])],[⟨.tmp 6,[],none⟩,⟨.tmp 8,[],none⟩],false,[],[]⟩) (es:=none) [dt,.call ⟨true,[]⟩ (.int .i64 8) [],dt,.call ⟨true,[]⟩ (.int .u64 bQ.1) [(.row [(.sl 1 (List.map aN bQ.2.1)),(.bool bQ.2.2)])],.rows (List.map aU [(bQ.1,(ByteArray.mk #[]))]),.n 4,.n 3,dt,.rows (List.map aU [(aQ.1,(ByteArray.mk #[])),(aW.1,(ByteArray.mk #[])),(bF.1,(ByteArray.mk #[])),(bQ.1,(ByteArray.mk #[]))])] [⟨(by simp:(List.map aU [(aQ.1,(ByteArray.mk #[])),(aW.1,(ByteArray.mk #[])),(bF.1,(ByteArray.mk #[]))])++(List.map aU [(bQ.1,(ByteArray.mk #[]))])=(List.map aU [(aQ.1,(ByteArray.mk #[])),(aW.1,(ByteArray.mk #[])),(bF.1,(ByteArray.mk #[])),(bQ.1,(ByteArray.mk #[]))]))⟩,⟨(rfl:eqN 3 3=true)⟩,⟨(rfl:(List.map aU [(aQ.1,(ByteArray.mk #[])),(aW.1,(ByteArray.mk #[])),(bF.1,(ByteArray.mk #[]))]).length=3)⟩,⟨(rfl:bV (4*24)=true)⟩,⟨(rfl:3+(List.map aU [(bQ.1,(ByteArray.mk #[]))]).length=4)⟩,⟨(bS aU (l:=[(bQ.1,(ByteArray.mk #[]))]) (n:=1) rfl)⟩,⟨(b9 aU (Nat.le_refl 1):0+1≤(List.map aU [(bQ.1,(ByteArray.mk #[]))]).length)⟩,⟨(dE k 8 bF.2.1 bF.2.2 _ eL0)⟩,⟨(rfl:ltI 0 8=true)⟩,⟨(sE)⟩,⟨(rfl:ltI 3 4=true)⟩] (by kernel_rfl) (wN x1 aQ aW bF bQ _ k eL1)
theorem wW (x1:List Int) (aQ:Int × (List Int) × Bool) (aW:Int × (List Int) × Bool) (y:((List Int) × Bool × Ty5)):∀(k:Nat),dZ k x1 aQ aW=some y→LT Tryz.prog zE L36_1_2 (S36_1_2 x1 aQ aW) (O36_1_2 x1 aQ aW y)
 | 0,h=>by cases h
 | k+1,h=>by
  rw[dZ] at h
  obtain⟨bF,eL0,h⟩:=bsm h
  obtain⟨nA,eL1,h⟩:=bsm h
  obtain rfl:=osi h
  show LT _ _ _ _ (.st (.exit 0) (aFV x1 nA.1 nA.2.1 nA.2.2))
  exact LT.next mixed (hs:=⟨[(0,[]),(1,[]),(6,[]),(7,[]),(8,[]),(21,[]),(22,[])],[⟨.tmp 6,[],none⟩,⟨.tmp 8,[],none⟩],false,[],[]⟩) (es:=none) [dt,.call ⟨true,[]⟩ (.int .i64 1) [],dt,.call ⟨true,[]⟩ (.int .u64 bF.1) [(.row [(.sl 1 (List.map aN bF.2.1)),(.bool bF.2.2)])],.rows (List.map aU [(bF.1,(ByteArray.mk #[]))]),.n 3,.n 2,dt,.rows (List.map aU [(aQ.1,(ByteArray.mk #[])),(aW.1,(ByteArray.mk #[])),(bF.1,(ByteArray.mk #[]))])] [⟨(by simp:(List.map aU [(aQ.1,(ByteArray.mk #[])),(aW.1,(ByteArray.mk #[]))])++(List.map aU [(bF.1,(ByteArray.mk #[]))])=(List.map aU [(aQ.1,(ByteArray.mk #[])),(aW.1,(ByteArray.mk #[])),(bF.1,(ByteArray.mk #[]))]))⟩,⟨(rfl:eqN 2 2=true)⟩,⟨(rfl:(List.map aU [(aQ.1,(ByteArray.mk #[])),(aW.1,(ByteArray.mk #[]))]).length=2)⟩,⟨(rfl:bV (3*24)=true)⟩,⟨(rfl:2+(List.map aU [(bF.1,(ByteArray.mk #[]))]).length=3)⟩,⟨(bS aU (l:=[(bF.1,(ByteArray.mk #[]))]) (n:=1) rfl)⟩,⟨(b9 aU (Nat.le_refl 1):0+1≤(List.map aU [(bF.1,(ByteArray.mk #[]))]).length)⟩,⟨(dE k 1 aW.2.1 aW.2.2 _ eL0)⟩,⟨(rfl:ltI 0 1=true)⟩,⟨(fY)⟩,⟨(rfl:ltI 2 4=true)⟩] (by kernel_rfl) (vL x1 aQ aW bF _ k eL1)
theorem vT (x1:List Int) (aQ:Int × (List Int) × Bool) (y:((List Int) × Bool × Ty5)):∀(k:Nat),eK k x1 aQ=some y→LT Tryz.prog zE L36_1_1 (S36_1_1 x1 aQ) (O36_1_1 x1 aQ y)
 | 0,h=>by cases h
 | k+1,h=>by
  rw[eK] at h
  obtain⟨aW,eL0,h⟩:=bsm h
  obtain⟨nB,eL1,h⟩:=bsm h
  obtain rfl:=osi h
  show LT _ _ _ _ (.st (.exit 0) (aF5 x1 nB.1 nB.2.1 nB.2.2))
  exact LT.next mixed (hs:=⟨[(0,[]),(1,[]),(6,[]),(7,[]),(8,[]),(21,[]),(22,[])],[⟨.tmp 6,[],none⟩,⟨.tmp 8,[],none⟩],false,[],[]⟩) (es:=none) [dt,.call ⟨true,[]⟩ (.int .i64 2) [],dt,.call ⟨true,[]⟩ (.int .u64 aW.1) [(.row [(.sl 1 (List.map aN aW.2.1)),(.bool aW.2.2)])],.rows (List.map aU [(aW.1,(ByteArray.mk #[]))]),.n 2,.n 1,dt,.rows (List.map aU [(aQ.1,(ByteArray.mk #[])),(aW.1,(ByteArray.mk #[]))])] [⟨(by simp:(List.map aU [(aQ.1,(ByteArray.mk #[]))])++(List.map aU [(aW.1,(ByteArray.mk #[]))])=(List.map aU [(aQ.1,(ByteArray.mk #[])),(aW.1,(ByteArray.mk #[]))]))⟩,⟨(rfl:eqN 1 1=true)⟩,⟨(rfl:(List.map aU [(aQ.1,(ByteArray.mk #[]))]).length=1)⟩,⟨(rfl:bV (2*24)=true)⟩,⟨(rfl:1+(List.map aU [(aW.1,(ByteArray.mk #[]))]).length=2)⟩,⟨(bS aU (l:=[(aW.1,(ByteArray.mk #[]))]) (n:=1) rfl)⟩,⟨(b9 aU (Nat.le_refl 1):0+1≤(List.map aU [(aW.1,(ByteArray.mk #[]))]).length)⟩,⟨(dE k 2 aQ.2.1 aQ.2.2 _ eL0)⟩,⟨(rfl:ltI 0 2=true)⟩,⟨(sC)⟩,⟨(rfl:ltI 1 4=true)⟩] (by kernel_rfl) (wW x1 aQ aW _ k eL1)
theorem wX (x1:List Int) (y:((List Int) × Bool × Ty5)):∀(k:Nat),d7 k x1=some y→LT Tryz.prog zE L36_1_0 (S36_1_0 x1) (O36_1_0 x1 y)
 | 0,h=>by cases h
 | k+1,h=>by
  rw[d7] at h
  obtain⟨aQ,eL0,h⟩:=bsm h
  obtain⟨nC,eL1,h⟩:=bsm h
  obtain rfl:=osi h
  show LT _ _ _ _ (.st (.exit 0) (aBI x1 nC.1 nC.2.1 nC.2.2))
  exact LT.next mixed (hs:=⟨[(0,[]),(1,[]),(6,[]),(7,[]),(8,[]),(21,[]),(22,[])],[⟨.tmp 6,[],none⟩,⟨.tmp 8,[],none⟩],false,[],[]⟩) (es:=none) [dt,.call ⟨true,[]⟩ (.int .i64 1) [],dt,.call ⟨true,[]⟩ (.int .u64 aQ.1) [(.row [(.sl 1 (List.map aN aQ.2.1)),(.bool aQ.2.2)])],.rows (List.map aU [(aQ.1,(ByteArray.mk #[]))]),.n 1] [⟨(rfl:bV (1*24)=true)⟩,⟨(rfl:(List.map aU [(aQ.1,(ByteArray.mk #[]))]).length=1)⟩,⟨(bS aU (l:=[(aQ.1,(ByteArray.mk #[]))]) (n:=1) rfl)⟩,⟨(b9 aU (Nat.le_refl 1):0+1≤(List.map aU [(aQ.1,(ByteArray.mk #[]))]).length)⟩,⟨(dE k 1 x1 false _ eL0)⟩,⟨(rfl:ltI 0 1=true)⟩,⟨(fY)⟩,⟨(rfl:ltI 0 4=true)⟩] (by kernel_rfl) (vT x1 aQ _ k eL1)
theorem aA9 (k:Nat) (x1:List Int) (r:Ty5 × Int) (h:iF k x1=some r):Tri Tryz.prog 36 [(.str (ByteArray.mk #[97,98,97,100])),(.sl 1 (List.map aN x1))] [] (.tup [(.sl 2 (List.map aU r.1)),(.int .i64 r.2)]) []:=by
 unfold iF at h
 obtain⟨x3,e0,h⟩:=bsm h
 let u1:List Ans:=[.call ⟨true,[]⟩ (.bool (eqS (ByteArray.mk #[]) (ByteArray.mk #[]))) [],df,.norm 2 ⟨[(0,[]),(1,[]),(6,[]),(7,[]),(8,[]),(21,[]),(22,[])],[⟨.tmp 6,[],none⟩],false,[],[]⟩,.out (.st .normal (aBI x1 x3.1 x3.2.1 x3.2.2))]
 let w2:List Prf:=[⟨(LT.block (wX x1 _ k e0))⟩,⟨(nF (gJ (ByteArray.mk #[])))⟩,⟨(q9)⟩]
 by_cases c2:x3.2.1=true
 · rw[if_pos c2] at h
   obtain rfl:=osi h
   exact Tri.of (x:=zE) mixed qH (u1++[dt,dt,dt,dt,dt,dt,dt,dt,dt,dt,dt,dt,aHO]) ([⟨rT⟩,⟨rT⟩,⟨rT⟩,⟨rT⟩,⟨rT⟩,⟨c2⟩,⟨c2⟩,⟨c2⟩,⟨c2⟩,⟨c2⟩,⟨c2⟩,⟨c2⟩]++w2) (by kernel_rfl)
 rw[if_neg c2] at h;replace c2:=eqf c2
 let u3:List Ans:=u1++[df,df,df,df,df,.n x3.1.length,df,df]
 let w4:List Prf:=[⟨c2⟩,⟨c2⟩,⟨(bK aN x3.1)⟩,⟨c2⟩,⟨c2⟩,⟨c2⟩,⟨c2⟩,⟨c2⟩]++w2
 by_cases c3:ltI 0 (nI x3.1.length)=true
 · rw[if_pos c3] at h
   obtain rfl:=osi h
   exact Tri.of (x:=zE) mixed qH (u3++[dt,dt,dt,dt,dt,aHO]) ([⟨rT⟩,⟨c3⟩,⟨c3⟩,⟨c3⟩,⟨c3⟩]++w4) (by kernel_rfl)
 rw[if_neg c3] at h;replace c3:=eqf c3
 let w6:List Prf:=[⟨c3⟩,⟨c3⟩,⟨(bK aN x1)⟩,⟨c3⟩,⟨c3⟩]++w4
 by_cases c4:ltI 4000 (nI x1.length)=true
 · rw[if_pos c4] at h
   obtain rfl:=osi h
   exact Tri.of (x:=zE) mixed qH (u3++[df,df,.n x1.length,df,df,dt,aHO]) ([⟨c4⟩]++w6) (by kernel_rfl)
 rw[if_neg c4] at h;replace c4:=eqf c4
 obtain rfl:=osi h
 exact Tri.of (x:=zE) mixed qH (u3++[df,df,.n x1.length,df,df,df,.rows (List.map aU x3.2.2)]) ([⟨(bS aU (l:=x3.2.2) (n:=x3.2.2.length) rfl)⟩,⟨(b9 aU (Nat.le_refl x3.2.2.length):0+x3.2.2.length≤(List.map aU x3.2.2).length)⟩,⟨c4⟩]++w6) (by kernel_rfl)
end Go.Ws

namespace Go.Ws
open Go.Proofs
set_option linter.unusedSimpArgs false
set_option linter.unusedVariables false
set_option maxRecDepth 1000000
set_option maxHeartbeats 4000000
noncomputable def X37:Ctx:=⟨Tryz.f37,[],true⟩
theorem aDI (x1:Int):Tri Tryz.prog 37 [(.int .u64 x1)] [] (.int .i64 (iU x1)) []:=by
 obtain⟨r,h⟩:∃r,iU x1=r:=⟨_,rfl⟩
 try rw[h]
 unfold iU at h
 obtain rfl:=h
 exact Tri.of (x:=X37) mixed facts37 [] [] (by kernel_rfl)
end Go.Ws

namespace Go.Ws
open Go.Proofs
set_option linter.unusedSimpArgs false
set_option linter.unusedVariables false
set_option maxRecDepth 1000000
set_option maxHeartbeats 4000000
noncomputable def X13:Ctx:=⟨Tryz.f13,[],true⟩
theorem aEO (k:Nat) (x1:List Int) (r:Int × Int × Int × Int × Int) (h:mV k x1=some r):Tri Tryz.prog 13 [(.sl 1 (List.map aN x1))] [] (.tup [(.agg [(.int .i64 r.1),(.int .i64 r.2.1),(.int .u8 r.2.2.1),(.int .i64 r.2.2.2.1)]),(.int .i64 r.2.2.2.2)]) []:=by
 unfold mV at h
 obtain⟨x2,e0,h⟩:=bsm h
 let w2:List Prf:=[⟨(aA9 k x1 _ e0)⟩]
 by_cases c1:eqI x2.2 0=true
 · rw[if_pos c1] at h
   let u3:List Ans:=[.call ⟨true,[]⟩ (.tup [(.sl 2 (List.map aU x2.1)),(.int .i64 x2.2)]) [],df,df,.n x2.1.length,df,df]
   let w4:List Prf:=[⟨(nF c1)⟩,⟨(nF c1)⟩,⟨(bK aU x2.1)⟩,⟨(nF c1)⟩,⟨(nF c1)⟩]++w2
   by_cases c2:eqI (nI x2.1.length) 4=true
   · rw[if_pos c2] at h
     by_cases c3:inI 0 x2.1.length=true
     · rw[if_pos c3] at h
       obtain⟨x3,e4,h⟩:=bsm h
       by_cases c5:inI 1 x2.1.length=true
       · rw[if_pos c5] at h
         obtain⟨x4,e6,h⟩:=bsm h
         by_cases c7:inI 2 x2.1.length=true
         · rw[if_pos c7] at h
           obtain⟨x5,e8,h⟩:=bsm h
           by_cases c9:inI 3 x2.1.length=true
           · rw[if_pos c9] at h
             obtain⟨x6,e10,h⟩:=bsm h
             obtain rfl:=osi h
             exact Tri.of (x:=X13) mixed aH9 (u3++[df,.n x2.1.length,.row [(.int .u64 x3.1)],.n x2.1.length,.row [(.int .u64 x4.1)],.n x2.1.length,.row [(.int .u64 x5.1)],.n x2.1.length,.row [(.int .u64 x6.1)],.call ⟨true,[]⟩ (.int .i64 (iU x6.1)) []]) ([⟨(aDI x6.1)⟩,⟨(cL (e:=aU) e10 2 0 1 (by decide))⟩,⟨c9⟩,⟨(bK aU x2.1)⟩,⟨(cL (e:=aU) e8 2 0 1 (by decide))⟩,⟨c7⟩,⟨(bK aU x2.1)⟩,⟨(cL (e:=aU) e6 2 0 1 (by decide))⟩,⟨c5⟩,⟨(bK aU x2.1)⟩,⟨(cL (e:=aU) e4 2 0 1 (by decide))⟩,⟨c3⟩,⟨(bK aU x2.1)⟩,⟨(nF c2)⟩]++w4) (by kernel_rfl)
           rw[if_neg c9] at h;replace c9:=eqf c9
           cases h
         rw[if_neg c7] at h;replace c7:=eqf c7
         cases h
       rw[if_neg c5] at h;replace c5:=eqf c5
       cases h
     rw[if_neg c3] at h;replace c3:=eqf c3
     cases h
   rw[if_neg c2] at h;replace c2:=eqf c2
   obtain rfl:=osi h
   exact Tri.of (x:=X13) mixed aH9 (u3++[dt]) ([⟨(nT c2)⟩]++w4) (by kernel_rfl)
 rw[if_neg c1] at h;replace c1:=eqf c1
 obtain rfl:=osi h
 exact Tri.of (x:=X13) mixed aH9 [.call ⟨true,[]⟩ (.tup [(.sl 2 (List.map aU x2.1)),(.int .i64 x2.2)]) [],dt,dt,dt,dt,dt] ([⟨rT⟩,⟨(nT c1)⟩,⟨(nT c1)⟩,⟨(nT c1)⟩,⟨(nT c1)⟩]++w2) (by kernel_rfl)
end Go.Ws

namespace Go.Ws
open Go.Proofs
set_option linter.unusedSimpArgs false
set_option linter.unusedVariables false
set_option maxRecDepth 1000000
set_option maxHeartbeats 4000000
noncomputable def X6:Ctx:=⟨Tryz.f6,[],false⟩
theorem aI3:Tri Tryz.prog 6 [] [] (.hp 0 0) [(.row [.nils,.nils,(.mp 1),.nils]),(.map (aZ .i64 (fun y=>AV.agg (oB y)) ([]:List (Int × (Int × (List (Int × Int)) × Bool × Int)))) ([]:List (Int × (Int × (List (Int × Int)) × Bool × Int))).length)]:=by
 obtain⟨r,h⟩:∃r,aDT=r:=⟨_,rfl⟩
 try rw[h]
 unfold aDT at h
 obtain rfl:=h
 exact Tri.of (x:=X6) mixed facts6 [.norm 0 ⟨[(0,[])],[⟨.tmp 0,[],none⟩,⟨.cell 0 2,[],none⟩],false,[],[]⟩] [] (by kernel_rfl)
end Go.Ws

namespace Go.Ws
open Go.Proofs
set_option linter.unusedSimpArgs false
set_option linter.unusedVariables false
set_option maxRecDepth 1000000
set_option maxHeartbeats 4000000
noncomputable def X5:Ctx:=⟨Tryz.f5,[],true⟩
theorem r7 (k:Nat) (r:Bool) (h:kD k=some r):Tri Tryz.prog 5 [] [] (.bool r) []:=by
 unfold kD at h
 obtain⟨x1,e0,h⟩:=bsm h
 obtain⟨x2,e1,h⟩:=bsm h
 obtain⟨x3,e2,h⟩:=bsm h
 obtain⟨x4,e3,h⟩:=bsm h
 obtain⟨x5,e4,h⟩:=bsm h
 let u1:List Ans:=[.call ⟨true,[]⟩ (.tup [(.sl 1 (List.map aN x1.1)),(.int .i64 x1.2)]) [],.call ⟨true,[[(0,1)]]⟩ (.tup [(.agg [(.sl 1 (List.map aN x2.1)),(.int .i64 x2.2.1),(.int .i64 x2.2.2.1)]),(.int .i64 x2.2.2.2)]) [],.call ⟨true,[]⟩ (.agg [(.sl 1 (List.map aN x3.1)),(.int .i64 x3.2.1),(.int .i64 x3.2.2)]) [],.call ⟨true,[]⟩ (.agg [(.sl 1 (List.map aN x4.1)),(.int .i64 x4.2.1),(.int .i64 x4.2.2)]) [],.call ⟨true,[]⟩ (.tup [(.sl 1 (List.map fT x5.1)),(.int .i64 x5.2)]) []]
 let w2:List Prf:=[⟨(aCH k x4.1 x4.2.1 x4.2.2 _ e4)⟩,⟨(aEH k x3.1 x3.2.1 x3.2.2 0 _ e3)⟩,⟨(y6 k x2.1 x2.2.1 x2.2.2.1 _ e2)⟩,⟨(aDR k [] 0 1000 x1.1 _ e1)⟩,⟨(aGW k 3 300 3 (-5) _ e0)⟩]
 by_cases c5:eqI x1.2 0=true
 · rw[if_pos c5] at h
   let w4:List Prf:=[⟨(nF c5)⟩,⟨(nF c5)⟩,⟨(nF c5)⟩]++w2
   by_cases c6:eqI x2.2.2.2 0=true
   · rw[if_pos c6] at h
     let u5:List Ans:=u1++[df,df,df,df,df,.n x5.1.length,df,df]
     let w6:List Prf:=[⟨(nF c6)⟩,⟨(nF c6)⟩,⟨(bK fT x5.1)⟩,⟨(nF c6)⟩,⟨(nF c6)⟩]++w4
     by_cases c7:eqI (nI x5.1.length) 1=true
     · rw[if_pos c7] at h
       by_cases c8:inI 0 x5.1.length=true
       · rw[if_pos c8] at h
         obtain⟨x6,e9,h⟩:=bsm h
         obtain⟨x7,e10,h⟩:=bsm h
         let u7:List Ans:=u5++[df,.n x5.1.length,.row [(.sl 1 (List.map aN x6))],.call ⟨true,[]⟩ (.tup [(.agg [(.int .i64 x7.1),(.int .i64 x7.2.1),(.int .u8 x7.2.2.1),(.int .i64 x7.2.2.2.1)]),(.int .i64 x7.2.2.2.2)]) [],.call ⟨true,[]⟩ (.hp 0 0) [(.row [.nils,.nils,(.mp 1),.nils]),(.map (aZ .i64 (fun y=>AV.agg (oB y)) ([]:List (Int × (Int × (List (Int × Int)) × Bool × Int)))) ([]:List (Int × (Int × (List (Int × Int)) × Bool × Int))).length)]]
         let w8:List Prf:=[⟨(aI3)⟩,⟨(aEO k x6 _ e10)⟩,⟨(cL (e:=fT) e9 1 0 1 (by decide))⟩,⟨c8⟩,⟨(bK fT x5.1)⟩,⟨(nF c7)⟩]++w6
         by_cases c11:eqI x7.2.2.2.2 0=true
         · rw[if_pos c11] at h
           by_cases c12:eqI x7.1 3=true
           · rw[if_pos c12] at h
             by_cases c13:eqI x7.2.1 300=true
             · rw[if_pos c13] at h
               by_cases c14:eqI x7.2.2.1 3=true
               · rw[if_pos c14] at h
                 by_cases c15:eqI x7.2.2.2.1 (-5)=true
                 · rw[if_pos c15] at h
                   obtain rfl:=osi h
                   exact Tri.of (x:=X5) mixed rW (u7++[dt,dt,dt,dt,dt,dt,dt]) ([⟨(aT c12 (aT c13 (aT c14 c15)))⟩,⟨(aT c12 (aT c13 (aT c14 c15)))⟩,⟨(aT c12 (aT c13 (aT c14 c15)))⟩,⟨c11⟩,⟨c11⟩,⟨c11⟩,⟨c11⟩]++w8) (by kernel_rfl)
                 rw[if_neg c15] at h;replace c15:=eqf c15
                 obtain rfl:=osi h
                 exact Tri.of (x:=X5) mixed rW (u7++[dt,dt,dt,dt,df,df,df]) ([⟨(aF2 c12 (aF2 c13 (aF2 c14 c15)))⟩,⟨(aF2 c12 (aF2 c13 (aF2 c14 c15)))⟩,⟨(aF2 c12 (aF2 c13 (aF2 c14 c15)))⟩,⟨c11⟩,⟨c11⟩,⟨c11⟩,⟨c11⟩]++w8) (by kernel_rfl)
               rw[if_neg c14] at h;replace c14:=eqf c14
               obtain rfl:=osi h
               exact Tri.of (x:=X5) mixed rW (u7++[dt,dt,dt,dt,df,df,df]) ([⟨(aF2 c12 (aF2 c13 (aF1 (b:=eqI x7.2.2.2.1 (-5)) c14)))⟩,⟨(aF2 c12 (aF2 c13 (aF1 (b:=eqI x7.2.2.2.1 (-5)) c14)))⟩,⟨(aF2 c12 (aF2 c13 (aF1 (b:=eqI x7.2.2.2.1 (-5)) c14)))⟩,⟨c11⟩,⟨c11⟩,⟨c11⟩,⟨c11⟩]++w8) (by kernel_rfl)
             rw[if_neg c13] at h;replace c13:=eqf c13
             obtain rfl:=osi h
             exact Tri.of (x:=X5) mixed rW (u7++[dt,dt,dt,dt,df,df,df]) ([⟨(aF2 c12 (aF1 (b:=(eqI x7.2.2.1 3 && eqI x7.2.2.2.1 (-5))) c13))⟩,⟨(aF2 c12 (aF1 (b:=(eqI x7.2.2.1 3 && eqI x7.2.2.2.1 (-5))) c13))⟩,⟨(aF2 c12 (aF1 (b:=(eqI x7.2.2.1 3 && eqI x7.2.2.2.1 (-5))) c13))⟩,⟨c11⟩,⟨c11⟩,⟨c11⟩,⟨c11⟩]++w8) (by kernel_rfl)
           rw[if_neg c12] at h;replace c12:=eqf c12
           obtain rfl:=osi h
           exact Tri.of (x:=X5) mixed rW (u7++[dt,dt,dt,dt,df,df,df]) ([⟨(aF1 (b:=(eqI x7.2.1 300 && (eqI x7.2.2.1 3 && eqI x7.2.2.2.1 (-5)))) c12)⟩,⟨(aF1 (b:=(eqI x7.2.1 300 && (eqI x7.2.2.1 3 && eqI x7.2.2.2.1 (-5)))) c12)⟩,⟨(aF1 (b:=(eqI x7.2.1 300 && (eqI x7.2.2.1 3 && eqI x7.2.2.2.1 (-5)))) c12)⟩,⟨c11⟩,⟨c11⟩,⟨c11⟩,⟨c11⟩]++w8) (by kernel_rfl)
         rw[if_neg c11] at h;replace c11:=eqf c11
         obtain rfl:=osi h
         exact Tri.of (x:=X5) mixed rW (u7++[df,df,df,df,df,df,df]) ([⟨rF⟩,⟨rF⟩,⟨rF⟩,⟨c11⟩,⟨c11⟩,⟨c11⟩,⟨c11⟩]++w8) (by kernel_rfl)
       rw[if_neg c8] at h;replace c8:=eqf c8
       cases h
     rw[if_neg c7] at h;replace c7:=eqf c7
     obtain rfl:=osi h
     exact Tri.of (x:=X5) mixed rW (u5++[dt]) ([⟨(nT c7)⟩]++w6) (by kernel_rfl)
   rw[if_neg c6] at h;replace c6:=eqf c6
   obtain rfl:=osi h
   exact Tri.of (x:=X5) mixed rW (u1++[df,df,df,dt,dt,dt,dt,dt]) ([⟨rT⟩,⟨(nT c6)⟩,⟨(nT c6)⟩,⟨(nT c6)⟩,⟨(nT c6)⟩]++w4) (by kernel_rfl)
 rw[if_neg c5] at h;replace c5:=eqf c5
 obtain rfl:=osi h
 exact Tri.of (x:=X5) mixed rW (u1++[dt,dt,dt,dt,dt,dt,dt,dt]) ([⟨rT⟩,⟨rT⟩,⟨rT⟩,⟨rT⟩,⟨rT⟩,⟨(nT c5)⟩,⟨(nT c5)⟩,⟨(nT c5)⟩]++w2) (by kernel_rfl)
end Go.Ws

namespace Go.Ws
open Go.Proofs
set_option linter.unusedSimpArgs false
set_option linter.unusedVariables false
set_option maxRecDepth 1000000
set_option maxHeartbeats 4000000
noncomputable def X17:Ctx:=⟨Tryz.f17,[],false⟩
theorem aHN:Tri Tryz.prog 17 [(.int .i64 8)] [] (.hp 0 0) [(.row [(.int .i64 8),(.mp 1),(.mp 2)]),(.map (aZ .u8 (fun y=>AV.agg (aB y)) ([]:Ty0)) ([]:Ty0).length),(.map (aZ .u8 (fun y=>AV.agg (aB y)) ([]:Ty0)) ([]:Ty0).length)]:=by
 obtain⟨r,h⟩:∃r,aBF=r:=⟨_,rfl⟩
 try rw[h]
 unfold aBF at h
 obtain rfl:=h
 exact Tri.of (x:=X17) mixed facts17 [df,df,df,df,.norm 0 ⟨[(2,[])],[⟨.tmp 2,[],none⟩,⟨.cell 0 1,[],none⟩,⟨.cell 0 2,[],none⟩],false,[],[]⟩] [⟨(rfl:ltI 10000 8=false)⟩,⟨(rfl:ltI 8 1=false)⟩,⟨(rfl:ltI 8 1=false)⟩,⟨(rfl:ltI 8 1=false)⟩] (by kernel_rfl)
end Go.Ws

namespace Go.Ws
open Go.Proofs
set_option linter.unusedSimpArgs false
set_option linter.unusedVariables false
set_option maxRecDepth 1000000
set_option maxHeartbeats 4000000
noncomputable def X40_1 (x1:Int) (x2:Ty0) (x3:Ty0):Ctx:=⟨Tryz.f40,[(.row [(.int .i64 x1),(.mp 1),(.mp 2)]),(.map (aZ .u8 (fun y=>AV.agg (aB y)) x2) x2.length),(.map (aZ .u8 (fun y=>AV.agg (aB y)) x3) x3.length)],false⟩
theorem uX (x1:Int) (x2:Ty0) (x3:Ty0):Tri Tryz.prog 40 [(.hp 0 0)] [(.row [(.int .i64 x1),(.mp 1),(.mp 2)]),(.map (aZ .u8 (fun y=>AV.agg (aB y)) x2) x2.length),(.map (aZ .u8 (fun y=>AV.agg (aB y)) x3) x3.length)] (.bool (ltI 0 x1)) [(.row [(.int .i64 x1),(.mp 1),(.mp 2)]),(.map (aZ .u8 (fun y=>AV.agg (aB y)) x2) x2.length),(.map (aZ .u8 (fun y=>AV.agg (aB y)) x3) x3.length)]:=by
 obtain⟨r,h⟩:∃r,m5 x1 x2 x3=r:=⟨_,rfl⟩
 try rw[h]
 unfold m5 at h
 obtain rfl:=h
 exact Tri.of (x:=(X40_1 x1 x2 x3)) mixed aLL [dt,dt,dt,dt,dt,dt,.norm 0 ⟨[(2,[])],[],false,[],[]⟩] [⟨(nT rfl)⟩,⟨(nT rfl)⟩,⟨(nT rfl)⟩,⟨(nT rfl)⟩,⟨(nT rfl)⟩,⟨(nT rfl)⟩] (by kernel_rfl)
end Go.Ws

namespace Go.Ws
open Go.Proofs
set_option linter.unusedSimpArgs false
set_option linter.unusedVariables false
set_option maxRecDepth 1000000
set_option maxHeartbeats 4000000
noncomputable def X21 (x2:Int) (x3:Ty0) (x4:Ty0):Ctx:=⟨Tryz.f21,[(.row [(.int .i64 x2),(.mp 1),(.mp 2)]),(.map (aZ .u8 (fun y=>AV.agg (aB y)) x3) x3.length),(.map (aZ .u8 (fun y=>AV.agg (aB y)) x4) x4.length)],false⟩
def A21_0 (x2:Int) (x3:Ty0) (x4:Ty0):Ans:=.call ⟨true,[]⟩ (.bool (ltI 0 x2)) [(.row [(.int .i64 x2),(.mp 1),(.mp 2)]),(.map (aZ .u8 (fun y=>AV.agg (aB y)) x3) x3.length),(.map (aZ .u8 (fun y=>AV.agg (aB y)) x4) x4.length)]
def A21_1:Ans:=.norm 0 ⟨[(4,[]),(5,[])],[⟨.tmp 4,[],none⟩],false,[],[]⟩
theorem yS (k:Nat) (x1:Int) (x2:Int) (x3:Ty0) (x4:Ty0) (r:Int × Int × Int × Int × ByteArray × Bool × Int) (h:gX k x1 x2 x3 x4=some r):Tri Tryz.prog 21 [(.hp 0 0),(.int .u8 x1)] [(.row [(.int .i64 x2),(.mp 1),(.mp 2)]),(.map (aZ .u8 (fun y=>AV.agg (aB y)) x3) x3.length),(.map (aZ .u8 (fun y=>AV.agg (aB y)) x4) x4.length)] (.tup [(.agg [(.int .u8 r.1),(.int .i64 r.2.1),(.int .i64 r.2.2.1),(.int .u8 r.2.2.2.1),(.str r.2.2.2.2.1),(.bool r.2.2.2.2.2.1)]),(.int .i64 r.2.2.2.2.2.2)]) [(.row [(.int .i64 x2),(.mp 1),(.mp 2)]),(.map (aZ .u8 (fun y=>AV.agg (aB y)) x3) x3.length),(.map (aZ .u8 (fun y=>AV.agg (aB y)) x4) x4.length)]:=by
 unfold gX at h
 let w2:List Prf:=[⟨(uX x2 x3 x4)⟩]
 by_cases c0:ltI 0 x2=true
 · rw[if_pos c0] at h
   by_cases c1:mHas x3 x1=true
   · rw[if_pos c1] at h
     obtain⟨x5,e2,h⟩:=bsm h
     obtain rfl:=osi h
     exact Tri.of (x:=(X21 x2 x3 x4)) mixed aAF [(A21_0 x2 x3 x4),df,.opt (some (.agg [(.int .u8 x5.1),(.int .i64 x5.2.1),(.int .i64 x5.2.2.1),(.int .u8 x5.2.2.2.1),(.str x5.2.2.2.2.1),(.bool x5.2.2.2.2.2)])),df,A21_1] ([⟨(nF rfl)⟩,⟨(aFR .u8 (fun y=>AV.agg (aB y)) e2)⟩,⟨(nF c0)⟩]++w2) (by kernel_rfl)
   rw[if_neg c1] at h;replace c1:=eqf c1
   obtain rfl:=osi h
   exact Tri.of (x:=(X21 x2 x3 x4)) mixed aAF [(A21_0 x2 x3 x4),df,.opt none,dt,A21_1] ([⟨(nT rfl)⟩,⟨(aEU .u8 (fun y=>AV.agg (aB y)) c1)⟩,⟨(nF c0)⟩]++w2) (by kernel_rfl)
 rw[if_neg c0] at h;replace c0:=eqf c0
 obtain rfl:=osi h
 exact Tri.of (x:=(X21 x2 x3 x4)) mixed aAF [(A21_0 x2 x3 x4),dt,A21_1] ([⟨(nT c0)⟩]++w2) (by kernel_rfl)
end Go.Ws

namespace Go.Ws
open Go.Proofs
set_option linter.unusedSimpArgs false
set_option linter.unusedVariables false
set_option maxRecDepth 1000000
set_option maxHeartbeats 4000000
noncomputable def X18 (x8:Int) (x9:Ty0) (x10:Ty0):Ctx:=⟨Tryz.f18,[(.row [(.int .i64 x8),(.mp 1),(.mp 2)]),(.map (aZ .u8 (fun y=>AV.agg (aB y)) x9) x9.length),(.map (aZ .u8 (fun y=>AV.agg (aB y)) x10) x10.length)],false⟩
def A18_0 (x8:Int) (x9:Ty0) (x10:Ty0) (x11:Int × Int × Int × Int × ByteArray × Bool × Int):Ans:=.call ⟨true,[]⟩ (.tup [(.agg [(.int .u8 x11.1),(.int .i64 x11.2.1),(.int .i64 x11.2.2.1),(.int .u8 x11.2.2.2.1),(.str x11.2.2.2.2.1),(.bool x11.2.2.2.2.2.1)]),(.int .i64 x11.2.2.2.2.2.2)]) [(.row [(.int .i64 x8),(.mp 1),(.mp 2)]),(.map (aZ .u8 (fun y=>AV.agg (aB y)) x9) x9.length),(.map (aZ .u8 (fun y=>AV.agg (aB y)) x10) x10.length)]
theorem gB (k:Nat) (x1:Int) (x2:Int) (x3:Int) (x4:Int) (x5:Int) (x6:ByteArray) (x7:Bool) (x8:Int) (x9:Ty0) (x10:Ty0) (r:Int × Ty0) (h:eS k x1 x2 x3 x4 x5 x6 x7 x8 x9 x10=some r):Tri Tryz.prog 18 [(.hp 0 0),(.int .u8 x1),(.agg [(.int .u8 x2),(.int .i64 x3),(.int .i64 x4),(.int .u8 x5),(.str x6),(.bool x7)])] [(.row [(.int .i64 x8),(.mp 1),(.mp 2)]),(.map (aZ .u8 (fun y=>AV.agg (aB y)) x9) x9.length),(.map (aZ .u8 (fun y=>AV.agg (aB y)) x10) x10.length)] (.int .i64 r.1) [(.row [(.int .i64 x8),(.mp 1),(.mp 2)]),(.map (aZ .u8 (fun y=>AV.agg (aB y)) r.2) r.2.length),(.map (aZ .u8 (fun y=>AV.agg (aB y)) x10) x10.length)]:=by
 unfold eS at h
 obtain⟨x11,e0,h⟩:=bsm h
 let w2:List Prf:=[⟨(yS k x1 x8 x9 x10 _ e0)⟩]
 by_cases c1:eqI x11.2.2.2.2.2.2 1=true
 · rw[if_pos c1] at h
   obtain rfl:=osi h
   exact Tri.of (x:=(X18 x8 x9 x10)) mixed aCK [(A18_0 x8 x9 x10 x11),dt,.norm 0 ⟨[(6,[])],[],false,[],[]⟩] ([⟨c1⟩]++w2) (by kernel_rfl)
 rw[if_neg c1] at h;replace c1:=eqf c1
 by_cases c2:eqI x11.2.2.2.2.2.2 7=true
 · rw[if_pos c2] at h
   let u5:List Ans:=[(A18_0 x8 x9 x10 x11),df,dt,dt,dt,dt,dt,.n x9.length,dt,dt,dt,dt,dt,dt]
   let w6:List Prf:=[⟨c2⟩,⟨c2⟩,⟨c2⟩,⟨c2⟩,⟨c2⟩,⟨c2⟩,⟨(aBU .u8 (fun y=>AV.agg (aB y)) x9)⟩,⟨c2⟩,⟨c2⟩,⟨c2⟩,⟨c2⟩,⟨c2⟩,⟨c1⟩]++w2
   by_cases c3:ltI (nI x9.length) x8=true
   · rw[if_pos c3] at h
     obtain rfl:=osi h
     exact Tri.of (x:=(X18 x8 x9 x10)) mixed aCK (u5++[df,.ents (aZ .u8 (fun y=>AV.agg (aB y)) (qV x9 x1 (x2,x3,x4,x5,x6,x7))) (qV x9 x1 (x2,x3,x4,x5,x6,x7)).length,.norm 0 ⟨[(6,[])],[],false,[],[]⟩]) ([⟨(aL3 .u8 (fun y=>AV.agg (aB y)) x9 x1 (x2,x3,x4,x5,x6,x7))⟩,⟨(nF c3)⟩]++w6) (by kernel_rfl)
   rw[if_neg c3] at h;replace c3:=eqf c3
   obtain rfl:=osi h
   exact Tri.of (x:=(X18 x8 x9 x10)) mixed aCK (u5++[dt,.norm 0 ⟨[(6,[])],[],false,[],[]⟩]) ([⟨(nT c3)⟩]++w6) (by kernel_rfl)
 rw[if_neg c2] at h;replace c2:=eqf c2
 obtain rfl:=osi h
 exact Tri.of (x:=(X18 x8 x9 x10)) mixed aCK [(A18_0 x8 x9 x10 x11),df,df,df,df,df,df,df,df,df,df,df,df,df,.ents (aZ .u8 (fun y=>AV.agg (aB y)) (qV x9 x1 (x2,x3,x4,x5,x6,x7))) (qV x9 x1 (x2,x3,x4,x5,x6,x7)).length,.norm 0 ⟨[(6,[])],[],false,[],[]⟩] ([⟨(aL3 .u8 (fun y=>AV.agg (aB y)) x9 x1 (x2,x3,x4,x5,x6,x7))⟩,⟨rF⟩,⟨c2⟩,⟨c2⟩,⟨c2⟩,⟨c2⟩,⟨c2⟩,⟨c2⟩,⟨c2⟩,⟨c2⟩,⟨c2⟩,⟨c2⟩,⟨c2⟩,⟨c1⟩]++w2) (by kernel_rfl)
end Go.Ws

namespace Go.Ws
open Go.Proofs
set_option linter.unusedSimpArgs false
set_option linter.unusedVariables false
set_option maxRecDepth 1000000
set_option maxHeartbeats 4000000
noncomputable def X19 (x1:Ty0) (x2:Ty0):Ctx:=⟨Tryz.f19,[(.row [(.int .i64 8),(.mp 1),(.mp 2)]),(.map (aZ .u8 (fun y=>AV.agg (aB y)) x1) x1.length),(.map (aZ .u8 (fun y=>AV.agg (aB y)) x2) x2.length)],false⟩
theorem iN (x1:Ty0) (x2:Ty0):Tri Tryz.prog 19 [(.hp 0 0)] [(.row [(.int .i64 8),(.mp 1),(.mp 2)]),(.map (aZ .u8 (fun y=>AV.agg (aB y)) x1) x1.length),(.map (aZ .u8 (fun y=>AV.agg (aB y)) x2) x2.length)] (.int .i64 0) [(.row [(.int .i64 8),(.mp 1),(.mp 3)]),(.map (aZ .u8 (fun y=>AV.agg (aB y)) x1) x1.length),(.map (aZ .u8 (fun y=>AV.agg (aB y)) x2) x2.length),(.map (aZ .u8 (fun y=>AV.agg (aB y)) x1) x1.length)]:=by
 obtain⟨r,h⟩:∃r,o8 x1 x2=r:=⟨_,rfl⟩
 try rw[h]
 unfold o8 at h
 obtain rfl:=h
 exact Tri.of (x:=(X19 x1 x2)) mixed facts19 [.call ⟨true,[]⟩ (.bool (ltI 0 8)) [(.row [(.int .i64 8),(.mp 1),(.mp 2)]),(.map (aZ .u8 (fun y=>AV.agg (aB y)) x1) x1.length),(.map (aZ .u8 (fun y=>AV.agg (aB y)) x2) x2.length)],df,.call ⟨false,[]⟩ (.mp 1) [(.map (aZ .u8 (fun y=>AV.agg (aB y)) x1) x1.length),(.map (aZ .u8 (fun y=>AV.agg (aB y)) x1) x1.length)],.norm 0 ⟨[(2,[])],[⟨.cell 0 2,[],none⟩],false,[],[]⟩] [⟨(qP x1)⟩,⟨(nF (rfl:ltI 0 8=true))⟩,⟨(gF x1 x2)⟩] (by kernel_rfl)
end Go.Ws

namespace Go.Ws
open Go.Proofs
set_option linter.unusedSimpArgs false
set_option linter.unusedVariables false
set_option maxRecDepth 1000000
set_option maxHeartbeats 4000000
noncomputable def X20 (x1:Ty0) (x2:Ty0):Ctx:=⟨Tryz.f20,[(.row [(.int .i64 8),(.mp 1),(.mp 2)]),(.map (aZ .u8 (fun y=>AV.agg (aB y)) x1) x1.length),(.map (aZ .u8 (fun y=>AV.agg (aB y)) x2) x2.length)],false⟩
theorem zW (x1:Ty0) (x2:Ty0):Tri Tryz.prog 20 [(.hp 0 0)] [(.row [(.int .i64 8),(.mp 1),(.mp 2)]),(.map (aZ .u8 (fun y=>AV.agg (aB y)) x1) x1.length),(.map (aZ .u8 (fun y=>AV.agg (aB y)) x2) x2.length)] (.int .i64 0) [(.row [(.int .i64 8),(.mp 3),(.mp 2)]),(.map (aZ .u8 (fun y=>AV.agg (aB y)) x1) x1.length),(.map (aZ .u8 (fun y=>AV.agg (aB y)) x2) x2.length),(.map (aZ .u8 (fun y=>AV.agg (aB y)) x2) x2.length)]:=by
 obtain⟨r,h⟩:∃r,pB x1 x2=r:=⟨_,rfl⟩
 try rw[h]
 unfold pB at h
 obtain rfl:=h
 exact Tri.of (x:=(X20 x1 x2)) mixed facts20 [.call ⟨true,[]⟩ (.bool (ltI 0 8)) [(.row [(.int .i64 8),(.mp 1),(.mp 2)]),(.map (aZ .u8 (fun y=>AV.agg (aB y)) x1) x1.length),(.map (aZ .u8 (fun y=>AV.agg (aB y)) x2) x2.length)],df,.call ⟨false,[]⟩ (.mp 1) [(.map (aZ .u8 (fun y=>AV.agg (aB y)) x2) x2.length),(.map (aZ .u8 (fun y=>AV.agg (aB y)) x2) x2.length)],.norm 0 ⟨[(2,[])],[⟨.cell 0 1,[],none⟩],false,[],[]⟩] [⟨(qP x2)⟩,⟨(nF (rfl:ltI 0 8=true))⟩,⟨(gF x1 x2)⟩] (by kernel_rfl)
end Go.Ws

namespace Go.Ws
open Go.Proofs
set_option linter.unusedSimpArgs false
set_option linter.unusedVariables false
set_option maxRecDepth 1000000
set_option maxHeartbeats 4000000
noncomputable def X21_1 (x2:Ty0) (x3:Ty0):Ctx:=⟨Tryz.f21,[(.row [(.int .i64 8),(.mp 1),(.mp 2)]),(.map (aZ .u8 (fun y=>AV.agg (aB y)) x2) x2.length),(.map (aZ .u8 (fun y=>AV.agg (aB y)) x3) x3.length)],false⟩
theorem fE (k:Nat) (x1:Int) (x2:Ty0) (x3:Ty0) (r:Int × Int × Int × Int × ByteArray × Bool × Int) (h:cZ k x1 x2 x3=some r):Tri Tryz.prog 21 [(.hp 0 0),(.int .u8 x1)] [(.row [(.int .i64 8),(.mp 1),(.mp 2)]),(.map (aZ .u8 (fun y=>AV.agg (aB y)) x2) x2.length),(.map (aZ .u8 (fun y=>AV.agg (aB y)) x3) x3.length)] (.tup [(.agg [(.int .u8 r.1),(.int .i64 r.2.1),(.int .i64 r.2.2.1),(.int .u8 r.2.2.2.1),(.str r.2.2.2.2.1),(.bool r.2.2.2.2.2.1)]),(.int .i64 r.2.2.2.2.2.2)]) [(.row [(.int .i64 8),(.mp 1),(.mp 2)]),(.map (aZ .u8 (fun y=>AV.agg (aB y)) x2) x2.length),(.map (aZ .u8 (fun y=>AV.agg (aB y)) x3) x3.length)]:=by
 unfold cZ at h
 let w2:List Prf:=[⟨(nF (rfl:ltI 0 8=true))⟩,⟨(gF x2 x3)⟩]
 by_cases c0:mHas x2 x1=true
 · rw[if_pos c0] at h
   obtain⟨x4,e1,h⟩:=bsm h
   obtain rfl:=osi h
   exact Tri.of (x:=(X21_1 x2 x3)) mixed aAF [.call ⟨true,[]⟩ (.bool (ltI 0 8)) [(.row [(.int .i64 8),(.mp 1),(.mp 2)]),(.map (aZ .u8 (fun y=>AV.agg (aB y)) x2) x2.length),(.map (aZ .u8 (fun y=>AV.agg (aB y)) x3) x3.length)],df,.opt (some (.agg [(.int .u8 x4.1),(.int .i64 x4.2.1),(.int .i64 x4.2.2.1),(.int .u8 x4.2.2.2.1),(.str x4.2.2.2.2.1),(.bool x4.2.2.2.2.2)])),df,.norm 0 ⟨[(4,[]),(5,[])],[⟨.tmp 4,[],none⟩],false,[],[]⟩] ([⟨(nF rfl)⟩,⟨(aFR .u8 (fun y=>AV.agg (aB y)) e1)⟩]++w2) (by kernel_rfl)
 rw[if_neg c0] at h;replace c0:=eqf c0
 obtain rfl:=osi h
 exact Tri.of (x:=(X21_1 x2 x3)) mixed aAF [.call ⟨true,[]⟩ (.bool (ltI 0 8)) [(.row [(.int .i64 8),(.mp 1),(.mp 2)]),(.map (aZ .u8 (fun y=>AV.agg (aB y)) x2) x2.length),(.map (aZ .u8 (fun y=>AV.agg (aB y)) x3) x3.length)],df,.opt none,dt,.norm 0 ⟨[(4,[]),(5,[])],[⟨.tmp 4,[],none⟩],false,[],[]⟩] ([⟨(nT rfl)⟩,⟨(aEU .u8 (fun y=>AV.agg (aB y)) c0)⟩]++w2) (by kernel_rfl)
end Go.Ws

namespace Go.Ws
open Go.Proofs
set_option linter.unusedSimpArgs false
set_option linter.unusedVariables false
set_option maxRecDepth 1000000
set_option maxHeartbeats 4000000
noncomputable def X42:Ctx:=⟨Tryz.f42,[],true⟩
theorem qS (x1:Int) (x2:Int) (x3:Int) (x4:Int) (x5:ByteArray) (x6:Bool):Tri Tryz.prog 42 [(.agg [(.int .u8 x1),(.int .i64 x2),(.int .i64 x3),(.int .u8 x4),(.str x5),(.bool x6)])] [] (.bool (cH x1 x2 x3 x4 x5 x6)) []:=by
 obtain⟨r,h⟩:∃r,cH x1 x2 x3 x4 x5 x6=r:=⟨_,rfl⟩
 try rw[h]
 unfold cH at h
 by_cases c0:ltI x1 8=true
 · rw[if_pos c0] at h
   let u1:List Ans:=[df,df,df,.call ⟨true,[]⟩ (.bool (bN x2 x3 x4)) [],df,df]
   let w2:List Prf:=[⟨(nF c0)⟩,⟨(nF c0)⟩,⟨(eT x2 x3 x4)⟩,⟨(nF c0)⟩,⟨(nF c0)⟩,⟨(nF c0)⟩]
   by_cases c1:(bN x2 x3 x4)=true
   · rw[if_pos c1] at h
     let w4:List Prf:=[⟨(nF c1)⟩,⟨(nF c1)⟩,⟨(nF c1)⟩,⟨(nF c1)⟩,⟨(nF c1)⟩]++w2
     by_cases c2:ltI 500 (ssz x5)=true
     · rw[if_pos c2] at h
       obtain rfl:=h
       exact Tri.of (x:=X42) mixed lE (u1++[df,df,df,df,df,dt]) ([⟨c2⟩]++w4) (by kernel_rfl)
     rw[if_neg c2] at h;replace c2:=eqf c2
     by_cases c3:eqI x3 2=true
     · rw[if_pos c3] at h
       let u7:List Ans:=u1++[df,df,df,df,df,df,dt,dt,dt,dt,dt,dt,dt]
       let w8:List Prf:=[⟨c3⟩,⟨c3⟩,⟨c3⟩,⟨c3⟩,⟨c3⟩,⟨c3⟩,⟨c3⟩,⟨c2⟩]++w4
       by_cases c4:eqI x4 x1=true
       · rw[if_pos c4] at h
         obtain rfl:=h
         exact Tri.of (x:=X42) mixed lE (u7++[dt,dt,dt,dt,dt,dt]) ([⟨rT⟩,⟨c4⟩,⟨c4⟩,⟨c4⟩,⟨c4⟩,⟨c4⟩]++w8) (by kernel_rfl)
       rw[if_neg c4] at h;replace c4:=eqf c4
       by_cases c5:x6=true
       · rw[if_pos c5] at h
         let u11:List Ans:=u7++[df,df,df,dt,dt,df,dt,df,df]
         let w12:List Prf:=[⟨(nF c3)⟩,⟨c4⟩,⟨c5⟩,⟨c4⟩,⟨c5⟩,⟨c5⟩,⟨c4⟩,⟨c4⟩,⟨c4⟩]++w8
         by_cases c6:eqS x5 (ByteArray.mk #[])=true
         · rw[if_pos c6] at h
           obtain rfl:=h
           exact Tri.of (x:=X42) mixed lE (u11++[dt,dt,dt,dt,dt]) ([⟨rT⟩,⟨rT⟩,⟨c6⟩,⟨c6⟩,⟨c6⟩]++w12) (by kernel_rfl)
         rw[if_neg c6] at h;replace c6:=eqf c6
         obtain rfl:=h
         exact Tri.of (x:=X42) mixed lE (u11++[df,df,df,dt,dt]) ([⟨c5⟩,⟨c5⟩,⟨c6⟩,⟨c6⟩,⟨c6⟩]++w12) (by kernel_rfl)
       rw[if_neg c5] at h;replace c5:=eqf c5
       let u13:List Ans:=u7++[df,df,df,df,df,df,df,df,df]
       let w14:List Prf:=[⟨rF⟩,⟨c4⟩,⟨c5⟩,⟨c4⟩,⟨c5⟩,⟨c5⟩,⟨c4⟩,⟨c4⟩,⟨c4⟩]++w8
       by_cases c6:eqS x5 (ByteArray.mk #[])=true
       · rw[if_pos c6] at h
         obtain rfl:=h
         exact Tri.of (x:=X42) mixed lE (u13++[dt,dt,dt,dt,dt]) ([⟨rT⟩,⟨rT⟩,⟨c6⟩,⟨c6⟩,⟨c6⟩]++w14) (by kernel_rfl)
       rw[if_neg c6] at h;replace c6:=eqf c6
       obtain rfl:=h
       exact Tri.of (x:=X42) mixed lE (u13++[df,df,df,df,df]) ([⟨c5⟩,⟨c5⟩,⟨c6⟩,⟨c6⟩,⟨c6⟩]++w14) (by kernel_rfl)
     rw[if_neg c3] at h;replace c3:=eqf c3
     let u15:List Ans:=u1++[df,df,df,df,df,df,df,df,df,df,df,df,df,df,df,df]
     let w16:List Prf:=[⟨rF⟩,⟨rF⟩,⟨rF⟩,⟨c3⟩,⟨c3⟩,⟨c3⟩,⟨c3⟩,⟨c3⟩,⟨c3⟩,⟨c3⟩,⟨c2⟩]++w4
     by_cases c4:x6=true
     · rw[if_pos c4] at h
       obtain rfl:=h
       exact Tri.of (x:=X42) mixed lE (u15++[dt,dt,df,dt,df,dt]) ([⟨(nT c3)⟩,⟨rF⟩,⟨c4⟩,⟨rF⟩,⟨c4⟩,⟨c4⟩]++w16) (by kernel_rfl)
     rw[if_neg c4] at h;replace c4:=eqf c4
     let w18:List Prf:=[⟨rF⟩,⟨rF⟩,⟨c4⟩,⟨rF⟩,⟨c4⟩,⟨c4⟩]++w16
     by_cases c5:eqS x5 (ByteArray.mk #[])=true
     · rw[if_pos c5] at h
       obtain rfl:=h
       exact Tri.of (x:=X42) mixed lE (u15++[df,df,df,df,df,df,dt,dt,dt,dt,dt]) ([⟨rT⟩,⟨rT⟩,⟨c5⟩,⟨c5⟩,⟨c5⟩]++w18) (by kernel_rfl)
     rw[if_neg c5] at h;replace c5:=eqf c5
     obtain rfl:=h
     exact Tri.of (x:=X42) mixed lE (u15++[df,df,df,df,df,df,df,df,df,df,df]) ([⟨c4⟩,⟨c4⟩,⟨c5⟩,⟨c5⟩,⟨c5⟩]++w18) (by kernel_rfl)
   rw[if_neg c1] at h;replace c1:=eqf c1
   obtain rfl:=h
   exact Tri.of (x:=X42) mixed lE (u1++[dt,dt,dt,dt,dt,dt]) ([⟨rT⟩,⟨(nT c1)⟩,⟨(nT c1)⟩,⟨(nT c1)⟩,⟨(nT c1)⟩,⟨(nT c1)⟩]++w2) (by kernel_rfl)
 rw[if_neg c0] at h;replace c0:=eqf c0
 obtain rfl:=h
 exact Tri.of (x:=X42) mixed lE [dt,dt,dt,dt,dt,dt,dt,dt,dt,dt,dt] [⟨rT⟩,⟨rT⟩,⟨rT⟩,⟨rT⟩,⟨rT⟩,⟨rT⟩,⟨(nT c0)⟩,⟨(nT c0)⟩,⟨(nT c0)⟩,⟨(nT c0)⟩,⟨(nT c0)⟩] (by kernel_rfl)
end Go.Ws

namespace Go.Ws
open Go.Proofs
set_option linter.unusedSimpArgs false
set_option linter.unusedVariables false
set_option maxRecDepth 1000000
set_option maxHeartbeats 4000000
noncomputable def X43:Ctx:=⟨Tryz.f43,[],true⟩
theorem qR (x1:Int) (x2:Int) (x3:Int) (x4:Int):Tri Tryz.prog 43 [(.agg [(.int .i64 x1),(.int .i64 x2),(.int .u8 x3)]),(.int .u8 x4)] [] (.tup [(.agg [(.int .i64 ((bA x1 x2 x3 x4).1)),(.int .i64 ((bA x1 x2 x3 x4).2.1)),(.int .u8 ((bA x1 x2 x3 x4).2.2.1))]),(.int .i64 ((bA x1 x2 x3 x4).2.2.2))]) []:=by
 obtain⟨r,h⟩:∃r,bA x1 x2 x3 x4=r:=⟨_,rfl⟩
 try rw[h]
 unfold bA at h
 by_cases c0:(bN x1 x2 x3)=true
 · rw[if_pos c0] at h
   let u3:List Ans:=[.call ⟨true,[]⟩ (.bool (bN x1 x2 x3)) [],df,df,df]
   let w4:List Prf:=[⟨(nF c0)⟩,⟨(nF c0)⟩,⟨(nF c0)⟩,⟨(eT x1 x2 x3)⟩]
   by_cases c1:ltI x4 8=true
   · rw[if_pos c1] at h
     by_cases c2:eqI x2 1=true
     · rw[if_pos c2] at h
       by_cases c3:eqI x1 1048576=true
       · rw[if_pos c3] at h
         obtain rfl:=h
         exact Tri.of (x:=X43) mixed yT (u3++[df,df,dt]) ([⟨c3⟩,⟨(nF c2)⟩,⟨(nF c1)⟩]++w4) (by kernel_rfl)
       rw[if_neg c3] at h;replace c3:=eqf c3
       obtain rfl:=h
       exact Tri.of (x:=X43) mixed yT (u3++[df,df,df]) ([⟨c3⟩,⟨(nF c2)⟩,⟨(nF c1)⟩]++w4) (by kernel_rfl)
     rw[if_neg c2] at h;replace c2:=eqf c2
     obtain rfl:=h
     exact Tri.of (x:=X43) mixed yT (u3++[df,dt]) ([⟨(nT c2)⟩,⟨(nF c1)⟩]++w4) (by kernel_rfl)
   rw[if_neg c1] at h;replace c1:=eqf c1
   obtain rfl:=h
   exact Tri.of (x:=X43) mixed yT (u3++[dt]) ([⟨(nT c1)⟩]++w4) (by kernel_rfl)
 rw[if_neg c0] at h;replace c0:=eqf c0
 obtain rfl:=h
 exact Tri.of (x:=X43) mixed yT [.call ⟨true,[]⟩ (.bool (bN x1 x2 x3)) [],dt,dt,dt,dt] [⟨rT⟩,⟨(nT c0)⟩,⟨(nT c0)⟩,⟨(nT c0)⟩,⟨(eT x1 x2 x3)⟩] (by kernel_rfl)
end Go.Ws

namespace Go.Ws
open Go.Proofs
set_option linter.unusedSimpArgs false
set_option linter.unusedVariables false
set_option maxRecDepth 1000000
set_option maxHeartbeats 4000000
noncomputable def X22:Ctx:=⟨Tryz.f22,[],true⟩
def A22_0 (x2:Int) (x3:Int) (x4:Int) (x7:Int):Ans:=.call ⟨true,[]⟩ (.tup [(.agg [(.int .i64 ((bA x2 x3 x4 x7).1)),(.int .i64 ((bA x2 x3 x4 x7).2.1)),(.int .u8 ((bA x2 x3 x4 x7).2.2.1))]),(.int .i64 ((bA x2 x3 x4 x7).2.2.2))]) []
theorem tI (k:Nat) (x1:Int) (x2:Int) (x3:Int) (x4:Int) (x5:ByteArray) (x6:Bool) (x7:Int) (r:Int × Int × Int × Int × ByteArray × Int) (h:nK k x1 x2 x3 x4 x5 x6 x7=some r):Tri Tryz.prog 22 [(.agg [(.int .u8 x1),(.int .i64 x2),(.int .i64 x3),(.int .u8 x4),(.str x5),(.bool x6)]),(.int .u8 x7)] [] (.tup [(.agg [(.int .i64 r.1),(.int .u8 r.2.1),(.int .u8 r.2.2.1),(.int .i64 r.2.2.2.1),(.str r.2.2.2.2.1)]),(.int .i64 r.2.2.2.2.2)]) []:=by
 unfold nK at h
 let w2:List Prf:=[⟨(qS x1 x2 x3 x4 x5 x6)⟩]
 by_cases c0:(cH x1 x2 x3 x4 x5 x6)=true
 · rw[if_pos c0] at h
   let u3:List Ans:=[.call ⟨true,[]⟩ (.bool (cH x1 x2 x3 x4 x5 x6)) [],df,df,df,df,df]
   let w4:List Prf:=[⟨(nF c0)⟩,⟨(nF c0)⟩,⟨(nF c0)⟩,⟨(nF c0)⟩,⟨(nF c0)⟩]++w2
   by_cases c1:eqI x7 x1=true
   · rw[if_pos c1] at h
     obtain rfl:=osi h
     exact Tri.of (x:=X22) mixed aCL (u3++[dt]) ([⟨c1⟩]++w4) (by kernel_rfl)
   rw[if_neg c1] at h;replace c1:=eqf c1
   let w6:List Prf:=[⟨(qR x2 x3 x4 x7)⟩,⟨c1⟩]++w4
   by_cases c2:eqI ((bA x2 x3 x4 x7).2.2.2) 0=true
   · rw[if_pos c2] at h
     obtain rfl:=osi h
     exact Tri.of (x:=X22) mixed aCL (u3++[df,(A22_0 x2 x3 x4 x7),df]) ([⟨(nF c2)⟩]++w6) (by kernel_rfl)
   rw[if_neg c2] at h;replace c2:=eqf c2
   obtain rfl:=osi h
   exact Tri.of (x:=X22) mixed aCL (u3++[df,(A22_0 x2 x3 x4 x7),dt]) ([⟨(nT c2)⟩]++w6) (by kernel_rfl)
 rw[if_neg c0] at h;replace c0:=eqf c0
 obtain rfl:=osi h
 exact Tri.of (x:=X22) mixed aCL [.call ⟨true,[]⟩ (.bool (cH x1 x2 x3 x4 x5 x6)) [],dt,dt,dt,dt,dt,dt] ([⟨rT⟩,⟨(nT c0)⟩,⟨(nT c0)⟩,⟨(nT c0)⟩,⟨(nT c0)⟩,⟨(nT c0)⟩]++w2) (by kernel_rfl)
end Go.Ws

namespace Go.Ws
open Go.Proofs
set_option linter.unusedSimpArgs false
set_option linter.unusedVariables false
set_option maxRecDepth 1000000
set_option maxHeartbeats 4000000
end Go.Ws

namespace Go.Ws
open Go.Proofs
set_option linter.unusedSimpArgs false
set_option linter.unusedVariables false
set_option maxRecDepth 1000000
set_option maxHeartbeats 4000000
noncomputable def X28 (x1:Ty0) (x2:Ty0):Ctx:=⟨Tryz.f28,[(.row [(.int .i64 8),(.mp 1),(.mp 2)]),(.map (aZ .u8 (fun y=>AV.agg (aB y)) x1) x1.length),(.map (aZ .u8 (fun y=>AV.agg (aB y)) x2) x2.length)],false⟩
theorem b6 (x1:Ty0) (x2:Ty0):Tri Tryz.prog 28 [(.hp 0 0)] [(.row [(.int .i64 8),(.mp 1),(.mp 2)]),(.map (aZ .u8 (fun y=>AV.agg (aB y)) x1) x1.length),(.map (aZ .u8 (fun y=>AV.agg (aB y)) x2) x2.length)] (.int .i64 (nI x1.length)) [(.row [(.int .i64 8),(.mp 1),(.mp 2)]),(.map (aZ .u8 (fun y=>AV.agg (aB y)) x1) x1.length),(.map (aZ .u8 (fun y=>AV.agg (aB y)) x2) x2.length)]:=by
 obtain⟨r,h⟩:∃r,pA x1 x2=r:=⟨_,rfl⟩
 try rw[h]
 unfold pA at h
 obtain rfl:=h
 exact Tri.of (x:=(X28 x1 x2)) mixed facts28 [.call ⟨true,[]⟩ (.bool (ltI 0 8)) [(.row [(.int .i64 8),(.mp 1),(.mp 2)]),(.map (aZ .u8 (fun y=>AV.agg (aB y)) x1) x1.length),(.map (aZ .u8 (fun y=>AV.agg (aB y)) x2) x2.length)],df,.n x1.length,.norm 0 ⟨[(2,[])],[],false,[],[]⟩] [⟨(aBU .u8 (fun y=>AV.agg (aB y)) x1)⟩,⟨(nF (rfl:ltI 0 8=true))⟩,⟨(gF x1 x2)⟩] (by kernel_rfl)
end Go.Ws

namespace Go.Ws
open Go.Proofs
set_option linter.unusedSimpArgs false
set_option linter.unusedVariables false
set_option maxRecDepth 1000000
set_option maxHeartbeats 4000000
noncomputable def X23:Ctx:=⟨Tryz.f23,[],true⟩
theorem gL (x1:Int) (x2:Int) (x3:Int) (x4:Int) (x5:ByteArray) (x6:Bool):Tri Tryz.prog 23 [(.agg [(.int .u8 x1),(.int .i64 x2),(.int .i64 x3),(.int .u8 x4),(.str x5),(.bool x6)])] [] (.sl 5 (List.map aF (aS x1 x2 x3 x4 x5 x6))) []:=by
 obtain⟨r,h⟩:∃r,aS x1 x2 x3 x4 x5 x6=r:=⟨_,rfl⟩
 try rw[h]
 unfold aS at h
 let w2:List Prf:=[⟨(qS x1 x2 x3 x4 x5 x6)⟩]
 by_cases c0:(cH x1 x2 x3 x4 x5 x6)=true
 · rw[if_pos c0] at h
   let u3:List Ans:=[.call ⟨true,[]⟩ (.bool (cH x1 x2 x3 x4 x5 x6)) [],df,df,df,df]
   let w4:List Prf:=[⟨(nF c0)⟩,⟨(nF c0)⟩,⟨(nF c0)⟩,⟨(nF c0)⟩]++w2
   by_cases c1:x6=true
   · rw[if_pos c1] at h
     obtain rfl:=h
     exact Tri.of (x:=X23) mixed aHQ (u3++[df,.rows (List.map aF [(3,x1,x4,bI .i64 x2 1,x5)])]) ([⟨(bS aF (l:=[(3,x1,x4,bI .i64 x2 1,x5)]) (n:=1) rfl)⟩,⟨(b9 aF (Nat.le_refl 1):0+1≤(List.map aF [(3,x1,x4,bI .i64 x2 1,x5)]).length)⟩,⟨(nF c1)⟩]++w4) (by kernel_rfl)
   rw[if_neg c1] at h;replace c1:=eqf c1
   obtain rfl:=h
   exact Tri.of (x:=X23) mixed aHQ (u3++[dt,.norm 0 ⟨[(2,[(0,5)])],[],false,[],[]⟩]) ([⟨(nT c1)⟩]++w4) (by kernel_rfl)
 rw[if_neg c0] at h;replace c0:=eqf c0
 obtain rfl:=h
 exact Tri.of (x:=X23) mixed aHQ [.call ⟨true,[]⟩ (.bool (cH x1 x2 x3 x4 x5 x6)) [],dt,dt,dt,dt,dt,.norm 0 ⟨[(2,[(0,5)])],[],false,[],[]⟩] ([⟨rT⟩,⟨(nT c0)⟩,⟨(nT c0)⟩,⟨(nT c0)⟩,⟨(nT c0)⟩]++w2) (by kernel_rfl)
end Go.Ws

namespace Go.Ws
open Go.Proofs
set_option linter.unusedSimpArgs false
set_option linter.unusedVariables false
set_option maxRecDepth 1000000
set_option maxHeartbeats 4000000
noncomputable def X44:Ctx:=⟨Tryz.f44,[],true⟩
theorem aCD (x1:Int) (x2:Int) (x3:Int) (x4:Int) (x5:ByteArray):Tri Tryz.prog 44 [(.agg [(.int .i64 x1),(.int .u8 x2),(.int .u8 x3),(.int .i64 x4),(.str x5)])] [] (.bool (fB x1 x2 x3 x4 x5)) []:=by
 obtain⟨r,h⟩:∃r,fB x1 x2 x3 x4 x5=r:=⟨_,rfl⟩
 try rw[h]
 unfold fB at h
 by_cases c0:ltI x1 1=true
 · rw[if_pos c0] at h
   obtain rfl:=h
   exact Tri.of (x:=X44) mixed nD [dt,dt,dt,dt,dt,dt,dt,dt,dt,dt,dt,dt,dt] [⟨rT⟩,⟨rT⟩,⟨rT⟩,⟨rT⟩,⟨rT⟩,⟨rT⟩,⟨rT⟩,⟨rT⟩,⟨rT⟩,⟨c0⟩,⟨c0⟩,⟨c0⟩,⟨c0⟩] (by kernel_rfl)
 rw[if_neg c0] at h;replace c0:=eqf c0
 by_cases c1:ltI 4 x1=true
 · rw[if_pos c1] at h
   obtain rfl:=h
   exact Tri.of (x:=X44) mixed nD [df,df,df,df,dt,dt,dt,dt,dt,dt,dt,dt,dt] [⟨rT⟩,⟨rT⟩,⟨rT⟩,⟨rT⟩,⟨rT⟩,⟨c1⟩,⟨c1⟩,⟨c1⟩,⟨c1⟩,⟨c0⟩,⟨c0⟩,⟨c0⟩,⟨c0⟩] (by kernel_rfl)
 rw[if_neg c1] at h;replace c1:=eqf c1
 let u3:List Ans:=[df,df,df,df,df,df,df,df]
 let w4:List Prf:=[⟨c1⟩,⟨c1⟩,⟨c1⟩,⟨c1⟩,⟨c0⟩,⟨c0⟩,⟨c0⟩,⟨c0⟩]
 by_cases c2:ltI x4 1=true
 · rw[if_pos c2] at h
   obtain rfl:=h
   exact Tri.of (x:=X44) mixed nD (u3++[dt,dt,dt,dt,dt]) ([⟨rT⟩,⟨c2⟩,⟨c2⟩,⟨c2⟩,⟨c2⟩]++w4) (by kernel_rfl)
 rw[if_neg c2] at h;replace c2:=eqf c2
 by_cases c3:ltI 1048576 x4=true
 · rw[if_pos c3] at h
   obtain rfl:=h
   exact Tri.of (x:=X44) mixed nD (u3++[df,df,df,df,dt]) ([⟨c3⟩,⟨c2⟩,⟨c2⟩,⟨c2⟩,⟨c2⟩]++w4) (by kernel_rfl)
 rw[if_neg c3] at h;replace c3:=eqf c3
 by_cases c4:ltI x2 8=true
 · rw[if_pos c4] at h
   let u9:List Ans:=u3++[df,df,df,df,df,df,df,df,df]
   let w10:List Prf:=[⟨(nF c4)⟩,⟨(nF c4)⟩,⟨(nF c4)⟩,⟨(nF c4)⟩,⟨c3⟩,⟨c2⟩,⟨c2⟩,⟨c2⟩,⟨c2⟩]++w4
   by_cases c5:ltI x3 8=true
   · rw[if_pos c5] at h
     let w12:List Prf:=[⟨(nF c5)⟩,⟨(nF c5)⟩,⟨(nF c5)⟩,⟨(nF c5)⟩,⟨(nF c5)⟩,⟨(nF c5)⟩]++w10
     by_cases c6:eqI x2 x3=true
     · rw[if_pos c6] at h
       obtain rfl:=h
       exact Tri.of (x:=X44) mixed nD (u9++[df,df,df,df,df,df,dt]) ([⟨c6⟩]++w12) (by kernel_rfl)
     rw[if_neg c6] at h;replace c6:=eqf c6
     by_cases c7:eqS x5 (ByteArray.mk #[])=true
     · rw[if_pos c7] at h
       obtain rfl:=h
       exact Tri.of (x:=X44) mixed nD (u9++[df,df,df,df,df,df,df,dt,dt,dt,dt,dt,dt]) ([⟨c7⟩,⟨c7⟩,⟨c7⟩,⟨c7⟩,⟨c7⟩,⟨c7⟩,⟨c6⟩]++w12) (by kernel_rfl)
     rw[if_neg c7] at h;replace c7:=eqf c7
     let u15:List Ans:=u9++[df,df,df,df,df,df,df,df,df,df,df]
     by_cases c8:eqI x1 3=true
     · rw[if_pos c8] at h
       obtain rfl:=h
       exact Tri.of (x:=X44) mixed nD (u15++[dt,dt,dt,dt,df,dt,df]) ([⟨c7⟩,⟨c8⟩,⟨c7⟩,⟨c8⟩,⟨c8⟩,⟨c8⟩,⟨c8⟩,⟨c7⟩,⟨c7⟩,⟨c7⟩,⟨c7⟩,⟨c6⟩]++w12) (by kernel_rfl)
     rw[if_neg c8] at h;replace c8:=eqf c8
     obtain rfl:=h
     exact Tri.of (x:=X44) mixed nD (u15++[df,df,df,df,df,df,df]) ([⟨c7⟩,⟨c8⟩,⟨c7⟩,⟨c8⟩,⟨c8⟩,⟨c8⟩,⟨c8⟩,⟨c7⟩,⟨c7⟩,⟨c7⟩,⟨c7⟩,⟨c6⟩]++w12) (by kernel_rfl)
   rw[if_neg c5] at h;replace c5:=eqf c5
   obtain rfl:=h
   exact Tri.of (x:=X44) mixed nD (u9++[dt,dt,dt,dt,dt,dt,dt]) ([⟨rT⟩,⟨(nT c5)⟩,⟨(nT c5)⟩,⟨(nT c5)⟩,⟨(nT c5)⟩,⟨(nT c5)⟩,⟨(nT c5)⟩]++w10) (by kernel_rfl)
 rw[if_neg c4] at h;replace c4:=eqf c4
 obtain rfl:=h
 exact Tri.of (x:=X44) mixed nD (u3++[df,df,df,df,df,dt,dt,dt,dt,dt,dt,dt,dt,dt,dt,dt]) ([⟨rT⟩,⟨rT⟩,⟨rT⟩,⟨rT⟩,⟨rT⟩,⟨rT⟩,⟨rT⟩,⟨(nT c4)⟩,⟨(nT c4)⟩,⟨(nT c4)⟩,⟨(nT c4)⟩,⟨c3⟩,⟨c2⟩,⟨c2⟩,⟨c2⟩,⟨c2⟩]++w4) (by kernel_rfl)
end Go.Ws

namespace Go.Ws
open Go.Proofs
set_option linter.unusedSimpArgs false
set_option linter.unusedVariables false
set_option maxRecDepth 1000000
set_option maxHeartbeats 4000000
noncomputable def X62 (x2:Int) (x3:Int) (x4:Int) (x5:Int) (x6:ByteArray) (x7:Bool) (x8:Int) (x9:Int) (x10:Int) (x11:Int) (x12:ByteArray):Ctx:=⟨Tryz.f62,[(.row [(.int .u8 x2),(.int .i64 x3),(.int .i64 x4),(.int .u8 x5),(.str x6),(.bool x7)]),(.row [(.int .i64 x8),(.int .u8 x9),(.int .u8 x10),(.int .i64 x11),(.str x12)])],false⟩
theorem fD (x1:Int) (x2:Int) (x3:Int) (x4:Int) (x5:Int) (x6:ByteArray) (x7:Bool) (x8:Int) (x9:Int) (x10:Int) (x11:Int) (x12:ByteArray):Tri Tryz.prog 62 [(.int .i64 x1),(.hp 0 0),(.hp 1 0)] [(.row [(.int .u8 x2),(.int .i64 x3),(.int .i64 x4),(.int .u8 x5),(.str x6),(.bool x7)]),(.row [(.int .i64 x8),(.int .u8 x9),(.int .u8 x10),(.int .i64 x11),(.str x12)])] (.bool (aY x1 x2 x3 x4 x5 x6 x7 x8 x9 x10 x11 x12)) [(.row [(.int .u8 x2),(.int .i64 x3),(.int .i64 x4),(.int .u8 x5),(.str x6),(.bool x7)]),(.row [(.int .i64 x8),(.int .u8 x9),(.int .u8 x10),(.int .i64 x11),(.str x12)])]:=by
 obtain⟨r,h⟩:∃r,aY x1 x2 x3 x4 x5 x6 x7 x8 x9 x10 x11 x12=r:=⟨_,rfl⟩
 try rw[h]
 unfold aY at h
 by_cases c0:x7=true
 · rw[if_pos c0] at h
   obtain rfl:=h
   exact Tri.of (x:=(X62 x2 x3 x4 x5 x6 x7 x8 x9 x10 x11 x12)) mixed aLE [dt,dt,dt,dt,dt,dt,dt,dt,.norm 0 ⟨[(4,[])],[],false,[],[]⟩] [⟨c0⟩,⟨c0⟩,⟨c0⟩,⟨c0⟩,⟨c0⟩,⟨c0⟩,⟨c0⟩,⟨c0⟩] (by kernel_rfl)
 rw[if_neg c0] at h;replace c0:=eqf c0
 obtain rfl:=h
 exact Tri.of (x:=(X62 x2 x3 x4 x5 x6 x7 x8 x9 x10 x11 x12)) mixed aLE [df,df,df,df,df,df,df,df,.norm 0 ⟨[(4,[])],[],false,[],[]⟩] [⟨c0⟩,⟨c0⟩,⟨c0⟩,⟨c0⟩,⟨c0⟩,⟨c0⟩,⟨c0⟩,⟨c0⟩] (by kernel_rfl)
end Go.Ws

namespace Go.Ws
open Go.Proofs
set_option linter.unusedSimpArgs false
set_option linter.unusedVariables false
set_option maxRecDepth 1000000
set_option maxHeartbeats 4000000
noncomputable def X63:Ctx:=⟨Tryz.f63,[],true⟩
theorem nO (x1:Int) (x2:Int) (x3:Int) (x4:Int):Tri Tryz.prog 63 [(.agg [(.int .i64 x1),(.int .i64 x2),(.int .u8 x3)]),(.int .i64 x4)] [] (.bool (bJ x1 x2 x3 x4)) []:=by
 obtain⟨r,h⟩:∃r,bJ x1 x2 x3 x4=r:=⟨_,rfl⟩
 try rw[h]
 unfold bJ at h
 by_cases c0:(bN x1 x2 x3)=true
 · rw[if_pos c0] at h
   let u3:List Ans:=[.call ⟨true,[]⟩ (.bool (bN x1 x2 x3)) [],dt,dt,dt,dt]
   let w4:List Prf:=[⟨c0⟩,⟨c0⟩,⟨c0⟩,⟨c0⟩,⟨(eT x1 x2 x3)⟩]
   by_cases c1:eqI x2 1=true
   · rw[if_pos c1] at h
     obtain rfl:=h
     exact Tri.of (x:=X63) mixed aHR (u3++[dt,dt,dt,dt,dt]) ([⟨c1⟩,⟨c1⟩,⟨c1⟩,⟨c1⟩,⟨c1⟩]++w4) (by kernel_rfl)
   rw[if_neg c1] at h;replace c1:=eqf c1
   obtain rfl:=h
   exact Tri.of (x:=X63) mixed aHR (u3++[df,df,df,df,df]) ([⟨c1⟩,⟨c1⟩,⟨c1⟩,⟨c1⟩,⟨c1⟩]++w4) (by kernel_rfl)
 rw[if_neg c0] at h;replace c0:=eqf c0
 obtain rfl:=h
 exact Tri.of (x:=X63) mixed aHR [.call ⟨true,[]⟩ (.bool (bN x1 x2 x3)) [],df,df,df,df,df,df,df,df,df] [⟨rF⟩,⟨rF⟩,⟨rF⟩,⟨rF⟩,⟨rF⟩,⟨c0⟩,⟨c0⟩,⟨c0⟩,⟨c0⟩,⟨(eT x1 x2 x3)⟩] (by kernel_rfl)
end Go.Ws

namespace Go.Ws
open Go.Proofs
set_option linter.unusedSimpArgs false
set_option linter.unusedVariables false
set_option maxRecDepth 1000000
set_option maxHeartbeats 4000000
noncomputable def X64:Ctx:=⟨Tryz.f64,[],true⟩
theorem xD (x1:Int) (x2:Int) (x3:Int) (x4:Int):Tri Tryz.prog 64 [(.agg [(.int .i64 x1),(.int .i64 x2),(.int .u8 x3)]),(.int .i64 x4)] [] (.tup [(.agg [(.int .i64 ((bM x1 x2 x3 x4).1)),(.int .i64 ((bM x1 x2 x3 x4).2.1)),(.int .u8 ((bM x1 x2 x3 x4).2.2.1))]),(.int .i64 ((bM x1 x2 x3 x4).2.2.2))]) []:=by
 obtain⟨r,h⟩:∃r,bM x1 x2 x3 x4=r:=⟨_,rfl⟩
 try rw[h]
 unfold bM at h
 by_cases c0:(bN x1 x2 x3)=true
 · rw[if_pos c0] at h
   let u3:List Ans:=[.call ⟨true,[]⟩ (.bool (bN x1 x2 x3)) [],df,df,.call ⟨true,[]⟩ (.bool (cO x4)) [],df,df]
   let w4:List Prf:=[⟨(nF c0)⟩,⟨(nF c0)⟩,⟨(pJ x4)⟩,⟨(nF c0)⟩,⟨(nF c0)⟩,⟨(eT x1 x2 x3)⟩]
   by_cases c1:(cO x4)=true
   · rw[if_pos c1] at h
     let w6:List Prf:=[⟨(nO x1 x2 x3 x4)⟩,⟨(nF c1)⟩]++w4
     by_cases c2:(bJ x1 x2 x3 x4)=true
     · rw[if_pos c2] at h
       obtain rfl:=h
       exact Tri.of (x:=X64) mixed yR (u3++[df,.call ⟨true,[]⟩ (.bool (bJ x1 x2 x3 x4)) [],dt]) ([⟨c2⟩]++w6) (by kernel_rfl)
     rw[if_neg c2] at h;replace c2:=eqf c2
     by_cases c3:ltI x1 x4=true
     · rw[if_pos c3] at h
       obtain rfl:=h
       exact Tri.of (x:=X64) mixed yR (u3++[df,.call ⟨true,[]⟩ (.bool (bJ x1 x2 x3 x4)) [],df,df]) ([⟨(nF c3)⟩,⟨c2⟩]++w6) (by kernel_rfl)
     rw[if_neg c3] at h;replace c3:=eqf c3
     obtain rfl:=h
     exact Tri.of (x:=X64) mixed yR (u3++[df,.call ⟨true,[]⟩ (.bool (bJ x1 x2 x3 x4)) [],df,dt]) ([⟨(nT c3)⟩,⟨c2⟩]++w6) (by kernel_rfl)
   rw[if_neg c1] at h;replace c1:=eqf c1
   obtain rfl:=h
   exact Tri.of (x:=X64) mixed yR (u3++[dt]) ([⟨(nT c1)⟩]++w4) (by kernel_rfl)
 rw[if_neg c0] at h;replace c0:=eqf c0
 obtain rfl:=h
 exact Tri.of (x:=X64) mixed yR [.call ⟨true,[]⟩ (.bool (bN x1 x2 x3)) [],dt,dt,dt,dt,dt] [⟨rT⟩,⟨(nT c0)⟩,⟨(nT c0)⟩,⟨(nT c0)⟩,⟨(nT c0)⟩,⟨(eT x1 x2 x3)⟩] (by kernel_rfl)
end Go.Ws

namespace Go.Ws
open Go.Proofs
set_option linter.unusedSimpArgs false
set_option linter.unusedVariables false
set_option maxRecDepth 1000000
set_option maxHeartbeats 4000000
noncomputable def X45:Ctx:=⟨Tryz.f45,[],true⟩
def A45_0 (x2:Int) (x3:Int) (x4:Int) (x8:Int):Ans:=.call ⟨true,[]⟩ (.tup [(.agg [(.int .i64 ((bA x2 x3 x4 x8).1)),(.int .i64 ((bA x2 x3 x4 x8).2.1)),(.int .u8 ((bA x2 x3 x4 x8).2.2.1))]),(.int .i64 ((bA x2 x3 x4 x8).2.2.2))]) []
def aGD (x1:Int) (x8:Int) (x10:Int):Ans:=.rows (List.map aF [(4,x1,x8,x10,(ByteArray.mk #[]))])
def A45_2 (x1:Int) (x2:Int) (x3:Int) (x4:Int) (x5:ByteArray) (x6:Bool) (x7:Int) (x8:Int) (x9:Int) (x10:Int) (x11:ByteArray):Ans:=.call ⟨true,[]⟩ (.bool (aY (pR .i64 x10 1) x1 x2 x3 x4 x5 x6 x7 x8 x9 x10 x11)) [(.row [(.int .u8 x1),(.int .i64 x2),(.int .i64 x3),(.int .u8 x4),(.str x5),(.bool x6)]),(.row [(.int .i64 x7),(.int .u8 x8),(.int .u8 x9),(.int .i64 x10),(.str x11)])]
def sK:Ans:=.norm 0 ⟨[(4,[]),(5,[(0,5)]),(6,[])],[⟨.tmp 4,[],none⟩],false,[],[]⟩
def A45_4 (x2:Int) (x3:Int) (x4:Int) (x10:Int):Ans:=.call ⟨true,[]⟩ (.tup [(.agg [(.int .i64 ((bM x2 x3 x4 x10).1)),(.int .i64 ((bM x2 x3 x4 x10).2.1)),(.int .u8 ((bM x2 x3 x4 x10).2.2.1))]),(.int .i64 ((bM x2 x3 x4 x10).2.2.2))]) []
theorem yV (x1:Int) (x2:Int) (x3:Int) (x4:Int) (x5:ByteArray) (x6:Bool) (x7:Int) (x8:Int) (x9:Int) (x10:Int) (x11:ByteArray):Tri Tryz.prog 45 [(.agg [(.int .u8 x1),(.int .i64 x2),(.int .i64 x3),(.int .u8 x4),(.str x5),(.bool x6)]),(.agg [(.int .i64 x7),(.int .u8 x8),(.int .u8 x9),(.int .i64 x10),(.str x11)])] [] (.tup [(.agg [(.int .u8 ((aR x1 x2 x3 x4 x5 x6 x7 x8 x9 x10 x11).1)),(.int .i64 ((aR x1 x2 x3 x4 x5 x6 x7 x8 x9 x10 x11).2.1)),(.int .i64 ((aR x1 x2 x3 x4 x5 x6 x7 x8 x9 x10 x11).2.2.1)),(.int .u8 ((aR x1 x2 x3 x4 x5 x6 x7 x8 x9 x10 x11).2.2.2.1)),(.str ((aR x1 x2 x3 x4 x5 x6 x7 x8 x9 x10 x11).2.2.2.2.1)),(.bool ((aR x1 x2 x3 x4 x5 x6 x7 x8 x9 x10 x11).2.2.2.2.2.1))]),(.sl 5 (List.map aF ((aR x1 x2 x3 x4 x5 x6 x7 x8 x9 x10 x11).2.2.2.2.2.2.1))),(.int .i64 ((aR x1 x2 x3 x4 x5 x6 x7 x8 x9 x10 x11).2.2.2.2.2.2.2))]) []:=by
 obtain⟨r,h⟩:∃r,aR x1 x2 x3 x4 x5 x6 x7 x8 x9 x10 x11=r:=⟨_,rfl⟩
 try rw[h]
 unfold aR at h
 by_cases c0:eqI x7 1=true
 · rw[if_pos c0] at h
   let w2:List Prf:=[⟨c0⟩,⟨c0⟩,⟨c0⟩,⟨c0⟩,⟨c0⟩,⟨c0⟩,⟨c0⟩]
   by_cases c1:ltI x2 x10=true
   · rw[if_pos c1] at h
     obtain rfl:=h
     exact Tri.of (x:=X45) mixed fC [dt,dt,dt,dt,dt,dt,dt,dt,.rows (List.map aF [(2,x1,x8,x10,(ByteArray.mk #[]))])] ([⟨(bS aF (l:=[(2,x1,x8,x10,(ByteArray.mk #[]))]) (n:=1) rfl)⟩,⟨(b9 aF (Nat.le_refl 1):0+1≤(List.map aF [(2,x1,x8,x10,(ByteArray.mk #[]))]).length)⟩,⟨c1⟩]++w2) (by kernel_rfl)
   rw[if_neg c1] at h;replace c1:=eqf c1
   let u3:List Ans:=[dt,dt,dt,dt,dt,dt,dt,df]
   by_cases c2:eqI x7 2=true
   · rw[if_pos c2] at h
     let u5:List Ans:=u3++[dt,dt,dt,dt,.call ⟨true,[]⟩ (.bool (aY x10 x1 x2 x3 x4 x5 x6 x7 x8 x9 x10 x11)) [(.row [(.int .u8 x1),(.int .i64 x2),(.int .i64 x3),(.int .u8 x4),(.str x5),(.bool x6)]),(.row [(.int .i64 x7),(.int .u8 x8),(.int .u8 x9),(.int .i64 x10),(.str x11)])],dt]
     let w6:List Prf:=[⟨c2⟩,⟨(fD x10 x1 x2 x3 x4 x5 x6 x7 x8 x9 x10 x11)⟩,⟨c2⟩,⟨c2⟩,⟨c2⟩,⟨c2⟩,⟨c1⟩]++w2
     by_cases c3:(aY x10 x1 x2 x3 x4 x5 x6 x7 x8 x9 x10 x11)=true
     · rw[if_pos c3] at h
       obtain rfl:=h
       exact Tri.of (x:=X45) mixed fC (u5++[dt,.call ⟨true,[]⟩ (.sl 5 (List.map aF (aS x1 x2 x3 x4 x5 x6))) []]) ([⟨(gL x1 x2 x3 x4 x5 x6)⟩,⟨c3⟩]++w6) (by kernel_rfl)
     rw[if_neg c3] at h;replace c3:=eqf c3
     let u7:List Ans:=u5++[df,dt,dt,dt,dt,dt,.call ⟨true,[]⟩ (.bool (bJ x2 x3 x4 x10)) [],dt]
     let w8:List Prf:=[⟨c2⟩,⟨(nO x2 x3 x4 x10)⟩,⟨c2⟩,⟨c2⟩,⟨c2⟩,⟨c2⟩,⟨c2⟩,⟨c3⟩]++w6
     by_cases c4:(bJ x2 x3 x4 x10)=true
     · rw[if_pos c4] at h
       obtain rfl:=h
       exact Tri.of (x:=X45) mixed fC (u7++[dt,(A45_0 x2 x3 x4 x8),.call ⟨true,[]⟩ (.sl 5 (List.map aF (aS x1 ((bA x2 x3 x4 x8).1) ((bA x2 x3 x4 x8).2.1) ((bA x2 x3 x4 x8).2.2.1) x5 true))) []]) ([⟨(gL x1 ((bA x2 x3 x4 x8).1) ((bA x2 x3 x4 x8).2.1) ((bA x2 x3 x4 x8).2.2.1) x5 true)⟩,⟨(qR x2 x3 x4 x8)⟩,⟨c4⟩]++w8) (by kernel_rfl)
     rw[if_neg c4] at h;replace c4:=eqf c4
     by_cases c5:eqI x7 3=true
     · rw[if_pos c5] at h
       obtain rfl:=h
       exact Tri.of (x:=X45) mixed fC (u7++[df,dt,df,(aGD x1 x8 x10)]) ([⟨(bS aF (l:=[(4,x1,x8,x10,(ByteArray.mk #[]))]) (n:=1) rfl)⟩,⟨(b9 aF (Nat.le_refl 1):0+1≤(List.map aF [(4,x1,x8,x10,(ByteArray.mk #[]))]).length)⟩,⟨c1⟩,⟨c5⟩,⟨c4⟩]++w8) (by kernel_rfl)
     rw[if_neg c5] at h;replace c5:=eqf c5
     by_cases c6:eqI x7 4=true
     · rw[if_pos c6] at h
       let u13:List Ans:=u7++[df,df,dt,dt,dt,dt,dt,(A45_2 x1 x2 x3 x4 x5 x6 x7 x8 x9 x10 x11),dt]
       let w14:List Prf:=[⟨c6⟩,⟨(fD (pR .i64 x10 1) x1 x2 x3 x4 x5 x6 x7 x8 x9 x10 x11)⟩,⟨c6⟩,⟨c6⟩,⟨c6⟩,⟨c6⟩,⟨c6⟩,⟨c5⟩,⟨c4⟩]++w8
       by_cases c7:(aY (pR .i64 x10 1) x1 x2 x3 x4 x5 x6 x7 x8 x9 x10 x11)=true
       · rw[if_pos c7] at h
         obtain rfl:=h
         exact Tri.of (x:=X45) mixed fC (u13++[dt,sK]) ([⟨c7⟩]++w14) (by kernel_rfl)
       rw[if_neg c7] at h;replace c7:=eqf c7
       obtain rfl:=h
       exact Tri.of (x:=X45) mixed fC (u13++[df,sK]) ([⟨c7⟩]++w14) (by kernel_rfl)
     rw[if_neg c6] at h;replace c6:=eqf c6
     obtain rfl:=h
     exact Tri.of (x:=X45) mixed fC (u7++[df,df,df,df,df,df,df,df,df,sK]) ([⟨rF⟩,⟨c6⟩,⟨c6⟩,⟨c6⟩,⟨c6⟩,⟨c6⟩,⟨c6⟩,⟨c5⟩,⟨c4⟩]++w8) (by kernel_rfl)
   rw[if_neg c2] at h;replace c2:=eqf c2
   let u15:List Ans:=u3++[df,df,df,df,df,df,df,df,df,df,df,df,df]
   let w16:List Prf:=[⟨rF⟩,⟨c2⟩,⟨c2⟩,⟨c2⟩,⟨c2⟩,⟨c2⟩,⟨c2⟩,⟨rF⟩,⟨c2⟩,⟨c2⟩,⟨c2⟩,⟨c2⟩,⟨c2⟩,⟨c1⟩]++w2
   by_cases c3:eqI x7 3=true
   · rw[if_pos c3] at h
     obtain rfl:=h
     exact Tri.of (x:=X45) mixed fC (u15++[dt,df,(aGD x1 x8 x10)]) ([⟨(bS aF (l:=[(4,x1,x8,x10,(ByteArray.mk #[]))]) (n:=1) rfl)⟩,⟨(b9 aF (Nat.le_refl 1):0+1≤(List.map aF [(4,x1,x8,x10,(ByteArray.mk #[]))]).length)⟩,⟨c1⟩,⟨c3⟩]++w16) (by kernel_rfl)
   rw[if_neg c3] at h;replace c3:=eqf c3
   by_cases c4:eqI x7 4=true
   · rw[if_pos c4] at h
     let u19:List Ans:=u15++[df,dt,dt,dt,dt,dt,(A45_2 x1 x2 x3 x4 x5 x6 x7 x8 x9 x10 x11),dt]
     let w20:List Prf:=[⟨c4⟩,⟨(fD (pR .i64 x10 1) x1 x2 x3 x4 x5 x6 x7 x8 x9 x10 x11)⟩,⟨c4⟩,⟨c4⟩,⟨c4⟩,⟨c4⟩,⟨c4⟩,⟨c3⟩]++w16
     by_cases c5:(aY (pR .i64 x10 1) x1 x2 x3 x4 x5 x6 x7 x8 x9 x10 x11)=true
     · rw[if_pos c5] at h
       obtain rfl:=h
       exact Tri.of (x:=X45) mixed fC (u19++[dt,sK]) ([⟨c5⟩]++w20) (by kernel_rfl)
     rw[if_neg c5] at h;replace c5:=eqf c5
     obtain rfl:=h
     exact Tri.of (x:=X45) mixed fC (u19++[df,sK]) ([⟨c5⟩]++w20) (by kernel_rfl)
   rw[if_neg c4] at h;replace c4:=eqf c4
   obtain rfl:=h
   exact Tri.of (x:=X45) mixed fC (u15++[df,df,df,df,df,df,df,df,sK]) ([⟨rF⟩,⟨c4⟩,⟨c4⟩,⟨c4⟩,⟨c4⟩,⟨c4⟩,⟨c4⟩,⟨c3⟩]++w16) (by kernel_rfl)
 rw[if_neg c0] at h;replace c0:=eqf c0
 let u21:List Ans:=[df,df,df,df,df,df,df,df]
 let w22:List Prf:=[⟨rF⟩,⟨c0⟩,⟨c0⟩,⟨c0⟩,⟨c0⟩,⟨c0⟩,⟨c0⟩,⟨c0⟩]
 by_cases c1:eqI x7 2=true
 · rw[if_pos c1] at h
   let u23:List Ans:=u21++[dt,dt,dt,dt,.call ⟨true,[]⟩ (.bool (aY x10 x1 x2 x3 x4 x5 x6 x7 x8 x9 x10 x11)) [(.row [(.int .u8 x1),(.int .i64 x2),(.int .i64 x3),(.int .u8 x4),(.str x5),(.bool x6)]),(.row [(.int .i64 x7),(.int .u8 x8),(.int .u8 x9),(.int .i64 x10),(.str x11)])],dt]
   let w24:List Prf:=[⟨c1⟩,⟨(fD x10 x1 x2 x3 x4 x5 x6 x7 x8 x9 x10 x11)⟩,⟨c1⟩,⟨c1⟩,⟨c1⟩,⟨c1⟩]++w22
   by_cases c2:(aY x10 x1 x2 x3 x4 x5 x6 x7 x8 x9 x10 x11)=true
   · rw[if_pos c2] at h
     obtain rfl:=h
     exact Tri.of (x:=X45) mixed fC (u23++[dt,.call ⟨true,[]⟩ (.sl 5 (List.map aF (aS x1 x2 x3 x4 x5 x6))) []]) ([⟨(gL x1 x2 x3 x4 x5 x6)⟩,⟨c2⟩]++w24) (by kernel_rfl)
   rw[if_neg c2] at h;replace c2:=eqf c2
   let u25:List Ans:=u23++[df,dt,dt,dt,dt,dt,.call ⟨true,[]⟩ (.bool (bJ x2 x3 x4 x10)) [],dt]
   let w26:List Prf:=[⟨c1⟩,⟨(nO x2 x3 x4 x10)⟩,⟨c1⟩,⟨c1⟩,⟨c1⟩,⟨c1⟩,⟨c1⟩,⟨c2⟩]++w24
   by_cases c3:(bJ x2 x3 x4 x10)=true
   · rw[if_pos c3] at h
     obtain rfl:=h
     exact Tri.of (x:=X45) mixed fC (u25++[dt,(A45_0 x2 x3 x4 x8),.call ⟨true,[]⟩ (.sl 5 (List.map aF (aS x1 ((bA x2 x3 x4 x8).1) ((bA x2 x3 x4 x8).2.1) ((bA x2 x3 x4 x8).2.2.1) x5 true))) []]) ([⟨(gL x1 ((bA x2 x3 x4 x8).1) ((bA x2 x3 x4 x8).2.1) ((bA x2 x3 x4 x8).2.2.1) x5 true)⟩,⟨(qR x2 x3 x4 x8)⟩,⟨c3⟩]++w26) (by kernel_rfl)
   rw[if_neg c3] at h;replace c3:=eqf c3
   by_cases c4:eqI x7 3=true
   · rw[if_pos c4] at h
     by_cases c5:ltI x2 x10=true
     · rw[if_pos c5] at h
       obtain rfl:=h
       exact Tri.of (x:=X45) mixed fC (u25++[df,dt,dt,(A45_4 x2 x3 x4 x10),(aGD x1 x8 x10)]) ([⟨(bS aF (l:=[(4,x1,x8,x10,(ByteArray.mk #[]))]) (n:=1) rfl)⟩,⟨(b9 aF (Nat.le_refl 1):0+1≤(List.map aF [(4,x1,x8,x10,(ByteArray.mk #[]))]).length)⟩,⟨(xD x2 x3 x4 x10)⟩,⟨c5⟩,⟨c4⟩,⟨c3⟩]++w26) (by kernel_rfl)
     rw[if_neg c5] at h;replace c5:=eqf c5
     obtain rfl:=h
     exact Tri.of (x:=X45) mixed fC (u25++[df,dt,df,(aGD x1 x8 x10)]) ([⟨(bS aF (l:=[(4,x1,x8,x10,(ByteArray.mk #[]))]) (n:=1) rfl)⟩,⟨(b9 aF (Nat.le_refl 1):0+1≤(List.map aF [(4,x1,x8,x10,(ByteArray.mk #[]))]).length)⟩,⟨c5⟩,⟨c4⟩,⟨c3⟩]++w26) (by kernel_rfl)
   rw[if_neg c4] at h;replace c4:=eqf c4
   by_cases c5:eqI x7 4=true
   · rw[if_pos c5] at h
     let u33:List Ans:=u25++[df,df,dt,dt,dt,dt,dt,(A45_2 x1 x2 x3 x4 x5 x6 x7 x8 x9 x10 x11),dt]
     let w34:List Prf:=[⟨c5⟩,⟨(fD (pR .i64 x10 1) x1 x2 x3 x4 x5 x6 x7 x8 x9 x10 x11)⟩,⟨c5⟩,⟨c5⟩,⟨c5⟩,⟨c5⟩,⟨c5⟩,⟨c4⟩,⟨c3⟩]++w26
     by_cases c6:(aY (pR .i64 x10 1) x1 x2 x3 x4 x5 x6 x7 x8 x9 x10 x11)=true
     · rw[if_pos c6] at h
       obtain rfl:=h
       exact Tri.of (x:=X45) mixed fC (u33++[dt,sK]) ([⟨c6⟩]++w34) (by kernel_rfl)
     rw[if_neg c6] at h;replace c6:=eqf c6
     obtain rfl:=h
     exact Tri.of (x:=X45) mixed fC (u33++[df,sK]) ([⟨c6⟩]++w34) (by kernel_rfl)
   rw[if_neg c5] at h;replace c5:=eqf c5
   obtain rfl:=h
   exact Tri.of (x:=X45) mixed fC (u25++[df,df,df,df,df,df,df,df,df,sK]) ([⟨rF⟩,⟨c5⟩,⟨c5⟩,⟨c5⟩,⟨c5⟩,⟨c5⟩,⟨c5⟩,⟨c4⟩,⟨c3⟩]++w26) (by kernel_rfl)
 rw[if_neg c1] at h;replace c1:=eqf c1
 let u35:List Ans:=u21++[df,df,df,df,df,df,df,df,df,df,df,df,df]
 let w36:List Prf:=[⟨rF⟩,⟨c1⟩,⟨c1⟩,⟨c1⟩,⟨c1⟩,⟨c1⟩,⟨c1⟩,⟨rF⟩,⟨c1⟩,⟨c1⟩,⟨c1⟩,⟨c1⟩,⟨c1⟩]++w22
 by_cases c2:eqI x7 3=true
 · rw[if_pos c2] at h
   by_cases c3:ltI x2 x10=true
   · rw[if_pos c3] at h
     obtain rfl:=h
     exact Tri.of (x:=X45) mixed fC (u35++[dt,dt,(A45_4 x2 x3 x4 x10),(aGD x1 x8 x10)]) ([⟨(bS aF (l:=[(4,x1,x8,x10,(ByteArray.mk #[]))]) (n:=1) rfl)⟩,⟨(b9 aF (Nat.le_refl 1):0+1≤(List.map aF [(4,x1,x8,x10,(ByteArray.mk #[]))]).length)⟩,⟨(xD x2 x3 x4 x10)⟩,⟨c3⟩,⟨c2⟩]++w36) (by kernel_rfl)
   rw[if_neg c3] at h;replace c3:=eqf c3
   obtain rfl:=h
   exact Tri.of (x:=X45) mixed fC (u35++[dt,df,(aGD x1 x8 x10)]) ([⟨(bS aF (l:=[(4,x1,x8,x10,(ByteArray.mk #[]))]) (n:=1) rfl)⟩,⟨(b9 aF (Nat.le_refl 1):0+1≤(List.map aF [(4,x1,x8,x10,(ByteArray.mk #[]))]).length)⟩,⟨c3⟩,⟨c2⟩]++w36) (by kernel_rfl)
 rw[if_neg c2] at h;replace c2:=eqf c2
 by_cases c3:eqI x7 4=true
 · rw[if_pos c3] at h
   let u41:List Ans:=u35++[df,dt,dt,dt,dt,dt,(A45_2 x1 x2 x3 x4 x5 x6 x7 x8 x9 x10 x11),dt]
   let w42:List Prf:=[⟨c3⟩,⟨(fD (pR .i64 x10 1) x1 x2 x3 x4 x5 x6 x7 x8 x9 x10 x11)⟩,⟨c3⟩,⟨c3⟩,⟨c3⟩,⟨c3⟩,⟨c3⟩,⟨c2⟩]++w36
   by_cases c4:(aY (pR .i64 x10 1) x1 x2 x3 x4 x5 x6 x7 x8 x9 x10 x11)=true
   · rw[if_pos c4] at h
     obtain rfl:=h
     exact Tri.of (x:=X45) mixed fC (u41++[dt,sK]) ([⟨c4⟩]++w42) (by kernel_rfl)
   rw[if_neg c4] at h;replace c4:=eqf c4
   obtain rfl:=h
   exact Tri.of (x:=X45) mixed fC (u41++[df,sK]) ([⟨c4⟩]++w42) (by kernel_rfl)
 rw[if_neg c3] at h;replace c3:=eqf c3
 obtain rfl:=h
 exact Tri.of (x:=X45) mixed fC (u35++[df,df,df,df,df,df,df,df,sK]) ([⟨rF⟩,⟨c3⟩,⟨c3⟩,⟨c3⟩,⟨c3⟩,⟨c3⟩,⟨c3⟩,⟨c2⟩]++w36) (by kernel_rfl)
end Go.Ws

namespace Go.Ws
open Go.Proofs
set_option linter.unusedSimpArgs false
set_option linter.unusedVariables false
set_option maxRecDepth 1000000
set_option maxHeartbeats 4000000
noncomputable def X24:Ctx:=⟨Tryz.f24,[],true⟩
def A24_0:Ans:=.norm 0 ⟨[(4,[]),(5,[(0,5)]),(6,[])],[⟨.tmp 4,[],none⟩],false,[],[]⟩
theorem rQ (k:Nat) (x1:Int) (x2:Int) (x3:Int) (x4:Int) (x5:ByteArray) (x6:Bool) (x7:Int) (x8:Int) (x9:Int) (x10:Int) (x11:ByteArray) (r:Int × Int × Int × Int × ByteArray × Bool × (List (Int × Int × Int × Int × ByteArray)) × Int) (h:kC k x1 x2 x3 x4 x5 x6 x7 x8 x9 x10 x11=some r):Tri Tryz.prog 24 [(.agg [(.int .u8 x1),(.int .i64 x2),(.int .i64 x3),(.int .u8 x4),(.str x5),(.bool x6)]),(.agg [(.int .i64 x7),(.int .u8 x8),(.int .u8 x9),(.int .i64 x10),(.str x11)])] [] (.tup [(.agg [(.int .u8 r.1),(.int .i64 r.2.1),(.int .i64 r.2.2.1),(.int .u8 r.2.2.2.1),(.str r.2.2.2.2.1),(.bool r.2.2.2.2.2.1)]),(.sl 5 (List.map aF r.2.2.2.2.2.2.1)),(.int .i64 r.2.2.2.2.2.2.2)]) []:=by
 unfold kC at h
 let w2:List Prf:=[⟨(qS x1 x2 x3 x4 x5 x6)⟩]
 by_cases c0:(cH x1 x2 x3 x4 x5 x6)=true
 · rw[if_pos c0] at h
   let u3:List Ans:=[.call ⟨true,[]⟩ (.bool (cH x1 x2 x3 x4 x5 x6)) [],df,df,.call ⟨true,[]⟩ (.bool (fB x7 x8 x9 x10 x11)) [],df,df]
   let w4:List Prf:=[⟨(nF c0)⟩,⟨(nF c0)⟩,⟨(aCD x7 x8 x9 x10 x11)⟩,⟨(nF c0)⟩,⟨(nF c0)⟩]++w2
   by_cases c1:(fB x7 x8 x9 x10 x11)=true
   · rw[if_pos c1] at h
     let w6:List Prf:=[⟨(nF c1)⟩,⟨(nF c1)⟩,⟨(nF c1)⟩,⟨(nF c1)⟩,⟨(nF c1)⟩,⟨(nF c1)⟩]++w4
     by_cases c2:eqI x9 x1=true
     · rw[if_pos c2] at h
       let u7:List Ans:=u3++[df,df,df,df,df,df,df,.call ⟨true,[]⟩ (.tup [(.agg [(.int .u8 ((aR x1 x2 x3 x4 x5 x6 x7 x8 x9 x10 x11).1)),(.int .i64 ((aR x1 x2 x3 x4 x5 x6 x7 x8 x9 x10 x11).2.1)),(.int .i64 ((aR x1 x2 x3 x4 x5 x6 x7 x8 x9 x10 x11).2.2.1)),(.int .u8 ((aR x1 x2 x3 x4 x5 x6 x7 x8 x9 x10 x11).2.2.2.1)),(.str ((aR x1 x2 x3 x4 x5 x6 x7 x8 x9 x10 x11).2.2.2.2.1)),(.bool ((aR x1 x2 x3 x4 x5 x6 x7 x8 x9 x10 x11).2.2.2.2.2.1))]),(.sl 5 (List.map aF ((aR x1 x2 x3 x4 x5 x6 x7 x8 x9 x10 x11).2.2.2.2.2.2.1))),(.int .i64 ((aR x1 x2 x3 x4 x5 x6 x7 x8 x9 x10 x11).2.2.2.2.2.2.2))]) []]
       let w8:List Prf:=[⟨(yV x1 x2 x3 x4 x5 x6 x7 x8 x9 x10 x11)⟩,⟨(nF c2)⟩]++w6
       by_cases c3:eqI ((aR x1 x2 x3 x4 x5 x6 x7 x8 x9 x10 x11).2.2.2.2.2.2.2) 0=true
       · rw[if_pos c3] at h
         obtain rfl:=osi h
         exact Tri.of (x:=X24) mixed yX (u7++[df]) ([⟨(nF c3)⟩]++w8) (by kernel_rfl)
       rw[if_neg c3] at h;replace c3:=eqf c3
       obtain rfl:=osi h
       exact Tri.of (x:=X24) mixed yX (u7++[dt,A24_0]) ([⟨(nT c3)⟩]++w8) (by kernel_rfl)
     rw[if_neg c2] at h;replace c2:=eqf c2
     obtain rfl:=osi h
     exact Tri.of (x:=X24) mixed yX (u3++[df,df,df,df,df,df,dt,A24_0]) ([⟨(nT c2)⟩]++w6) (by kernel_rfl)
   rw[if_neg c1] at h;replace c1:=eqf c1
   obtain rfl:=osi h
   exact Tri.of (x:=X24) mixed yX (u3++[dt,dt,dt,dt,dt,dt,dt,A24_0]) ([⟨rT⟩,⟨(nT c1)⟩,⟨(nT c1)⟩,⟨(nT c1)⟩,⟨(nT c1)⟩,⟨(nT c1)⟩,⟨(nT c1)⟩]++w4) (by kernel_rfl)
 rw[if_neg c0] at h;replace c0:=eqf c0
 obtain rfl:=osi h
 exact Tri.of (x:=X24) mixed yX [.call ⟨true,[]⟩ (.bool (cH x1 x2 x3 x4 x5 x6)) [],dt,dt,dt,dt,dt,dt,dt,dt,dt,dt,dt,A24_0] ([⟨rT⟩,⟨rT⟩,⟨rT⟩,⟨rT⟩,⟨rT⟩,⟨rT⟩,⟨rT⟩,⟨(nT c0)⟩,⟨(nT c0)⟩,⟨(nT c0)⟩,⟨(nT c0)⟩]++w2) (by kernel_rfl)
end Go.Ws
