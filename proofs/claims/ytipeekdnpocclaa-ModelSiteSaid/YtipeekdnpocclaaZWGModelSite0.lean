/-
  Walks, merged.
  Conditions: none.
-/
import Derived.Test.YtipeekdnpocclaaZPre
import Derived.Test.YtipeekdnpocclaaZPure
import Derived.Test.YtipeekdnpocclaaZIns72
import Derived.Test.YtipeekdnpocclaaZDel45
import Derived.Test.YtipeekdnpocclaaZIns44
import Derived.Test.YtipeekdnpocclaaZOppI
import Derived.Test.YtipeekdnpocclaaZAgr
set_option linter.unusedVariables false
set_option linter.unusedSimpArgs false
namespace Go.Ws
open Go.Proofs
set_option linter.unusedSimpArgs false
set_option linter.unusedVariables false
set_option maxRecDepth 1000000
set_option maxHeartbeats 4000000
noncomputable def X26:Ctx:=⟨Try.f26,[],true⟩
theorem bR:Tri Try.prog 26 [] [] (.sl 4 (List.map aA (aC))) []:=by
 obtain⟨r,h⟩:∃r,aC=r:=⟨_,rfl⟩
 try rw[h]
 unfold aC at h
 obtain rfl:=h
 exact Tri.of (x:=X26) aH facts26 [.rows (List.map aA [(1,1,0,0),(3,1,0,5),(4,1,0,1),(5,1,0,0),(6,1,0,2)])] [⟨(bA aA (l:=[(1,1,0,0),(3,1,0,5),(4,1,0,1),(5,1,0,0),(6,1,0,2)]) (n:=5) rfl)⟩,⟨(b8 aA (Nat.le_refl 5):0+5≤(List.map aA [(1,1,0,0),(3,1,0,5),(4,1,0,1),(5,1,0,0),(6,1,0,2)]).length)⟩] (by kernel_rfl)
end Go.Ws

namespace Go.Ws
open Go.Proofs
set_option linter.unusedSimpArgs false
set_option linter.unusedVariables false
set_option maxRecDepth 1000000
set_option maxHeartbeats 4000000
noncomputable def X20:Ctx:=⟨Try.f20,[],false⟩
theorem lB:Tri Try.prog 20 [] [] (.hp 0 0) [(.row [.nils,.nils,(.mp 1),.nils]),(.map (aI .i64 (fun y=>AV.agg (aF y)) ([]:Ty2)) ([]:Ty2).length)]:=by
 obtain⟨r,h⟩:∃r,aF5=r:=⟨_,rfl⟩
 try rw[h]
 unfold aF5 at h
 obtain rfl:=h
 exact Tri.of (x:=X20) aH facts20 [.norm 0 ⟨[(0,[])],[⟨.tmp 0,[],none⟩,⟨.cell 0 2,[],none⟩],false,[],[]⟩] [] (by kernel_rfl)
end Go.Ws

namespace Go.Ws
open Go.Proofs
set_option linter.unusedSimpArgs false
set_option linter.unusedVariables false
set_option maxRecDepth 1000000
set_option maxHeartbeats 4000000
noncomputable def X67_1001:Ctx:=⟨Try.f67,[],false⟩
theorem yE (k:Nat) (x1:Ty8) (r:Unit) (h:jQ k x1=some r):Tri Try.prog 67 [(.inl 3 (List.map aE x1))] [] (.ref 3 0 0 0 x1.length .virt) [(.arr 3 (List.map aE x1) 0 0 false)]:=by
 unfold jQ at h
 by_cases c0:dV (x1.length*24)=true
 · rw[if_pos c0] at h
   obtain rfl:=osi h
   exact Tri.of (x:=X67_1001) aH aOI [df,.n x1.length,.norm 0 ⟨[(2,[])],[⟨.tmp 2,[],some 3⟩],false,[],[]⟩,.n x1.length,.rows (List.map aE x1)] [⟨(dZ aE (l:=x1) (n:=x1.length) rfl)⟩,⟨(rfl:x1.length=x1.length)⟩,⟨(zle x1.length)⟩,⟨c0⟩,⟨(aK aE x1)⟩,⟨rF⟩] (by kernel_rfl)
 rw[if_neg c0] at h;replace c0:=eqf c0
 cases h
end Go.Ws

namespace Go.Ws
open Go.Proofs
set_option linter.unusedSimpArgs false
set_option linter.unusedVariables false
set_option maxRecDepth 1000000
set_option maxHeartbeats 4000000
noncomputable def X67_1002:Ctx:=⟨Try.f67,[],false⟩
theorem yZ:Tri Try.prog 67 [.nils] [] (.ref 3 0 0 0 0 .virt) [(.arr 3 (List.map aE []) 0 0 false)]:=by
 obtain⟨r,h⟩:∃r,rA=r:=⟨_,rfl⟩
 try rw[h]
 unfold rA at h
 obtain rfl:=h
 exact Tri.of (x:=X67_1002) aH aOI [dt,.norm 0 ⟨[(2,[])],[⟨.tmp 2,[],some 3⟩],false,[],[]⟩,.n 0,.rows (List.map aE [])] [⟨(dZ aE (l:=[]) (n:=0) rfl)⟩,⟨(rfl:0=0)⟩,⟨(zle 0)⟩,⟨rT⟩] (by kernel_rfl)
end Go.Ws

namespace Go.Ws
open Go.Proofs
set_option linter.unusedSimpArgs false
set_option linter.unusedVariables false
set_option maxRecDepth 1000000
set_option maxHeartbeats 4000000
theorem jS (k:Nat) (x1:Ty8) (r:Unit) (h:oS k x1=some r):Tri Try.prog 67 [(.sl 3 (List.map aE x1))] [] (.ref 3 0 0 0 x1.length .virt) [(.arr 3 (List.map aE x1) 0 0 false)]:=by
 refine Tri.slOf (yE k x1 r h) fun h0=>?_
 have hx:x1=[]:=by simpa using h0
 subst hx
 exact yZ
end Go.Ws

namespace Go.Ws
open Go.Proofs
set_option linter.unusedSimpArgs false
set_option linter.unusedVariables false
set_option maxRecDepth 1000000
set_option maxHeartbeats 4000000
noncomputable def X69:Ctx:=⟨Try.f69,[],true⟩
theorem iX (x1:Int) (x2:Int):Tri Try.prog 69 [(.int .i64 x1),(.int .u8 x2)] [] (.bool (iK x1 x2)) []:=by
 obtain⟨r,h⟩:∃r,iK x1 x2=r:=⟨_,rfl⟩
 try rw[h]
 unfold iK at h
 by_cases c0:ltI x2 64=true
 · rw[if_pos c0] at h
   by_cases c1:ltI x1 0=true
   · rw[if_pos c1] at h
     obtain rfl:=h
     exact Tri.of (x:=X69) aH aID [dt,dt,dt,df,df,df] [⟨(nF c1)⟩,⟨(nF c1)⟩,⟨(nF c1)⟩,⟨c0⟩,⟨c0⟩,⟨c0⟩] (by kernel_rfl)
   rw[if_neg c1] at h;replace c1:=eqf c1
   obtain rfl:=h
   exact Tri.of (x:=X69) aH aID [dt,dt,dt,dt,dt,dt] [⟨(nT c1)⟩,⟨(nT c1)⟩,⟨(nT c1)⟩,⟨c0⟩,⟨c0⟩,⟨c0⟩] (by kernel_rfl)
 rw[if_neg c0] at h;replace c0:=eqf c0
 obtain rfl:=h
 exact Tri.of (x:=X69) aH aID [df,df,df,df,df,df] [⟨rF⟩,⟨rF⟩,⟨rF⟩,⟨c0⟩,⟨c0⟩,⟨c0⟩] (by kernel_rfl)
end Go.Ws

namespace Go.Ws
open Go.Proofs
set_option linter.unusedSimpArgs false
set_option linter.unusedVariables false
set_option maxRecDepth 1000000
set_option maxHeartbeats 4000000
noncomputable def X65:Ctx:=⟨Try.f65,[],true⟩
theorem g5 (x1:Int):Tri Try.prog 65 [(.int .u8 x1)] [] (.bool (iV x1)) []:=by
 obtain⟨r,h⟩:∃r,iV x1=r:=⟨_,rfl⟩
 try rw[h]
 unfold iV at h
 obtain rfl:=h
 exact Tri.of (x:=X65) aH facts65 [] [] (by kernel_rfl)
end Go.Ws

namespace Go.Ws
open Go.Proofs
set_option linter.unusedSimpArgs false
set_option linter.unusedVariables false
set_option maxRecDepth 1000000
set_option maxHeartbeats 4000000
noncomputable def X53:Ctx:=⟨Try.f53,[],true⟩
def aHO (x1:Int):Ans:=.call ⟨true,[]⟩ (.bool (iV x1)) []
def aHK (x2:Int):Ans:=.call ⟨true,[]⟩ (.bool (iV x2)) []
theorem xZ (x1:Int) (x2:Int):Tri Try.prog 53 [(.int .u8 x1),(.int .u8 x2)] [] (.int .i64 (bK x1 x2)) []:=by
 obtain⟨r,h⟩:∃r,bK x1 x2=r:=⟨_,rfl⟩
 try rw[h]
 unfold bK at h
 by_cases c0:(iV x1)=true
 · rw[if_pos c0] at h
   by_cases c1:(iV x2)=true
   · rw[if_pos c1] at h
     obtain rfl:=h
     exact Tri.of (x:=X53) aH z5 [(aHO x1),(aHK x2),dt,dt] [⟨c1⟩,⟨c0⟩,⟨(g5 x2)⟩,⟨(g5 x1)⟩] (by kernel_rfl)
   rw[if_neg c1] at h;replace c1:=eqf c1
   obtain rfl:=h
   exact Tri.of (x:=X53) aH z5 [(aHO x1),(aHK x2),dt,df] [⟨c1⟩,⟨c0⟩,⟨(g5 x2)⟩,⟨(g5 x1)⟩] (by kernel_rfl)
 rw[if_neg c0] at h;replace c0:=eqf c0
 by_cases c1:(iV x2)=true
 · rw[if_pos c1] at h
   obtain rfl:=h
   exact Tri.of (x:=X53) aH z5 [(aHO x1),(aHK x2),df,dt] [⟨c1⟩,⟨c0⟩,⟨(g5 x2)⟩,⟨(g5 x1)⟩] (by kernel_rfl)
 rw[if_neg c1] at h;replace c1:=eqf c1
 by_cases c2:ltI x1 x2=true
 · rw[if_pos c2] at h
   obtain rfl:=h
   exact Tri.of (x:=X53) aH z5 [(aHO x1),(aHK x2),df,df,dt] [⟨c2⟩,⟨c1⟩,⟨c0⟩,⟨(g5 x2)⟩,⟨(g5 x1)⟩] (by kernel_rfl)
 rw[if_neg c2] at h;replace c2:=eqf c2
 by_cases c3:ltI x2 x1=true
 · rw[if_pos c3] at h
   obtain rfl:=h
   exact Tri.of (x:=X53) aH z5 [(aHO x1),(aHK x2),df,df,df,dt] [⟨c3⟩,⟨c2⟩,⟨c1⟩,⟨c0⟩,⟨(g5 x2)⟩,⟨(g5 x1)⟩] (by kernel_rfl)
 rw[if_neg c3] at h;replace c3:=eqf c3
 obtain rfl:=h
 exact Tri.of (x:=X53) aH z5 [(aHO x1),(aHK x2),df,df,df,df] [⟨c3⟩,⟨c2⟩,⟨c1⟩,⟨c0⟩,⟨(g5 x2)⟩,⟨(g5 x1)⟩] (by kernel_rfl)
end Go.Ws

namespace Go.Ws
open Go.Proofs
set_option linter.unusedSimpArgs false
set_option linter.unusedVariables false
set_option maxRecDepth 1000000
set_option maxHeartbeats 4000000
noncomputable def X100:Ctx:=⟨Try.f100,[],true⟩
theorem eA (x1:Int):Tri Try.prog 100 [(.int .i64 x1)] [] (.bool (eW x1)) []:=by
 obtain⟨r,h⟩:∃r,eW x1=r:=⟨_,rfl⟩
 try rw[h]
 unfold eW at h
 obtain rfl:=h
 exact Tri.of (x:=X100) aH facts100 [] [] (by kernel_rfl)
end Go.Ws

namespace Go.Ws
open Go.Proofs
set_option linter.unusedSimpArgs false
set_option linter.unusedVariables false
set_option maxRecDepth 1000000
set_option maxHeartbeats 4000000
noncomputable def X88:Ctx:=⟨Try.f88,[],true⟩
def aHW (x1:Int):Ans:=.call ⟨true,[]⟩ (.bool (eW x1)) []
def aG7 (x2:Int):Ans:=.call ⟨true,[]⟩ (.bool (eW x2)) []
theorem aBR (x1:Int) (x2:Int):Tri Try.prog 88 [(.int .i64 x1),(.int .i64 x2)] [] (.int .i64 (dX x1 x2)) []:=by
 obtain⟨r,h⟩:∃r,dX x1 x2=r:=⟨_,rfl⟩
 try rw[h]
 unfold dX at h
 by_cases c0:(eW x1)=true
 · rw[if_pos c0] at h
   by_cases c1:(eW x2)=true
   · rw[if_pos c1] at h
     obtain rfl:=h
     exact Tri.of (x:=X88) aH zP [(aHW x1),(aG7 x2),dt,dt] [⟨c1⟩,⟨c0⟩,⟨(eA x2)⟩,⟨(eA x1)⟩] (by kernel_rfl)
   rw[if_neg c1] at h;replace c1:=eqf c1
   obtain rfl:=h
   exact Tri.of (x:=X88) aH zP [(aHW x1),(aG7 x2),dt,df] [⟨c1⟩,⟨c0⟩,⟨(eA x2)⟩,⟨(eA x1)⟩] (by kernel_rfl)
 rw[if_neg c0] at h;replace c0:=eqf c0
 by_cases c1:(eW x2)=true
 · rw[if_pos c1] at h
   obtain rfl:=h
   exact Tri.of (x:=X88) aH zP [(aHW x1),(aG7 x2),df,dt] [⟨c1⟩,⟨c0⟩,⟨(eA x2)⟩,⟨(eA x1)⟩] (by kernel_rfl)
 rw[if_neg c1] at h;replace c1:=eqf c1
 by_cases c2:ltI x1 x2=true
 · rw[if_pos c2] at h
   obtain rfl:=h
   exact Tri.of (x:=X88) aH zP [(aHW x1),(aG7 x2),df,df,dt] [⟨c2⟩,⟨c1⟩,⟨c0⟩,⟨(eA x2)⟩,⟨(eA x1)⟩] (by kernel_rfl)
 rw[if_neg c2] at h;replace c2:=eqf c2
 by_cases c3:ltI x2 x1=true
 · rw[if_pos c3] at h
   obtain rfl:=h
   exact Tri.of (x:=X88) aH zP [(aHW x1),(aG7 x2),df,df,df,dt] [⟨c3⟩,⟨c2⟩,⟨c1⟩,⟨c0⟩,⟨(eA x2)⟩,⟨(eA x1)⟩] (by kernel_rfl)
 rw[if_neg c3] at h;replace c3:=eqf c3
 obtain rfl:=h
 exact Tri.of (x:=X88) aH zP [(aHW x1),(aG7 x2),df,df,df,df] [⟨c3⟩,⟨c2⟩,⟨c1⟩,⟨c0⟩,⟨(eA x2)⟩,⟨(eA x1)⟩] (by kernel_rfl)
end Go.Ws

namespace Go.Ws
open Go.Proofs
set_option linter.unusedSimpArgs false
set_option linter.unusedVariables false
set_option maxRecDepth 1000000
set_option maxHeartbeats 4000000
noncomputable def X87:Ctx:=⟨Try.f87,[],true⟩
noncomputable def L87_0:Code:=at_ Try.f87 [1,1,0,1,4,5]
def S87_0 (x1:List Int) (dM:Int):St:=⟨mkT 18 [(3,(.int .i64 0)),(6,(.sl 1 (List.map aG x1))),(7,(.int .i64 (nI x1.length))),(8,(.int .i64 dM))],[]⟩
def aI8:St:=⟨mkT 18 [(3,(.int .i64 0))],[]⟩
def O87_0 (x1:List Int) (y:(Sum (Unit) (Int))):GX:=match y with
 | .inl y=>.st (.exit 0) (aI8)
 | .inr y=>.fin (.int .i64 y) []
theorem wP (x1:List Int) (y:(Sum (Unit) (Int))):∀(k:Nat) (dM:Int),k9 k x1 dM=some y→LT Try.prog X87 L87_0 (S87_0 x1 dM) (O87_0 x1 y)
 | 0,dM,h=>by cases h
 | k+1,dM,h=>by
  rw[k9] at h
  by_cases cL0:ltI dM (nI x1.length)=true
  · rw[if_pos cL0] at h
    by_cases cL1:inI dM x1.length=true
    · rw[if_pos cL1] at h
      obtain⟨pJ,eL2,h⟩:=bsm h
      by_cases cL3:eqI pJ 0=true
      · rw[if_pos cL3] at h
        exact LT.next aH (hs:=⟨[(3,[]),(6,[]),(7,[]),(8,[])],[],false,[],[]⟩) (es:=none) [dt,.n x1.length,.row [(.int .i64 pJ)],df] [⟨(nF cL3)⟩,⟨(aN (e:=aG) eL2 1 0 1 (by decide))⟩,⟨cL1⟩,⟨(aK aG x1)⟩,⟨cL0⟩] (by kernel_rfl) (wP x1 y k (aM .i64 dM 1) h)
      rw[if_neg cL3] at h;replace cL3:=eqf cL3
      obtain rfl:=osi h
      show LT _ _ _ _ (.fin (.int .i64 pJ) [])
      exact LT.done aH (hs:=⟨[],[],false,[],[]⟩) (es:=none) [dt,.n x1.length,.row [(.int .i64 pJ)],dt] [⟨(nT cL3)⟩,⟨(aN (e:=aG) eL2 1 0 1 (by decide))⟩,⟨cL1⟩,⟨(aK aG x1)⟩,⟨cL0⟩] (by kernel_rfl) (fun s h=>by cases h)
    rw[if_neg cL1] at h;replace cL1:=eqf cL1
    cases h
  rw[if_neg cL0] at h;replace cL0:=eqf cL0
  obtain rfl:=osi h
  show LT _ _ _ _ (.st (.exit 0) (aI8))
  exact LT.done aH (hs:=⟨[],[],false,[],[]⟩) (es:=(some ⟨[(3,[])],[],false,[],[]⟩)) [df] [⟨cL0⟩] (by kernel_rfl) (fun s h=>by cases h)
theorem aO8 (k:Nat) (x1:List Int) (r:Int) (h:aDW k x1=some r):Tri Try.prog 87 [(.sl 1 (List.map aG x1))] [] (.int .i64 r) []:=by
 unfold aDW at h
 obtain⟨x2,e0,h⟩:=bsm h
 cases x2 with
 | inl x3 =>
  simp only[Sum.elim_inl] at h
  obtain rfl:=osi h
  exact Tri.of (x:=X87) aH aOB [.n x1.length,.norm 2 ⟨[(3,[]),(6,[]),(7,[]),(8,[])],[],false,[],[]⟩,.out (.st .normal (aI8))] [⟨(LT.block (wP x1 _ k 0 e0))⟩,⟨(aK aG x1)⟩] (by kernel_rfl)
 | inr x3 =>
  simp only[Sum.elim_inr] at h
  obtain rfl:=osi h
  exact Tri.of (x:=X87) aH aOB [.n x1.length,.norm 2 ⟨[(3,[]),(6,[]),(7,[]),(8,[])],[],false,[],[]⟩,.out (.fin (.int .i64 x3) [])] [⟨(LT.blockFin (id:=0) (wP x1 _ k 0 e0))⟩,⟨(aK aG x1)⟩] (by kernel_rfl)
end Go.Ws

namespace Go.Ws
open Go.Proofs
set_option linter.unusedSimpArgs false
set_option linter.unusedVariables false
set_option maxRecDepth 1000000
set_option maxHeartbeats 4000000
noncomputable def X71:Ctx:=⟨Try.f71,[],true⟩
theorem j9 (k:Nat) (x1:Int) (x2:Int) (x3:Bool) (x4:Int) (x5:Int) (x6:Bool) (r:Int) (h:oB k x1 x2 x3 x4 x5 x6=some r):Tri Try.prog 71 [(.agg [(.int .u8 x1),(.int .i64 x2),(.bool x3)]),(.agg [(.int .u8 x4),(.int .i64 x5),(.bool x6)])] [] (.int .i64 r) []:=by
 unfold oB at h
 obtain⟨x7,e0,h⟩:=bsm h
 obtain rfl:=osi h
 exact Tri.of (x:=X71) aH facts71 [.call ⟨true,[]⟩ (.int .i64 (bK x1 x4)) [],.call ⟨true,[]⟩ (.int .i64 (dX x2 x5)) [],.call ⟨true,[]⟩ (.int .i64 x7) [],.rows (List.map aG [(bK x1 x4),(dX x2 x5)])] [⟨(aO8 k [(bK x1 x4),(dX x2 x5)] _ e0)⟩,⟨(bA aG (l:=[(bK x1 x4),(dX x2 x5)]) (n:=2) rfl)⟩,⟨(b8 aG (Nat.le_refl 2):0+2≤(List.map aG [(bK x1 x4),(dX x2 x5)]).length)⟩,⟨(aBR x2 x5)⟩,⟨(xZ x1 x4)⟩] (by kernel_rfl)
end Go.Ws

namespace Go.Ws
open Go.Proofs
set_option linter.unusedSimpArgs false
set_option linter.unusedVariables false
set_option maxRecDepth 1000000
set_option maxHeartbeats 4000000
noncomputable def X68:Ctx:=⟨Try.f68,[],true⟩
noncomputable def L68_0:Code:=at_ Try.f68 [1,0,1,4,5]
def S68_0 (x1:Ty8) (bQ:Int):St:=⟨mkT 46 [(0,(.sl 3 (List.map aE x1))),(6,(.sl 3 (List.map aE x1))),(7,(.int .i64 (nI x1.length))),(8,(.int .i64 bQ))],[]⟩
def aIB:St:=⟨mkT 46 [],[]⟩
def O68_0 (x1:Ty8) (y:z7):GX:=match y with
 | .inl y=>.st (.exit 0) (aIB)
 | .inr y=>.fin (.bool y) []
def aFM (aV:Int × Int × Bool):Ans:=.row [(.int .u8 aV.1),(.int .i64 aV.2.1),(.bool aV.2.2)]
def aGA (aV:Int × Int × Bool):Ans:=.call ⟨true,[]⟩ (.bool (iK aV.2.1 aV.1)) []
def aJ6 (cN:Int × Int × Bool):Ans:=.row [(.int .u8 cN.1),(.int .i64 cN.2.1),(.bool cN.2.2)]
def aLB (nH:Int):Ans:=.call ⟨true,[]⟩ (.int .i64 nH) []
theorem l8 (x1:Ty8) (y:z7):∀(k:Nat) (bQ:Int),eX k x1 bQ=some y→LT Try.prog X68 L68_0 (S68_0 x1 bQ) (O68_0 x1 y)
 | 0,bQ,h=>by cases h
 | k+1,bQ,h=>by
  rw[eX] at h
  by_cases cL0:ltI bQ (nI x1.length)=true
  · rw[if_pos cL0] at h
    by_cases cL1:inI bQ x1.length=true
    · rw[if_pos cL1] at h
      obtain⟨aV,eL2,h⟩:=bsm h
      by_cases cL3:(iK aV.2.1 aV.1)=true
      · rw[if_pos cL3] at h
        by_cases cL4:eqI bQ 0=true
        · rw[if_pos cL4] at h
          exact LT.next aH (hs:=⟨[(0,[]),(6,[]),(7,[]),(8,[])],[],false,[],[]⟩) (es:=none) [dt,.n x1.length,(aFM aV),(aGA aV),df,dt] [⟨cL4⟩,⟨(nF cL3)⟩,⟨(iX aV.2.1 aV.1)⟩,⟨(aN (e:=aE) eL2 3 0 3 (by decide))⟩,⟨cL1⟩,⟨(aK aE x1)⟩,⟨cL0⟩] (by kernel_rfl) (l8 x1 y k (aM .i64 bQ 1) h)
        rw[if_neg cL4] at h;replace cL4:=eqf cL4
        by_cases cL5:inI (sO .i64 bQ 1) x1.length=true
        · rw[if_pos cL5] at h
          obtain⟨cN,eL6,h⟩:=bsm h
          obtain⟨nH,eL7,h⟩:=bsm h
          by_cases cL8:ltI nH 0=true
          · rw[if_pos cL8] at h
            by_cases cL9:eqI cN.1 aV.1=true
            · rw[if_pos cL9] at h
              by_cases cL10:cN.2.2=true
              · rw[if_pos cL10] at h
                obtain rfl:=osi h
                show LT _ _ _ _ (.fin (.bool false) [])
                exact LT.done aH (hs:=⟨[],[],false,[],[]⟩) (es:=none) [dt,.n x1.length,(aFM aV),(aGA aV),df,df,.n x1.length,(aJ6 cN),(aLB nH),df,df,df,df,df,df,dt,dt,dt,dt,dt,dt,dt,df,dt,df,dt] [⟨rT⟩,⟨(nF cL8)⟩,⟨cL9⟩,⟨(nF cL8)⟩,⟨cL10⟩,⟨cL9⟩,⟨cL10⟩,⟨cL10⟩,⟨cL9⟩,⟨cL9⟩,⟨cL9⟩,⟨(nF cL8)⟩,⟨(nF cL8)⟩,⟨(nF cL8)⟩,⟨(nF cL8)⟩,⟨(nF cL8)⟩,⟨(nF cL8)⟩,⟨(j9 k cN.1 cN.2.1 cN.2.2 aV.1 aV.2.1 aV.2.2 _ eL7)⟩,⟨(aN (e:=aE) eL6 3 0 3 (by decide))⟩,⟨cL5⟩,⟨(aK aE x1)⟩,⟨cL4⟩,⟨(nF cL3)⟩,⟨(iX aV.2.1 aV.1)⟩,⟨(aN (e:=aE) eL2 3 0 3 (by decide))⟩,⟨cL1⟩,⟨(aK aE x1)⟩,⟨cL0⟩] (by kernel_rfl) (fun s h=>by cases h)
              rw[if_neg cL10] at h;replace cL10:=eqf cL10
              by_cases cL11:aV.2.2=true
              · rw[if_pos cL11] at h
                obtain rfl:=osi h
                show LT _ _ _ _ (.fin (.bool false) [])
                exact LT.done aH (hs:=⟨[],[],false,[],[]⟩) (es:=none) [dt,.n x1.length,(aFM aV),(aGA aV),df,df,.n x1.length,(aJ6 cN),(aLB nH),df,df,df,df,df,df,dt,dt,dt,df,df,dt,df,df,dt,df,dt] [⟨cL11⟩,⟨(nF cL8)⟩,⟨cL9⟩,⟨(nF cL8)⟩,⟨cL10⟩,⟨cL9⟩,⟨cL10⟩,⟨cL10⟩,⟨cL9⟩,⟨cL9⟩,⟨cL9⟩,⟨(nF cL8)⟩,⟨(nF cL8)⟩,⟨(nF cL8)⟩,⟨(nF cL8)⟩,⟨(nF cL8)⟩,⟨(nF cL8)⟩,⟨(j9 k cN.1 cN.2.1 cN.2.2 aV.1 aV.2.1 aV.2.2 _ eL7)⟩,⟨(aN (e:=aE) eL6 3 0 3 (by decide))⟩,⟨cL5⟩,⟨(aK aE x1)⟩,⟨cL4⟩,⟨(nF cL3)⟩,⟨(iX aV.2.1 aV.1)⟩,⟨(aN (e:=aE) eL2 3 0 3 (by decide))⟩,⟨cL1⟩,⟨(aK aE x1)⟩,⟨cL0⟩] (by kernel_rfl) (fun s h=>by cases h)
              rw[if_neg cL11] at h;replace cL11:=eqf cL11
              exact LT.next aH (hs:=⟨[(0,[]),(6,[]),(7,[]),(8,[])],[],false,[],[]⟩) (es:=none) [dt,.n x1.length,(aFM aV),(aGA aV),df,df,.n x1.length,(aJ6 cN),(aLB nH),df,df,df,df,df,df,dt,dt,dt,df,df,dt,df,df,dt,df,df] [⟨cL11⟩,⟨(nF cL8)⟩,⟨cL9⟩,⟨(nF cL8)⟩,⟨cL10⟩,⟨cL9⟩,⟨cL10⟩,⟨cL10⟩,⟨cL9⟩,⟨cL9⟩,⟨cL9⟩,⟨(nF cL8)⟩,⟨(nF cL8)⟩,⟨(nF cL8)⟩,⟨(nF cL8)⟩,⟨(nF cL8)⟩,⟨(nF cL8)⟩,⟨(j9 k cN.1 cN.2.1 cN.2.2 aV.1 aV.2.1 aV.2.2 _ eL7)⟩,⟨(aN (e:=aE) eL6 3 0 3 (by decide))⟩,⟨cL5⟩,⟨(aK aE x1)⟩,⟨cL4⟩,⟨(nF cL3)⟩,⟨(iX aV.2.1 aV.1)⟩,⟨(aN (e:=aE) eL2 3 0 3 (by decide))⟩,⟨cL1⟩,⟨(aK aE x1)⟩,⟨cL0⟩] (by kernel_rfl) (l8 x1 y k (aM .i64 bQ 1) h)
            rw[if_neg cL9] at h;replace cL9:=eqf cL9
            exact LT.next aH (hs:=⟨[(0,[]),(6,[]),(7,[]),(8,[])],[],false,[],[]⟩) (es:=none) [dt,.n x1.length,(aFM aV),(aGA aV),df,df,.n x1.length,(aJ6 cN),(aLB nH),df,df,df,df,df,df,df,df,df,df,df,df,df,df] [⟨rF⟩,⟨(nF cL8)⟩,⟨cL9⟩,⟨(nF cL8)⟩,⟨cL9⟩,⟨cL9⟩,⟨cL9⟩,⟨cL9⟩,⟨(nF cL8)⟩,⟨(nF cL8)⟩,⟨(nF cL8)⟩,⟨(nF cL8)⟩,⟨(nF cL8)⟩,⟨(nF cL8)⟩,⟨(j9 k cN.1 cN.2.1 cN.2.2 aV.1 aV.2.1 aV.2.2 _ eL7)⟩,⟨(aN (e:=aE) eL6 3 0 3 (by decide))⟩,⟨cL5⟩,⟨(aK aE x1)⟩,⟨cL4⟩,⟨(nF cL3)⟩,⟨(iX aV.2.1 aV.1)⟩,⟨(aN (e:=aE) eL2 3 0 3 (by decide))⟩,⟨cL1⟩,⟨(aK aE x1)⟩,⟨cL0⟩] (by kernel_rfl) (l8 x1 y k (aM .i64 bQ 1) h)
          rw[if_neg cL8] at h;replace cL8:=eqf cL8
          obtain rfl:=osi h
          show LT _ _ _ _ (.fin (.bool false) [])
          exact LT.done aH (hs:=⟨[],[],false,[],[]⟩) (es:=none) [dt,.n x1.length,(aFM aV),(aGA aV),df,df,.n x1.length,(aJ6 cN),(aLB nH),dt,dt,dt,dt,dt,dt,dt,dt,dt] [⟨rT⟩,⟨(nT cL8)⟩,⟨(nT cL8)⟩,⟨(nT cL8)⟩,⟨(nT cL8)⟩,⟨(nT cL8)⟩,⟨(nT cL8)⟩,⟨(nT cL8)⟩,⟨(nT cL8)⟩,⟨(j9 k cN.1 cN.2.1 cN.2.2 aV.1 aV.2.1 aV.2.2 _ eL7)⟩,⟨(aN (e:=aE) eL6 3 0 3 (by decide))⟩,⟨cL5⟩,⟨(aK aE x1)⟩,⟨cL4⟩,⟨(nF cL3)⟩,⟨(iX aV.2.1 aV.1)⟩,⟨(aN (e:=aE) eL2 3 0 3 (by decide))⟩,⟨cL1⟩,⟨(aK aE x1)⟩,⟨cL0⟩] (by kernel_rfl) (fun s h=>by cases h)
        rw[if_neg cL5] at h;replace cL5:=eqf cL5
        cases h
      rw[if_neg cL3] at h;replace cL3:=eqf cL3
      obtain rfl:=osi h
      show LT _ _ _ _ (.fin (.bool false) [])
      exact LT.done aH (hs:=⟨[],[],false,[],[]⟩) (es:=none) [dt,.n x1.length,(aFM aV),(aGA aV),dt] [⟨(nT cL3)⟩,⟨(iX aV.2.1 aV.1)⟩,⟨(aN (e:=aE) eL2 3 0 3 (by decide))⟩,⟨cL1⟩,⟨(aK aE x1)⟩,⟨cL0⟩] (by kernel_rfl) (fun s h=>by cases h)
    rw[if_neg cL1] at h;replace cL1:=eqf cL1
    cases h
  rw[if_neg cL0] at h;replace cL0:=eqf cL0
  obtain rfl:=osi h
  show LT _ _ _ _ (.st (.exit 0) (aIB))
  exact LT.done aH (hs:=⟨[],[],false,[],[]⟩) (es:=(some ⟨[],[],false,[],[]⟩)) [df] [⟨cL0⟩] (by kernel_rfl) (fun s h=>by cases h)
theorem nR (k:Nat) (x1:Ty8) (r:Bool) (h:rX k x1=some r):Tri Try.prog 68 [(.sl 3 (List.map aE x1))] [] (.bool r) []:=by
 unfold rX at h
 obtain⟨x2,e0,h⟩:=bsm h
 cases x2 with
 | inl x3 =>
  simp only[Sum.elim_inl] at h
  obtain rfl:=osi h
  exact Tri.of (x:=X68) aH aNB [.n x1.length,.norm 2 ⟨[(0,[]),(6,[]),(7,[]),(8,[])],[],false,[],[]⟩,.out (.st .normal (aIB))] [⟨(LT.block (l8 x1 _ k 0 e0))⟩,⟨(aK aE x1)⟩] (by kernel_rfl)
 | inr x3 =>
  simp only[Sum.elim_inr] at h
  obtain rfl:=osi h
  exact Tri.of (x:=X68) aH aNB [.n x1.length,.norm 2 ⟨[(0,[]),(6,[]),(7,[]),(8,[])],[],false,[],[]⟩,.out (.fin (.bool x3) [])] [⟨(LT.blockFin (id:=0) (l8 x1 _ k 0 e0))⟩,⟨(aK aE x1)⟩] (by kernel_rfl)
end Go.Ws

namespace Go.Ws
open Go.Proofs
set_option linter.unusedSimpArgs false
set_option linter.unusedVariables false
set_option maxRecDepth 1000000
set_option maxHeartbeats 4000000
noncomputable def X70:Ctx:=⟨Try.f70,[],true⟩
noncomputable def L70_0:Code:=at_ Try.f70 [1,1,1,0,4,5]
def S70_0 (x1:Ty8) (x2:Int) (x3:Int) (x4:Bool) (cD:Int) (cO:Int):St:=⟨mkT 49 [(0,(.sl 3 (List.map aE x1))),(2,(.fn 71 [])),(4,(.hp 0 0)),(8,(.int .i64 (nI x1.length))),(9,(.int .i64 cD)),(10,(.int .i64 cO))],[(.row [(.int .u8 x2),(.int .i64 x3),(.bool x4)])]⟩
def aEL (x1:Ty8) (x2:Int) (x3:Int) (x4:Bool) (v70002_1:Int):St:=⟨mkT 49 [(0,(.sl 3 (List.map aE x1))),(2,(.fn 71 [])),(4,(.hp 0 0)),(8,(.int .i64 (nI x1.length))),(9,(.int .i64 v70002_1))],[(.row [(.int .u8 x2),(.int .i64 x3),(.bool x4)])]⟩
def O70_0 (x1:Ty8) (x2:Int) (x3:Int) (x4:Bool) (y:(Int)):GX:=.st (.exit 0) (aEL x1 x2 x3 x4 y)
def A70_0:Ans:=.norm 2 ⟨[(0,[]),(2,[]),(4,[]),(8,[]),(9,[]),(10,[])],[⟨.tmp 4,[],none⟩],false,[],[]⟩
theorem gU (x1:Ty8) (x2:Int) (x3:Int) (x4:Bool) (y:(Int)):∀(k:Nat) (cD:Int) (cO:Int),bG k x1 x2 x3 x4 cD cO=some y→LT Try.prog X70 L70_0 (S70_0 x1 x2 x3 x4 cD cO) (O70_0 x1 x2 x3 x4 y)
 | 0,cD,cO,h=>by cases h
 | k+1,cD,cO,h=>by
  rw[bG] at h
  by_cases cL0:ltI cD cO=true
  · rw[if_pos cL0] at h
    by_cases cL1:inI (conv .i64 (sH .u64 (conv .u64 (aM .i64 cD cO)) 1)) x1.length=true
    · rw[if_pos cL1] at h
      obtain⟨iE,eL2,h⟩:=bsm h
      obtain⟨uM,eL3,h⟩:=bsm h
      by_cases cL4:ltI uM 0=true
      · rw[if_pos cL4] at h
        exact LT.next aH (hs:=⟨[(0,[]),(2,[]),(4,[]),(8,[]),(9,[]),(10,[])],[⟨.tmp 4,[],none⟩],false,[],[]⟩) (es:=none) [dt,.n x1.length,.row [(.int .u8 iE.1),(.int .i64 iE.2.1),(.bool iE.2.2)],.call ⟨true,[]⟩ (.int .i64 uM) [],dt] [⟨cL4⟩,⟨(j9 k iE.1 iE.2.1 iE.2.2 x2 x3 x4 _ eL3)⟩,⟨(aN (e:=aE) eL2 3 0 3 (by decide))⟩,⟨cL1⟩,⟨(aK aE x1)⟩,⟨cL0⟩] (by kernel_rfl) (gU x1 x2 x3 x4 y k (aM .i64 (conv .i64 (sH .u64 (conv .u64 (aM .i64 cD cO)) 1)) 1) cO h)
      rw[if_neg cL4] at h;replace cL4:=eqf cL4
      exact LT.next aH (hs:=⟨[(0,[]),(2,[]),(4,[]),(8,[]),(9,[]),(10,[])],[⟨.tmp 4,[],none⟩],false,[],[]⟩) (es:=none) [dt,.n x1.length,.row [(.int .u8 iE.1),(.int .i64 iE.2.1),(.bool iE.2.2)],.call ⟨true,[]⟩ (.int .i64 uM) [],df] [⟨cL4⟩,⟨(j9 k iE.1 iE.2.1 iE.2.2 x2 x3 x4 _ eL3)⟩,⟨(aN (e:=aE) eL2 3 0 3 (by decide))⟩,⟨cL1⟩,⟨(aK aE x1)⟩,⟨cL0⟩] (by kernel_rfl) (gU x1 x2 x3 x4 y k cD (conv .i64 (sH .u64 (conv .u64 (aM .i64 cD cO)) 1)) h)
    rw[if_neg cL1] at h;replace cL1:=eqf cL1
    cases h
  rw[if_neg cL0] at h;replace cL0:=eqf cL0
  obtain rfl:=osi h
  show LT _ _ _ _ (.st (.exit 0) (aEL x1 x2 x3 x4 cD))
  exact LT.done aH (hs:=⟨[],[],false,[],[]⟩) (es:=(some ⟨[(0,[]),(2,[]),(4,[]),(8,[]),(9,[])],[⟨.tmp 4,[],none⟩],false,[],[]⟩)) [df] [⟨cL0⟩] (by kernel_rfl) (fun s h=>by cases h)
theorem kM (k:Nat) (x1:Ty8) (x2:Int) (x3:Int) (x4:Bool) (r:Int × Bool) (h:f3 k x1 x2 x3 x4=some r):Tri Try.prog 70 [(.sl 3 (List.map aE x1)),(.agg [(.int .u8 x2),(.int .i64 x3),(.bool x4)]),(.fn 71 [])] [] (.tup [(.int .i64 r.1),(.bool r.2)]) []:=by
 unfold f3 at h
 obtain⟨x6,e0,h⟩:=bsm h
 by_cases c2:ltI x6 (nI x1.length)=true
 · rw[if_pos c2] at h
   by_cases c3:inI x6 x1.length=true
   · rw[if_pos c3] at h
     obtain⟨x7,e4,h⟩:=bsm h
     obtain⟨x8,e5,h⟩:=bsm h
     obtain rfl:=osi h
     exact Tri.of (x:=X70) aH aOS [.n x1.length,A70_0,.out (.st .normal (aEL x1 x2 x3 x4 x6)),dt,dt,dt,dt,.n x1.length,dt,.row [(.int .u8 x7.1),(.int .i64 x7.2.1),(.bool x7.2.2)],dt,dt,.call ⟨true,[]⟩ (.int .i64 x8) [],dt,dt] [⟨c2⟩,⟨c2⟩,⟨(j9 k x7.1 x7.2.1 x7.2.2 x2 x3 x4 _ e5)⟩,⟨c2⟩,⟨c2⟩,⟨(aN (e:=aE) e4 3 0 3 (by decide))⟩,⟨c2⟩,⟨c3⟩,⟨(aK aE x1)⟩,⟨c2⟩,⟨c2⟩,⟨c2⟩,⟨c2⟩,⟨(LT.block (gU x1 x2 x3 x4 _ k 0 (nI x1.length) e0))⟩,⟨(aK aE x1)⟩] (by kernel_rfl)
   rw[if_neg c3] at h;replace c3:=eqf c3
   cases h
 rw[if_neg c2] at h;replace c2:=eqf c2
 obtain rfl:=osi h
 exact Tri.of (x:=X70) aH aOS [.n x1.length,A70_0,.out (.st .normal (aEL x1 x2 x3 x4 x6)),df,df,df,df,df,df,df,df,df] [⟨c2⟩,⟨c2⟩,⟨c2⟩,⟨c2⟩,⟨c2⟩,⟨c2⟩,⟨c2⟩,⟨c2⟩,⟨c2⟩,⟨(LT.block (gU x1 x2 x3 x4 _ k 0 (nI x1.length) e0))⟩,⟨(aK aE x1)⟩] (by kernel_rfl)
end Go.Ws

namespace Go.Ws
open Go.Proofs
set_option linter.unusedSimpArgs false
set_option linter.unusedVariables false
set_option maxRecDepth 1000000
set_option maxHeartbeats 4000000
theorem aDC (k:Nat) (x1:Int) (x2:Ty8) (x3:Ty8) (r:Ty8) (h:pD k x1 x2 x3=some r):Tri Try.prog 72 [(.ref 3 0 0 0 x2.length .virt),(.int .i64 x1),(.ref 3 1 0 0 x3.length .full)] [(.arr 3 (List.map aE x2) 0 0 false),(.arr 3 (List.map aE x3) 0 0 false)] (.ref 3 0 1 0 r.length .full) [(.arr 3 (List.map aE r) 1 1 false),(.arr 3 (List.map aE x3) 0 0 false)]:=ins_ok72 _ h rfl
end Go.Ws

namespace Go.Ws
open Go.Proofs
set_option linter.unusedSimpArgs false
set_option linter.unusedVariables false
set_option maxRecDepth 1000000
set_option maxHeartbeats 4000000
noncomputable def X56:Ctx:=⟨Try.f56,[],true⟩
noncomputable def L56_0:Code:=at_ Try.f56 [1,1,1,0,1,4,5]
def S56_0 (x1:Ty8) (x2:Int) (x3:Int) (x4:Bool) (cP:Int):St:=⟨mkT 82 [(0,(.ref 3 0 0 0 x1.length .virt)),(1,(.int .i64 x2)),(2,(.int .u8 x3)),(3,(.bool x4)),(27,(.ref 3 0 0 0 x1.length .virt)),(28,(.int .i64 (nI x1.length))),(29,(.int .i64 cP))],[(.arr 3 (List.map aE x1) 0 0 false)]⟩
def aCA (x1:Ty8) (x2:Int) (x3:Int) (x4:Bool):St:=⟨mkT 82 [(0,(.ref 3 0 0 0 x1.length .virt)),(1,(.int .i64 x2)),(2,(.int .u8 x3)),(3,(.bool x4))],[(.arr 3 (List.map aE x1) 0 0 false)]⟩
def O56_0 (x1:Ty8) (x2:Int) (x3:Int) (x4:Bool) (y:(Sum (Unit) (Ty8 × Int))):GX:=match y with
 | .inl y=>.st (.exit 0) (aCA x1 x2 x3 x4)
 | .inr y=>.fin (.tup [(.sl 3 (List.map aE y.1)),(.int .i64 y.2)]) []
def aKU (iF:Int × Int × Bool):Ans:=.row [(.int .u8 iF.1),(.int .i64 iF.2.1),(.bool iF.2.2)]
def aHE (x1:Ty8):Ans:=.call ⟨true,[]⟩ (.ref 3 0 0 0 x1.length .virt) [(.arr 3 (List.map aE x1) 0 0 false)]
def aK7 (x2:Int) (x3:Int):Ans:=.call ⟨true,[]⟩ (.bool (iK x2 x3)) []
def A56_3:Ans:=.norm 2 ⟨[(0,[]),(1,[]),(2,[]),(3,[]),(27,[]),(28,[]),(29,[])],[⟨.tmp 0,[],none⟩],false,[],[]⟩
def A56_4 (x9:Int × Bool):Ans:=.call ⟨true,[]⟩ (.tup [(.int .i64 x9.1),(.bool x9.2)]) []
theorem jT (x1:Ty8) (x2:Int) (x3:Int) (x4:Bool) (y:(Sum (Unit) (Ty8 × Int))):∀(k:Nat) (cP:Int),fU k x1 x2 x3 x4 cP=some y→LT Try.prog X56 L56_0 (S56_0 x1 x2 x3 x4 cP) (O56_0 x1 x2 x3 x4 y)
 | 0,cP,h=>by cases h
 | k+1,cP,h=>by
  rw[fU] at h
  by_cases cL0:ltI cP (nI x1.length)=true
  · rw[if_pos cL0] at h
    by_cases cL1:inI cP x1.length=true
    · rw[if_pos cL1] at h
      obtain⟨iF,eL2,h⟩:=bsm h
      by_cases cL3:eqI iF.1 x3=true
      · rw[if_pos cL3] at h
        by_cases cL4:eqI iF.2.1 x2=true
        · rw[if_pos cL4] at h
          exact LT.next aH (hs:=⟨[(0,[]),(1,[]),(2,[]),(3,[]),(27,[]),(28,[]),(29,[])],[⟨.tmp 0,[],none⟩],false,[],[]⟩) (es:=none) [dt,(aKU iF),dt,dt,dt,dt,dt,df,df,df,df,df] [⟨rF⟩,⟨(nF cL4)⟩,⟨(nF cL4)⟩,⟨(nF cL4)⟩,⟨(nF cL4)⟩,⟨cL3⟩,⟨cL3⟩,⟨cL3⟩,⟨cL3⟩,⟨cL3⟩,⟨(aN (e:=aE) eL2 3 0 3 (by decide))⟩,⟨cL1⟩,⟨cL0⟩] (by kernel_rfl) (jT x1 x2 x3 x4 y k (aM .i64 cP 1) h)
        rw[if_neg cL4] at h;replace cL4:=eqf cL4
        by_cases cL5:x4=true
        · rw[if_pos cL5] at h
          obtain rfl:=osi h
          show LT _ _ _ _ (.fin (.tup [(.sl 3 (List.map aE ((x1,9).1))),(.int .i64 ((x1,9).2))]) [])
          exact LT.done aH (hs:=⟨[],[],false,[],[]⟩) (es:=none) [dt,(aKU iF),dt,dt,dt,dt,dt,dt,dt,dt,dt,dt,dt,dt,dt,.rows (List.map aE x1)] [⟨(bA aE (l:=x1) (n:=x1.length) rfl)⟩,⟨(b8 aE (Nat.le_refl x1.length):0+x1.length≤(List.map aE x1).length)⟩,⟨rT⟩,⟨(nT cL4)⟩,⟨cL5⟩,⟨(nT cL4)⟩,⟨cL5⟩,⟨cL5⟩,⟨(nT cL4)⟩,⟨(nT cL4)⟩,⟨cL3⟩,⟨cL3⟩,⟨cL3⟩,⟨cL3⟩,⟨cL3⟩,⟨(aN (e:=aE) eL2 3 0 3 (by decide))⟩,⟨cL1⟩,⟨cL0⟩] (by kernel_rfl) (fun s h=>by cases h)
        rw[if_neg cL5] at h;replace cL5:=eqf cL5
        by_cases cL6:iF.2.2=true
        · rw[if_pos cL6] at h
          obtain rfl:=osi h
          show LT _ _ _ _ (.fin (.tup [(.sl 3 (List.map aE ((x1,9).1))),(.int .i64 ((x1,9).2))]) [])
          exact LT.done aH (hs:=⟨[],[],false,[],[]⟩) (es:=none) [dt,(aKU iF),dt,dt,dt,dt,dt,dt,dt,df,df,dt,df,dt,dt,.rows (List.map aE x1)] [⟨(bA aE (l:=x1) (n:=x1.length) rfl)⟩,⟨(b8 aE (Nat.le_refl x1.length):0+x1.length≤(List.map aE x1).length)⟩,⟨cL6⟩,⟨(nT cL4)⟩,⟨cL5⟩,⟨(nT cL4)⟩,⟨cL5⟩,⟨cL5⟩,⟨(nT cL4)⟩,⟨(nT cL4)⟩,⟨cL3⟩,⟨cL3⟩,⟨cL3⟩,⟨cL3⟩,⟨cL3⟩,⟨(aN (e:=aE) eL2 3 0 3 (by decide))⟩,⟨cL1⟩,⟨cL0⟩] (by kernel_rfl) (fun s h=>by cases h)
        rw[if_neg cL6] at h;replace cL6:=eqf cL6
        exact LT.next aH (hs:=⟨[(0,[]),(1,[]),(2,[]),(3,[]),(27,[]),(28,[]),(29,[])],[⟨.tmp 0,[],none⟩],false,[],[]⟩) (es:=none) [dt,(aKU iF),dt,dt,dt,dt,dt,dt,dt,df,df,dt,df,dt,df] [⟨cL6⟩,⟨(nT cL4)⟩,⟨cL5⟩,⟨(nT cL4)⟩,⟨cL5⟩,⟨cL5⟩,⟨(nT cL4)⟩,⟨(nT cL4)⟩,⟨cL3⟩,⟨cL3⟩,⟨cL3⟩,⟨cL3⟩,⟨cL3⟩,⟨(aN (e:=aE) eL2 3 0 3 (by decide))⟩,⟨cL1⟩,⟨cL0⟩] (by kernel_rfl) (jT x1 x2 x3 x4 y k (aM .i64 cP 1) h)
      rw[if_neg cL3] at h;replace cL3:=eqf cL3
      exact LT.next aH (hs:=⟨[(0,[]),(1,[]),(2,[]),(3,[]),(27,[]),(28,[]),(29,[])],[⟨.tmp 0,[],none⟩],false,[],[]⟩) (es:=none) [dt,(aKU iF),df,df,df,df,df,df,df,df,df,df] [⟨rF⟩,⟨rF⟩,⟨rF⟩,⟨rF⟩,⟨rF⟩,⟨cL3⟩,⟨cL3⟩,⟨cL3⟩,⟨cL3⟩,⟨cL3⟩,⟨(aN (e:=aE) eL2 3 0 3 (by decide))⟩,⟨cL1⟩,⟨cL0⟩] (by kernel_rfl) (jT x1 x2 x3 x4 y k (aM .i64 cP 1) h)
    rw[if_neg cL1] at h;replace cL1:=eqf cL1
    cases h
  rw[if_neg cL0] at h;replace cL0:=eqf cL0
  obtain rfl:=osi h
  show LT _ _ _ _ (.st (.exit 0) (aCA x1 x2 x3 x4))
  exact LT.done aH (hs:=⟨[],[],false,[],[]⟩) (es:=(some ⟨[(0,[]),(1,[]),(2,[]),(3,[])],[⟨.tmp 0,[],none⟩],false,[],[]⟩)) [df] [⟨cL0⟩] (by kernel_rfl) (fun s h=>by cases h)
theorem q7 (k:Nat) (x1:Ty8) (x2:Int) (x3:Int) (x4:Bool) (r:Ty8 × Int) (h:tU k x1 x2 x3 x4=some r):Tri Try.prog 56 [(.sl 3 (List.map aE x1)),(.int .i64 x2),(.int .u8 x3),(.bool x4)] [] (.tup [(.sl 3 (List.map aE r.1)),(.int .i64 r.2)]) []:=by
 unfold tU at h
 obtain⟨x5,e0,h⟩:=bsm h
 obtain⟨x6,e1,h⟩:=bsm h
 by_cases c2:x6=true
 · rw[if_pos c2] at h
   by_cases c3:(iK x2 x3)=true
   · rw[if_pos c3] at h
     obtain⟨x7,e4,h⟩:=bsm h
     cases x7 with
     | inl x8 =>
      simp only[Sum.elim_inl] at h
      obtain⟨x9,e6,h⟩:=bsm h
      by_cases c7:x9.2=true
      · rw[if_pos c7] at h
        by_cases c8:inI x9.1 x1.length=true
        · rw[if_pos c8] at h
          obtain⟨x10,e9,h⟩:=bsm h
          by_cases c10:x10.2.2=true
          · rw[if_pos c10] at h
            obtain rfl:=osi h
            exact Tri.of (x:=X56) aH z4 [(aHE x1),.call ⟨true,[]⟩ (.bool x6) [],.rows (List.map aE x1),df,df,df,(aK7 x2 x3),df,df,df,A56_3,.out (.st .normal (aCA x1 x2 x3 x4)),(A56_4 x9),.rows (List.map aE x1),df,.row [(.bool x10.2.2)],dt,dt,.rows (List.map aE (List.set x1 (tN x9.1) (x10.1,x10.2.1,true))),.rows (List.map aE (List.set x1 (tN x9.1) (x10.1,x10.2.1,true)))] [⟨(bA aE (l:=(List.set x1 (tN x9.1) (x10.1,x10.2.1,true))) (n:=x1.length) (by simp:x1.length=List.length (α:=Int × Int × Bool) (List.set x1 (tN x9.1) (x10.1,x10.2.1,true))))⟩,⟨(b8 aE (Nat.le_of_eq (by simp:x1.length=List.length (α:=Int × Int × Bool) (List.set x1 (tN x9.1) (x10.1,x10.2.1,true)))))⟩,⟨(rN (e:=aE) e9 2 [(.bool true)] (x10.1,x10.2.1,true) rfl)⟩,⟨c8⟩,⟨c10⟩,⟨c10⟩,⟨(aN (e:=aE) e9 3 2 1 (by decide))⟩,⟨c8⟩,⟨(nF c7)⟩,⟨(kM k x1 x3 x2 x4 _ e6)⟩,⟨(bA aE (l:=x1) (n:=x1.length) rfl)⟩,⟨(b8 aE (Nat.le_refl x1.length):0+x1.length≤(List.map aE x1).length)⟩,⟨(LT.block (jT x1 x2 x3 x4 _ k 0 e4))⟩,⟨(nF c3)⟩,⟨(nF c2)⟩,⟨(nF c2)⟩,⟨(iX x2 x3)⟩,⟨(nF c2)⟩,⟨(nF c2)⟩,⟨(nF c2)⟩,⟨(nR k x1 _ e1)⟩,⟨(bA aE (l:=x1) (n:=x1.length) rfl)⟩,⟨(b8 aE (Nat.le_refl x1.length):0+x1.length≤(List.map aE x1).length)⟩,⟨(jS k x1 _ e0)⟩] (by kernel_rfl)
          rw[if_neg c10] at h;replace c10:=eqf c10
          obtain rfl:=osi h
          exact Tri.of (x:=X56) aH z4 [(aHE x1),.call ⟨true,[]⟩ (.bool x6) [],.rows (List.map aE x1),df,df,df,(aK7 x2 x3),df,df,df,A56_3,.out (.st .normal (aCA x1 x2 x3 x4)),(A56_4 x9),.rows (List.map aE x1),df,.row [(.bool x10.2.2)],df,df,.rows (List.map aE (List.set x1 (tN x9.1) (x10.1,x10.2.1,x4))),.rows (List.map aE (List.set x1 (tN x9.1) (x10.1,x10.2.1,x4)))] [⟨(bA aE (l:=(List.set x1 (tN x9.1) (x10.1,x10.2.1,x4))) (n:=x1.length) (by simp:x1.length=List.length (α:=Int × Int × Bool) (List.set x1 (tN x9.1) (x10.1,x10.2.1,x4))))⟩,⟨(b8 aE (Nat.le_of_eq (by simp:x1.length=List.length (α:=Int × Int × Bool) (List.set x1 (tN x9.1) (x10.1,x10.2.1,x4)))))⟩,⟨(rN (e:=aE) e9 2 [(.bool x4)] (x10.1,x10.2.1,x4) rfl)⟩,⟨c8⟩,⟨c10⟩,⟨c10⟩,⟨(aN (e:=aE) e9 3 2 1 (by decide))⟩,⟨c8⟩,⟨(nF c7)⟩,⟨(kM k x1 x3 x2 x4 _ e6)⟩,⟨(bA aE (l:=x1) (n:=x1.length) rfl)⟩,⟨(b8 aE (Nat.le_refl x1.length):0+x1.length≤(List.map aE x1).length)⟩,⟨(LT.block (jT x1 x2 x3 x4 _ k 0 e4))⟩,⟨(nF c3)⟩,⟨(nF c2)⟩,⟨(nF c2)⟩,⟨(iX x2 x3)⟩,⟨(nF c2)⟩,⟨(nF c2)⟩,⟨(nF c2)⟩,⟨(nR k x1 _ e1)⟩,⟨(bA aE (l:=x1) (n:=x1.length) rfl)⟩,⟨(b8 aE (Nat.le_refl x1.length):0+x1.length≤(List.map aE x1).length)⟩,⟨(jS k x1 _ e0)⟩] (by kernel_rfl)
        rw[if_neg c8] at h;replace c8:=eqf c8
        cases h
      rw[if_neg c7] at h;replace c7:=eqf c7
      obtain⟨x10,e8,h⟩:=bsm h
      obtain rfl:=osi h
      exact Tri.of (x:=X56) aH z4 [(aHE x1),.call ⟨true,[]⟩ (.bool x6) [],.rows (List.map aE x1),df,df,df,(aK7 x2 x3),df,df,df,A56_3,.out (.st .normal (aCA x1 x2 x3 x4)),(A56_4 x9),.rows (List.map aE x1),dt,.call ⟨false,[]⟩ (.ref 3 0 1 0 x10.length .full) [(.arr 3 (List.map aE x10) 1 1 false),(.arr 3 (List.map aE [(x3,x2,x4)]) 0 0 false)],.rows (List.map aE x10)] [⟨(bA aE (l:=x10) (n:=x10.length) rfl)⟩,⟨(b8 aE (Nat.le_refl x10.length):0+x10.length≤(List.map aE x10).length)⟩,⟨(aDC k x9.1 x1 [(x3,x2,x4)] _ e8)⟩,⟨(nT c7)⟩,⟨(kM k x1 x3 x2 x4 _ e6)⟩,⟨(bA aE (l:=x1) (n:=x1.length) rfl)⟩,⟨(b8 aE (Nat.le_refl x1.length):0+x1.length≤(List.map aE x1).length)⟩,⟨(LT.block (jT x1 x2 x3 x4 _ k 0 e4))⟩,⟨(nF c3)⟩,⟨(nF c2)⟩,⟨(nF c2)⟩,⟨(iX x2 x3)⟩,⟨(nF c2)⟩,⟨(nF c2)⟩,⟨(nF c2)⟩,⟨(nR k x1 _ e1)⟩,⟨(bA aE (l:=x1) (n:=x1.length) rfl)⟩,⟨(b8 aE (Nat.le_refl x1.length):0+x1.length≤(List.map aE x1).length)⟩,⟨(jS k x1 _ e0)⟩] (by kernel_rfl)
     | inr x8 =>
      simp only[Sum.elim_inr] at h
      obtain rfl:=osi h
      exact Tri.of (x:=X56) aH z4 [(aHE x1),.call ⟨true,[]⟩ (.bool x6) [],.rows (List.map aE x1),df,df,df,(aK7 x2 x3),df,df,df,A56_3,.out (.fin (.tup [(.sl 3 (List.map aE x8.1)),(.int .i64 x8.2)]) [])] [⟨(LT.blockFin (id:=0) (jT x1 x2 x3 x4 _ k 0 e4))⟩,⟨(nF c3)⟩,⟨(nF c2)⟩,⟨(nF c2)⟩,⟨(iX x2 x3)⟩,⟨(nF c2)⟩,⟨(nF c2)⟩,⟨(nF c2)⟩,⟨(nR k x1 _ e1)⟩,⟨(bA aE (l:=x1) (n:=x1.length) rfl)⟩,⟨(b8 aE (Nat.le_refl x1.length):0+x1.length≤(List.map aE x1).length)⟩,⟨(jS k x1 _ e0)⟩] (by kernel_rfl)
   rw[if_neg c3] at h;replace c3:=eqf c3
   obtain rfl:=osi h
   exact Tri.of (x:=X56) aH z4 [(aHE x1),.call ⟨true,[]⟩ (.bool x6) [],.rows (List.map aE x1),df,df,df,(aK7 x2 x3),df,df,dt,.rows (List.map aE x1)] [⟨(bA aE (l:=x1) (n:=x1.length) rfl)⟩,⟨(b8 aE (Nat.le_refl x1.length):0+x1.length≤(List.map aE x1).length)⟩,⟨(nT c3)⟩,⟨(nF c2)⟩,⟨(nF c2)⟩,⟨(iX x2 x3)⟩,⟨(nF c2)⟩,⟨(nF c2)⟩,⟨(nF c2)⟩,⟨(nR k x1 _ e1)⟩,⟨(bA aE (l:=x1) (n:=x1.length) rfl)⟩,⟨(b8 aE (Nat.le_refl x1.length):0+x1.length≤(List.map aE x1).length)⟩,⟨(jS k x1 _ e0)⟩] (by kernel_rfl)
 rw[if_neg c2] at h;replace c2:=eqf c2
 obtain rfl:=osi h
 exact Tri.of (x:=X56) aH z4 [(aHE x1),.call ⟨true,[]⟩ (.bool x6) [],.rows (List.map aE x1),dt,dt,dt,dt,dt,dt,.rows (List.map aE x1)] [⟨(bA aE (l:=x1) (n:=x1.length) rfl)⟩,⟨(b8 aE (Nat.le_refl x1.length):0+x1.length≤(List.map aE x1).length)⟩,⟨rT⟩,⟨(nT c2)⟩,⟨(nT c2)⟩,⟨(nT c2)⟩,⟨(nT c2)⟩,⟨(nT c2)⟩,⟨(nR k x1 _ e1)⟩,⟨(bA aE (l:=x1) (n:=x1.length) rfl)⟩,⟨(b8 aE (Nat.le_refl x1.length):0+x1.length≤(List.map aE x1).length)⟩,⟨(jS k x1 _ e0)⟩] (by kernel_rfl)
end Go.Ws

namespace Go.Ws
open Go.Proofs
set_option linter.unusedSimpArgs false
set_option linter.unusedVariables false
set_option maxRecDepth 1000000
set_option maxHeartbeats 4000000
noncomputable def X36_1001:Ctx:=⟨Try.f36,[],false⟩
theorem vQ (k:Nat) (x1:aL) (r:Unit) (h:hO k x1=some r):Tri Try.prog 36 [(.inl 2 (List.map aB x1))] [] (.ref 2 0 0 0 x1.length .virt) [(.arr 2 (List.map aB x1) 0 0 false)]:=by
 unfold hO at h
 by_cases c0:dV (x1.length*16)=true
 · rw[if_pos c0] at h
   obtain rfl:=osi h
   exact Tri.of (x:=X36_1001) aH aN5 [df,.n x1.length,.norm 0 ⟨[(2,[])],[⟨.tmp 2,[],some 2⟩],false,[],[]⟩,.n x1.length,.rows (List.map aB x1)] [⟨(dZ aB (l:=x1) (n:=x1.length) rfl)⟩,⟨(rfl:x1.length=x1.length)⟩,⟨(zle x1.length)⟩,⟨c0⟩,⟨(aK aB x1)⟩,⟨rF⟩] (by kernel_rfl)
 rw[if_neg c0] at h;replace c0:=eqf c0
 cases h
end Go.Ws

namespace Go.Ws
open Go.Proofs
set_option linter.unusedSimpArgs false
set_option linter.unusedVariables false
set_option maxRecDepth 1000000
set_option maxHeartbeats 4000000
noncomputable def X36_1002:Ctx:=⟨Try.f36,[],false⟩
theorem wH:Tri Try.prog 36 [.nils] [] (.ref 2 0 0 0 0 .virt) [(.arr 2 (List.map aB []) 0 0 false)]:=by
 obtain⟨r,h⟩:∃r,oM=r:=⟨_,rfl⟩
 try rw[h]
 unfold oM at h
 obtain rfl:=h
 exact Tri.of (x:=X36_1002) aH aN5 [dt,.norm 0 ⟨[(2,[])],[⟨.tmp 2,[],some 2⟩],false,[],[]⟩,.n 0,.rows (List.map aB [])] [⟨(dZ aB (l:=[]) (n:=0) rfl)⟩,⟨(rfl:0=0)⟩,⟨(zle 0)⟩,⟨rT⟩] (by kernel_rfl)
end Go.Ws

namespace Go.Ws
open Go.Proofs
set_option linter.unusedSimpArgs false
set_option linter.unusedVariables false
set_option maxRecDepth 1000000
set_option maxHeartbeats 4000000
theorem hI (k:Nat) (x1:aL) (r:Unit) (h:fH k x1=some r):Tri Try.prog 36 [(.sl 2 (List.map aB x1))] [] (.ref 2 0 0 0 x1.length .virt) [(.arr 2 (List.map aB x1) 0 0 false)]:=by
 refine Tri.slOf (vQ k x1 r h) fun h0=>?_
 have hx:x1=[]:=by simpa using h0
 subst hx
 exact wH
end Go.Ws

namespace Go.Ws
open Go.Proofs
set_option linter.unusedSimpArgs false
set_option linter.unusedVariables false
set_option maxRecDepth 1000000
set_option maxHeartbeats 4000000
noncomputable def X73:Ctx:=⟨Try.f73,[],false⟩
theorem l7 (k:Nat) (x1:Int) (x2:aL) (x3:Bool) (x4:Int) (r:Unit) (h:nP k x1 x2 x3 x4=some r):Tri Try.prog 73 [(.agg [(.int .i64 x1),(.sl 2 (List.map aB x2)),(.bool x3),(.int .i64 x4)])] [] (.agg [(.int .i64 x1),(.ref 2 0 0 0 x2.length .virt),(.bool x3),(.int .i64 x4)]) [(.arr 2 (List.map aB x2) 0 0 false)]:=by
 unfold nP at h
 obtain⟨x5,e0,h⟩:=bsm h
 obtain rfl:=osi h
 exact Tri.of (x:=X73) aH aNM [.call ⟨true,[]⟩ (.ref 2 0 0 0 x2.length .virt) [(.arr 2 (List.map aB x2) 0 0 false)],.norm 0 ⟨[(2,[])],[⟨.tmp 2,[],none⟩,⟨.cell 0 1,[],none⟩],false,[],[]⟩] [⟨(hI k x2 _ e0)⟩] (by kernel_rfl)
end Go.Ws

namespace Go.Ws
open Go.Proofs
set_option linter.unusedSimpArgs false
set_option linter.unusedVariables false
set_option maxRecDepth 1000000
set_option maxHeartbeats 4000000
noncomputable def X75:Ctx:=⟨Try.f75,[],true⟩
theorem oO (x1:Int) (x2:Int):Tri Try.prog 75 [(.agg [(.int .u8 x1),(.int .i64 x2)])] [] (.bool (hU x1 x2)) []:=by
 obtain⟨r,h⟩:∃r,hU x1 x2=r:=⟨_,rfl⟩
 try rw[h]
 unfold hU at h
 obtain rfl:=h
 exact Tri.of (x:=X75) aH facts75 [] [] (by kernel_rfl)
end Go.Ws

namespace Go.Ws
open Go.Proofs
set_option linter.unusedSimpArgs false
set_option linter.unusedVariables false
set_option maxRecDepth 1000000
set_option maxHeartbeats 4000000
noncomputable def X50:Ctx:=⟨Try.f50,[],true⟩
noncomputable def L50_0:Code:=at_ Try.f50 [1,0,1,4,5]
def S50_0 (x1:aL) (cW:Int):St:=⟨mkT 19 [(0,(.sl 2 (List.map aB x1))),(1,(.fn 75 [])),(7,(.int .i64 (nI x1.length))),(8,(.int .i64 cW))],[]⟩
def aH8:St:=⟨mkT 19 [],[]⟩
def O50_0 (x1:aL) (y:(Sum (Unit) (Int))):GX:=match y with
 | .inl y=>.st (.exit 0) (aH8)
 | .inr y=>.fin (.int .i64 y) []
theorem mV (x1:aL) (y:(Sum (Unit) (Int))):∀(k:Nat) (cW:Int),cU k x1 cW=some y→LT Try.prog X50 L50_0 (S50_0 x1 cW) (O50_0 x1 y)
 | 0,cW,h=>by cases h
 | k+1,cW,h=>by
  rw[cU] at h
  by_cases cL0:ltI cW (nI x1.length)=true
  · rw[if_pos cL0] at h
    by_cases cL1:inI cW x1.length=true
    · rw[if_pos cL1] at h
      obtain⟨iG,eL2,h⟩:=bsm h
      by_cases cL3:(hU iG.1 iG.2)=true
      · rw[if_pos cL3] at h
        obtain rfl:=osi h
        show LT _ _ _ _ (.fin (.int .i64 cW) [])
        exact LT.done aH (hs:=⟨[],[],false,[],[]⟩) (es:=none) [dt,.n x1.length,.row [(.int .u8 iG.1),(.int .i64 iG.2)],.call ⟨true,[]⟩ (.bool (hU iG.1 iG.2)) [],dt] [⟨cL3⟩,⟨(oO iG.1 iG.2)⟩,⟨(aN (e:=aB) eL2 2 0 2 (by decide))⟩,⟨cL1⟩,⟨(aK aB x1)⟩,⟨cL0⟩] (by kernel_rfl) (fun s h=>by cases h)
      rw[if_neg cL3] at h;replace cL3:=eqf cL3
      exact LT.next aH (hs:=⟨[(0,[]),(1,[]),(7,[]),(8,[])],[],false,[],[]⟩) (es:=none) [dt,.n x1.length,.row [(.int .u8 iG.1),(.int .i64 iG.2)],.call ⟨true,[]⟩ (.bool (hU iG.1 iG.2)) [],df] [⟨cL3⟩,⟨(oO iG.1 iG.2)⟩,⟨(aN (e:=aB) eL2 2 0 2 (by decide))⟩,⟨cL1⟩,⟨(aK aB x1)⟩,⟨cL0⟩] (by kernel_rfl) (mV x1 y k (aM .i64 cW 1) h)
    rw[if_neg cL1] at h;replace cL1:=eqf cL1
    cases h
  rw[if_neg cL0] at h;replace cL0:=eqf cL0
  obtain rfl:=osi h
  show LT _ _ _ _ (.st (.exit 0) (aH8))
  exact LT.done aH (hs:=⟨[],[],false,[],[]⟩) (es:=(some ⟨[],[],false,[],[]⟩)) [df] [⟨cL0⟩] (by kernel_rfl) (fun s h=>by cases h)
theorem aAB (k:Nat) (x1:aL) (r:Int) (h:kC k x1=some r):Tri Try.prog 50 [(.sl 2 (List.map aB x1)),(.fn 75 [])] [] (.int .i64 r) []:=by
 unfold kC at h
 obtain⟨x2,e0,h⟩:=bsm h
 cases x2 with
 | inl x3 =>
  simp only[Sum.elim_inl] at h
  obtain rfl:=osi h
  exact Tri.of (x:=X50) aH aEZ [.n x1.length,.norm 2 ⟨[(0,[]),(1,[]),(7,[]),(8,[])],[],false,[],[]⟩,.out (.st .normal (aH8))] [⟨(LT.block (mV x1 _ k 0 e0))⟩,⟨(aK aB x1)⟩] (by kernel_rfl)
 | inr x3 =>
  simp only[Sum.elim_inr] at h
  obtain rfl:=osi h
  exact Tri.of (x:=X50) aH aEZ [.n x1.length,.norm 2 ⟨[(0,[]),(1,[]),(7,[]),(8,[])],[],false,[],[]⟩,.out (.fin (.int .i64 x3) [])] [⟨(LT.blockFin (id:=0) (mV x1 _ k 0 e0))⟩,⟨(aK aB x1)⟩] (by kernel_rfl)
end Go.Ws

namespace Go.Ws
open Go.Proofs
set_option linter.unusedSimpArgs false
set_option linter.unusedVariables false
set_option maxRecDepth 1000000
set_option maxHeartbeats 4000000
noncomputable def X42:Ctx:=⟨Try.f42,[],true⟩
theorem dJ (k:Nat) (x1:aL) (r:Bool) (h:iT k x1=some r):Tri Try.prog 42 [(.sl 2 (List.map aB x1)),(.fn 75 [])] [] (.bool r) []:=by
 unfold iT at h
 obtain⟨x2,e0,h⟩:=bsm h
 obtain rfl:=osi h
 exact Tri.of (x:=X42) aH aN6 [.call ⟨true,[]⟩ (.int .i64 x2) []] [⟨(aAB k x1 _ e0)⟩] (by kernel_rfl)
end Go.Ws

namespace Go.Ws
open Go.Proofs
set_option linter.unusedSimpArgs false
set_option linter.unusedVariables false
set_option maxRecDepth 1000000
set_option maxHeartbeats 4000000
noncomputable def X74:Ctx:=⟨Try.f74,[],true⟩
theorem bM (k:Nat) (x1:Int) (x2:aL) (x3:Bool) (x4:Int) (r:Bool) (h:mP k x1 x2 x3 x4=some r):Tri Try.prog 74 [(.agg [(.int .i64 x1),(.sl 2 (List.map aB x2)),(.bool x3),(.int .i64 x4)])] [] (.bool r) []:=by
 unfold mP at h
 by_cases c0:ltI x1 0=true
 · rw[if_pos c0] at h
   obtain rfl:=osi h
   exact Tri.of (x:=X74) aH pO [dt,dt,dt,dt,dt,dt,dt,dt,dt,dt,dt,dt,dt,dt] [⟨rT⟩,⟨rT⟩,⟨rT⟩,⟨rT⟩,⟨rT⟩,⟨rT⟩,⟨rT⟩,⟨rT⟩,⟨rT⟩,⟨rT⟩,⟨c0⟩,⟨c0⟩,⟨c0⟩,⟨c0⟩] (by kernel_rfl)
 rw[if_neg c0] at h;replace c0:=eqf c0
 by_cases c1:ltI 3 x1=true
 · rw[if_pos c1] at h
   obtain rfl:=osi h
   exact Tri.of (x:=X74) aH pO [df,df,df,df,dt,dt,dt,dt,dt,dt,dt,dt,dt,dt] [⟨rT⟩,⟨rT⟩,⟨rT⟩,⟨rT⟩,⟨rT⟩,⟨c1⟩,⟨c1⟩,⟨c1⟩,⟨c1⟩,⟨c1⟩,⟨c0⟩,⟨c0⟩,⟨c0⟩,⟨c0⟩] (by kernel_rfl)
 rw[if_neg c1] at h;replace c1:=eqf c1
 by_cases c2:ltI 50 (nI x2.length)=true
 · rw[if_pos c2] at h
   obtain rfl:=osi h
   exact Tri.of (x:=X74) aH pO [df,df,df,df,df,df,df,.n x2.length,df,df,dt,dt,dt,dt,dt] [⟨rT⟩,⟨c2⟩,⟨c2⟩,⟨c2⟩,⟨c2⟩,⟨c1⟩,⟨c1⟩,⟨(aK aB x2)⟩,⟨c1⟩,⟨c1⟩,⟨c1⟩,⟨c0⟩,⟨c0⟩,⟨c0⟩,⟨c0⟩] (by kernel_rfl)
 rw[if_neg c2] at h;replace c2:=eqf c2
 obtain⟨x5,e3,h⟩:=bsm h
 by_cases c4:x5=true
 · rw[if_pos c4] at h
   obtain rfl:=osi h
   exact Tri.of (x:=X74) aH pO [df,df,df,df,df,df,df,.n x2.length,df,df,df,df,df,.call ⟨true,[]⟩ (.bool x5) [],df,dt] [⟨c4⟩,⟨c2⟩,⟨(dJ k x2 _ e3)⟩,⟨c2⟩,⟨c2⟩,⟨c2⟩,⟨c1⟩,⟨c1⟩,⟨(aK aB x2)⟩,⟨c1⟩,⟨c1⟩,⟨c1⟩,⟨c0⟩,⟨c0⟩,⟨c0⟩,⟨c0⟩] (by kernel_rfl)
 rw[if_neg c4] at h;replace c4:=eqf c4
 by_cases c5:eqI x4 1=true
 · rw[if_pos c5] at h
   by_cases c6:eqI x1 3=true
   · rw[if_pos c6] at h
     obtain rfl:=osi h
     exact Tri.of (x:=X74) aH pO [df,df,df,df,df,df,df,.n x2.length,df,df,df,df,df,.call ⟨true,[]⟩ (.bool x5) [],df,df,dt,dt,dt,dt,dt] [⟨c6⟩,⟨c5⟩,⟨c5⟩,⟨c5⟩,⟨c5⟩,⟨c4⟩,⟨c2⟩,⟨(dJ k x2 _ e3)⟩,⟨c2⟩,⟨c2⟩,⟨c2⟩,⟨c1⟩,⟨c1⟩,⟨(aK aB x2)⟩,⟨c1⟩,⟨c1⟩,⟨c1⟩,⟨c0⟩,⟨c0⟩,⟨c0⟩,⟨c0⟩] (by kernel_rfl)
   rw[if_neg c6] at h;replace c6:=eqf c6
   by_cases c7:eqI x4 0=true
   · rw[if_pos c7] at h
     by_cases c8:x3=true
     · rw[if_pos c8] at h
       obtain rfl:=osi h
       exact Tri.of (x:=X74) aH pO [df,df,df,df,df,df,df,.n x2.length,df,df,df,df,df,.call ⟨true,[]⟩ (.bool x5) [],df,df,dt,dt,dt,dt,df,dt,dt,dt,dt,df,df,df,dt,df,dt] [⟨c7⟩,⟨(nF c8)⟩,⟨c7⟩,⟨(nF c8)⟩,⟨(nF c8)⟩,⟨(nF c8)⟩,⟨c7⟩,⟨c7⟩,⟨c7⟩,⟨c7⟩,⟨c6⟩,⟨c5⟩,⟨c5⟩,⟨c5⟩,⟨c5⟩,⟨c4⟩,⟨c2⟩,⟨(dJ k x2 _ e3)⟩,⟨c2⟩,⟨c2⟩,⟨c2⟩,⟨c1⟩,⟨c1⟩,⟨(aK aB x2)⟩,⟨c1⟩,⟨c1⟩,⟨c1⟩,⟨c0⟩,⟨c0⟩,⟨c0⟩,⟨c0⟩] (by kernel_rfl)
     rw[if_neg c8] at h;replace c8:=eqf c8
     obtain rfl:=osi h
     exact Tri.of (x:=X74) aH pO [df,df,df,df,df,df,df,.n x2.length,df,df,df,df,df,.call ⟨true,[]⟩ (.bool x5) [],df,df,dt,dt,dt,dt,df,dt,dt,dt,dt,dt,dt,dt,dt,dt,dt] [⟨c7⟩,⟨(nT c8)⟩,⟨c7⟩,⟨(nT c8)⟩,⟨(nT c8)⟩,⟨(nT c8)⟩,⟨c7⟩,⟨c7⟩,⟨c7⟩,⟨c7⟩,⟨c6⟩,⟨c5⟩,⟨c5⟩,⟨c5⟩,⟨c5⟩,⟨c4⟩,⟨c2⟩,⟨(dJ k x2 _ e3)⟩,⟨c2⟩,⟨c2⟩,⟨c2⟩,⟨c1⟩,⟨c1⟩,⟨(aK aB x2)⟩,⟨c1⟩,⟨c1⟩,⟨c1⟩,⟨c0⟩,⟨c0⟩,⟨c0⟩,⟨c0⟩] (by kernel_rfl)
   rw[if_neg c7] at h;replace c7:=eqf c7
   obtain rfl:=osi h
   exact Tri.of (x:=X74) aH pO [df,df,df,df,df,df,df,.n x2.length,df,df,df,df,df,.call ⟨true,[]⟩ (.bool x5) [],df,df,dt,dt,dt,dt,df,df,df,df,df,df,df] [⟨c7⟩,⟨c7⟩,⟨c7⟩,⟨c7⟩,⟨c7⟩,⟨c7⟩,⟨c6⟩,⟨c5⟩,⟨c5⟩,⟨c5⟩,⟨c5⟩,⟨c4⟩,⟨c2⟩,⟨(dJ k x2 _ e3)⟩,⟨c2⟩,⟨c2⟩,⟨c2⟩,⟨c1⟩,⟨c1⟩,⟨(aK aB x2)⟩,⟨c1⟩,⟨c1⟩,⟨c1⟩,⟨c0⟩,⟨c0⟩,⟨c0⟩,⟨c0⟩] (by kernel_rfl)
 rw[if_neg c5] at h;replace c5:=eqf c5
 by_cases c6:eqI x1 3=true
 · rw[if_pos c6] at h
   obtain rfl:=osi h
   exact Tri.of (x:=X74) aH pO [df,df,df,df,df,df,df,.n x2.length,df,df,df,df,df,.call ⟨true,[]⟩ (.bool x5) [],df,df,df,df,df,df,dt] [⟨c6⟩,⟨c5⟩,⟨c5⟩,⟨c5⟩,⟨c5⟩,⟨c4⟩,⟨c2⟩,⟨(dJ k x2 _ e3)⟩,⟨c2⟩,⟨c2⟩,⟨c2⟩,⟨c1⟩,⟨c1⟩,⟨(aK aB x2)⟩,⟨c1⟩,⟨c1⟩,⟨c1⟩,⟨c0⟩,⟨c0⟩,⟨c0⟩,⟨c0⟩] (by kernel_rfl)
 rw[if_neg c6] at h;replace c6:=eqf c6
 by_cases c7:eqI x4 0=true
 · rw[if_pos c7] at h
   by_cases c8:x3=true
   · rw[if_pos c8] at h
     obtain rfl:=osi h
     exact Tri.of (x:=X74) aH pO [df,df,df,df,df,df,df,.n x2.length,df,df,df,df,df,.call ⟨true,[]⟩ (.bool x5) [],df,df,df,df,df,df,df,dt,dt,dt,dt,df,df,df,dt,df,dt] [⟨c7⟩,⟨(nF c8)⟩,⟨c7⟩,⟨(nF c8)⟩,⟨(nF c8)⟩,⟨(nF c8)⟩,⟨c7⟩,⟨c7⟩,⟨c7⟩,⟨c7⟩,⟨c6⟩,⟨c5⟩,⟨c5⟩,⟨c5⟩,⟨c5⟩,⟨c4⟩,⟨c2⟩,⟨(dJ k x2 _ e3)⟩,⟨c2⟩,⟨c2⟩,⟨c2⟩,⟨c1⟩,⟨c1⟩,⟨(aK aB x2)⟩,⟨c1⟩,⟨c1⟩,⟨c1⟩,⟨c0⟩,⟨c0⟩,⟨c0⟩,⟨c0⟩] (by kernel_rfl)
   rw[if_neg c8] at h;replace c8:=eqf c8
   obtain rfl:=osi h
   exact Tri.of (x:=X74) aH pO [df,df,df,df,df,df,df,.n x2.length,df,df,df,df,df,.call ⟨true,[]⟩ (.bool x5) [],df,df,df,df,df,df,df,dt,dt,dt,dt,dt,dt,dt,dt,dt,dt] [⟨c7⟩,⟨(nT c8)⟩,⟨c7⟩,⟨(nT c8)⟩,⟨(nT c8)⟩,⟨(nT c8)⟩,⟨c7⟩,⟨c7⟩,⟨c7⟩,⟨c7⟩,⟨c6⟩,⟨c5⟩,⟨c5⟩,⟨c5⟩,⟨c5⟩,⟨c4⟩,⟨c2⟩,⟨(dJ k x2 _ e3)⟩,⟨c2⟩,⟨c2⟩,⟨c2⟩,⟨c1⟩,⟨c1⟩,⟨(aK aB x2)⟩,⟨c1⟩,⟨c1⟩,⟨c1⟩,⟨c0⟩,⟨c0⟩,⟨c0⟩,⟨c0⟩] (by kernel_rfl)
 rw[if_neg c7] at h;replace c7:=eqf c7
 obtain rfl:=osi h
 exact Tri.of (x:=X74) aH pO [df,df,df,df,df,df,df,.n x2.length,df,df,df,df,df,.call ⟨true,[]⟩ (.bool x5) [],df,df,df,df,df,df,df,df,df,df,df,df,df] [⟨c7⟩,⟨c7⟩,⟨c7⟩,⟨c7⟩,⟨c7⟩,⟨c7⟩,⟨c6⟩,⟨c5⟩,⟨c5⟩,⟨c5⟩,⟨c5⟩,⟨c4⟩,⟨c2⟩,⟨(dJ k x2 _ e3)⟩,⟨c2⟩,⟨c2⟩,⟨c2⟩,⟨c1⟩,⟨c1⟩,⟨(aK aB x2)⟩,⟨c1⟩,⟨c1⟩,⟨c1⟩,⟨c0⟩,⟨c0⟩,⟨c0⟩,⟨c0⟩] (by kernel_rfl)
end Go.Ws

namespace Go.Ws
open Go.Proofs
set_option linter.unusedSimpArgs false
set_option linter.unusedVariables false
set_option maxRecDepth 1000000
set_option maxHeartbeats 4000000
noncomputable def X57:Ctx:=⟨Try.f57,[],true⟩
def aKS (x1:Int) (x2:aL) (x3:Bool) (x4:Int):Ans:=.call ⟨true,[]⟩ (.agg [(.int .i64 x1),(.ref 2 0 0 0 x2.length .virt),(.bool x3),(.int .i64 x4)]) [(.arr 2 (List.map aB x2) 0 0 false)]
def A57_1 (x5:Int) (x6:Int):Ans:=.call ⟨true,[]⟩ (.bool (hU x5 x6)) []
theorem xW (k:Nat) (x1:Int) (x2:aL) (x3:Bool) (x4:Int) (x5:Int) (x6:Int) (r:Int × aL × Bool × Int × Int) (h:vM k x1 x2 x3 x4 x5 x6=some r):Tri Try.prog 57 [(.agg [(.int .i64 x1),(.sl 2 (List.map aB x2)),(.bool x3),(.int .i64 x4)]),(.agg [(.int .u8 x5),(.int .i64 x6)])] [] (.tup [(.agg [(.int .i64 r.1),(.sl 2 (List.map aB r.2.1)),(.bool r.2.2.1),(.int .i64 r.2.2.2.1)]),(.int .i64 r.2.2.2.2)]) []:=by
 unfold vM at h
 obtain⟨x7,e0,h⟩:=bsm h
 obtain⟨x8,e1,h⟩:=bsm h
 by_cases c2:x8=true
 · rw[if_pos c2] at h
   by_cases c3:(hU x5 x6)=true
   · rw[if_pos c3] at h
     obtain rfl:=osi h
     exact Tri.of (x:=X57) aH aBL [(aKS x1 x2 x3 x4),.call ⟨true,[]⟩ (.bool x8) [],.rows (List.map aB x2),df,df,(A57_1 x5 x6),df,dt,.rows (List.map aB x2)] [⟨(bA aB (l:=x2) (n:=x2.length) rfl)⟩,⟨(b8 aB (Nat.le_refl x2.length):0+x2.length≤(List.map aB x2).length)⟩,⟨c3⟩,⟨(nF c2)⟩,⟨(oO x5 x6)⟩,⟨(nF c2)⟩,⟨(nF c2)⟩,⟨(bM k x1 x2 x3 x4 _ e1)⟩,⟨(bA aB (l:=x2) (n:=x2.length) rfl)⟩,⟨(b8 aB (Nat.le_refl x2.length):0+x2.length≤(List.map aB x2).length)⟩,⟨(l7 k x1 x2 x3 x4 _ e0)⟩] (by kernel_rfl)
   rw[if_neg c3] at h;replace c3:=eqf c3
   by_cases c4:eqI x1 0=true
   · rw[if_pos c4] at h
     by_cases c5:ltI (nI x2.length) 50=true
     · rw[if_pos c5] at h
       by_cases c6:dV (((x2++[(x5,x6)]).length)*16)=true
       · rw[if_pos c6] at h
         obtain rfl:=osi h
         exact Tri.of (x:=X57) aH aBL [(aKS x1 x2 x3 x4),.call ⟨true,[]⟩ (.bool x8) [],.rows (List.map aB x2),df,df,(A57_1 x5 x6),df,df,df,df,.rows (List.map aB [(x5,x6)]),.n ((x2++[(x5,x6)]).length),.n x2.length,dt,.rows (List.map aB (x2++[(x5,x6)])),.rows (List.map aB (x2++[(x5,x6)]))] [⟨(bA aB (l:=(x2++[(x5,x6)])) (n:=((x2++[(x5,x6)]).length)) rfl)⟩,⟨(b8 aB (Nat.le_refl ((x2++[(x5,x6)]).length)):0+(x2++[(x5,x6)]).length≤(List.map aB (x2++[(x5,x6)])).length)⟩,⟨(aET aB x2 [(x5,x6)])⟩,⟨(aBP x2.length)⟩,⟨(aK aB x2)⟩,⟨c6⟩,⟨(by simp only[wl,List.length_map,List.map_nil,List.map_cons]<;>omega:x2.length+(List.map aB [(x5,x6)]).length=(x2++[(x5,x6)]).length)⟩,⟨(bA aB (l:=[(x5,x6)]) (n:=1) rfl)⟩,⟨(b8 aB (Nat.le_refl 1):0+1≤(List.map aB [(x5,x6)]).length)⟩,⟨(nF c5)⟩,⟨(nF c4)⟩,⟨c3⟩,⟨(nF c2)⟩,⟨(oO x5 x6)⟩,⟨(nF c2)⟩,⟨(nF c2)⟩,⟨(bM k x1 x2 x3 x4 _ e1)⟩,⟨(bA aB (l:=x2) (n:=x2.length) rfl)⟩,⟨(b8 aB (Nat.le_refl x2.length):0+x2.length≤(List.map aB x2).length)⟩,⟨(l7 k x1 x2 x3 x4 _ e0)⟩] (by kernel_rfl)
       rw[if_neg c6] at h;replace c6:=eqf c6
       cases h
     rw[if_neg c5] at h;replace c5:=eqf c5
     obtain rfl:=osi h
     exact Tri.of (x:=X57) aH aBL [(aKS x1 x2 x3 x4),.call ⟨true,[]⟩ (.bool x8) [],.rows (List.map aB x2),df,df,(A57_1 x5 x6),df,df,df,dt,.rows (List.map aB x2)] [⟨(bA aB (l:=x2) (n:=x2.length) rfl)⟩,⟨(b8 aB (Nat.le_refl x2.length):0+x2.length≤(List.map aB x2).length)⟩,⟨(nT c5)⟩,⟨(nF c4)⟩,⟨c3⟩,⟨(nF c2)⟩,⟨(oO x5 x6)⟩,⟨(nF c2)⟩,⟨(nF c2)⟩,⟨(bM k x1 x2 x3 x4 _ e1)⟩,⟨(bA aB (l:=x2) (n:=x2.length) rfl)⟩,⟨(b8 aB (Nat.le_refl x2.length):0+x2.length≤(List.map aB x2).length)⟩,⟨(l7 k x1 x2 x3 x4 _ e0)⟩] (by kernel_rfl)
   rw[if_neg c4] at h;replace c4:=eqf c4
   obtain rfl:=osi h
   exact Tri.of (x:=X57) aH aBL [(aKS x1 x2 x3 x4),.call ⟨true,[]⟩ (.bool x8) [],.rows (List.map aB x2),df,df,(A57_1 x5 x6),df,df,dt,.rows (List.map aB x2)] [⟨(bA aB (l:=x2) (n:=x2.length) rfl)⟩,⟨(b8 aB (Nat.le_refl x2.length):0+x2.length≤(List.map aB x2).length)⟩,⟨(nT c4)⟩,⟨c3⟩,⟨(nF c2)⟩,⟨(oO x5 x6)⟩,⟨(nF c2)⟩,⟨(nF c2)⟩,⟨(bM k x1 x2 x3 x4 _ e1)⟩,⟨(bA aB (l:=x2) (n:=x2.length) rfl)⟩,⟨(b8 aB (Nat.le_refl x2.length):0+x2.length≤(List.map aB x2).length)⟩,⟨(l7 k x1 x2 x3 x4 _ e0)⟩] (by kernel_rfl)
 rw[if_neg c2] at h;replace c2:=eqf c2
 obtain rfl:=osi h
 exact Tri.of (x:=X57) aH aBL [(aKS x1 x2 x3 x4),.call ⟨true,[]⟩ (.bool x8) [],.rows (List.map aB x2),dt,dt,dt,dt,.rows (List.map aB x2)] [⟨(bA aB (l:=x2) (n:=x2.length) rfl)⟩,⟨(b8 aB (Nat.le_refl x2.length):0+x2.length≤(List.map aB x2).length)⟩,⟨rT⟩,⟨(nT c2)⟩,⟨(nT c2)⟩,⟨(nT c2)⟩,⟨(bM k x1 x2 x3 x4 _ e1)⟩,⟨(bA aB (l:=x2) (n:=x2.length) rfl)⟩,⟨(b8 aB (Nat.le_refl x2.length):0+x2.length≤(List.map aB x2).length)⟩,⟨(l7 k x1 x2 x3 x4 _ e0)⟩] (by kernel_rfl)
end Go.Ws

namespace Go.Ws
open Go.Proofs
set_option linter.unusedSimpArgs false
set_option linter.unusedVariables false
set_option maxRecDepth 1000000
set_option maxHeartbeats 4000000
noncomputable def X37:Ctx:=⟨Try.f37,[],true⟩
noncomputable def L37_0:Code:=at_ Try.f37 [1,0,1,4,5]
def S37_0 (x1:aL) (x2:Int) (dN:Int):St:=⟨mkT 20 [(1,(.int .u8 x2)),(7,(.sl 2 (List.map aB x1))),(8,(.int .i64 (nI x1.length))),(9,(.int .i64 dN))],[]⟩
def aH9:St:=⟨mkT 20 [],[]⟩
def O37_0 (x1:aL) (x2:Int) (y:(Sum (Unit) (Int))):GX:=match y with
 | .inl y=>.st (.exit 0) (aH9)
 | .inr y=>.fin (.int .i64 y) []
theorem rQ (x1:aL) (x2:Int) (y:(Sum (Unit) (Int))):∀(k:Nat) (dN:Int),gI k x1 x2 dN=some y→LT Try.prog X37 L37_0 (S37_0 x1 x2 dN) (O37_0 x1 x2 y)
 | 0,dN,h=>by cases h
 | k+1,dN,h=>by
  rw[gI] at h
  by_cases cL0:ltI dN (nI x1.length)=true
  · rw[if_pos cL0] at h
    by_cases cL1:inI dN x1.length=true
    · rw[if_pos cL1] at h
      obtain⟨nJ,eL2,h⟩:=bsm h
      by_cases cL3:eqI nJ.1 x2=true
      · rw[if_pos cL3] at h
        obtain rfl:=osi h
        show LT _ _ _ _ (.fin (.int .i64 nJ.2) [])
        exact LT.done aH (hs:=⟨[],[],false,[],[]⟩) (es:=none) [dt,.n x1.length,.row [(.int .u8 nJ.1),(.int .i64 nJ.2)],dt] [⟨cL3⟩,⟨(aN (e:=aB) eL2 2 0 2 (by decide))⟩,⟨cL1⟩,⟨(aK aB x1)⟩,⟨cL0⟩] (by kernel_rfl) (fun s h=>by cases h)
      rw[if_neg cL3] at h;replace cL3:=eqf cL3
      exact LT.next aH (hs:=⟨[(1,[]),(7,[]),(8,[]),(9,[])],[],false,[],[]⟩) (es:=none) [dt,.n x1.length,.row [(.int .u8 nJ.1),(.int .i64 nJ.2)],df] [⟨cL3⟩,⟨(aN (e:=aB) eL2 2 0 2 (by decide))⟩,⟨cL1⟩,⟨(aK aB x1)⟩,⟨cL0⟩] (by kernel_rfl) (rQ x1 x2 y k (aM .i64 dN 1) h)
    rw[if_neg cL1] at h;replace cL1:=eqf cL1
    cases h
  rw[if_neg cL0] at h;replace cL0:=eqf cL0
  obtain rfl:=osi h
  show LT _ _ _ _ (.st (.exit 0) (aH9))
  exact LT.done aH (hs:=⟨[],[],false,[],[]⟩) (es:=(some ⟨[],[],false,[],[]⟩)) [df] [⟨cL0⟩] (by kernel_rfl) (fun s h=>by cases h)
theorem aAG (k:Nat) (x1:aL) (x2:Int) (r:Int) (h:pT k x1 x2=some r):Tri Try.prog 37 [(.sl 2 (List.map aB x1)),(.int .u8 x2)] [] (.int .i64 r) []:=by
 unfold pT at h
 obtain⟨x3,e0,h⟩:=bsm h
 cases x3 with
 | inl x4 =>
  simp only[Sum.elim_inl] at h
  obtain rfl:=osi h
  exact Tri.of (x:=X37) aH aOY [.n x1.length,.norm 2 ⟨[(1,[]),(7,[]),(8,[]),(9,[])],[],false,[],[]⟩,.out (.st .normal (aH9))] [⟨(LT.block (rQ x1 x2 _ k 0 e0))⟩,⟨(aK aB x1)⟩] (by kernel_rfl)
 | inr x4 =>
  simp only[Sum.elim_inr] at h
  obtain rfl:=osi h
  exact Tri.of (x:=X37) aH aOY [.n x1.length,.norm 2 ⟨[(1,[]),(7,[]),(8,[]),(9,[])],[],false,[],[]⟩,.out (.fin (.int .i64 x4) [])] [⟨(LT.blockFin (id:=0) (rQ x1 x2 _ k 0 e0))⟩,⟨(aK aB x1)⟩] (by kernel_rfl)
end Go.Ws

namespace Go.Ws
open Go.Proofs
set_option linter.unusedSimpArgs false
set_option linter.unusedVariables false
set_option maxRecDepth 1000000
set_option maxHeartbeats 4000000
noncomputable def X73_1:Ctx:=⟨Try.f73,[],true⟩
theorem bD (k:Nat) (x1:Int) (x2:aL) (x3:Bool) (x4:Int) (r:Int × aL × Bool × Int) (h:iY k x1 x2 x3 x4=some r):Tri Try.prog 73 [(.agg [(.int .i64 x1),(.sl 2 (List.map aB x2)),(.bool x3),(.int .i64 x4)])] [] (.agg [(.int .i64 r.1),(.sl 2 (List.map aB r.2.1)),(.bool r.2.2.1),(.int .i64 r.2.2.2)]) []:=by
 unfold iY at h
 obtain⟨x5,e0,h⟩:=bsm h
 obtain rfl:=osi h
 exact Tri.of (x:=X73_1) aH aNM [.call ⟨true,[]⟩ (.ref 2 0 0 0 x2.length .virt) [(.arr 2 (List.map aB x2) 0 0 false)],.rows (List.map aB x2)] [⟨(bA aB (l:=x2) (n:=x2.length) rfl)⟩,⟨(b8 aB (Nat.le_refl x2.length):0+x2.length≤(List.map aB x2).length)⟩,⟨(hI k x2 _ e0)⟩] (by kernel_rfl)
end Go.Ws

namespace Go.Ws
open Go.Proofs
set_option linter.unusedSimpArgs false
set_option linter.unusedVariables false
set_option maxRecDepth 1000000
set_option maxHeartbeats 4000000
noncomputable def X58:Ctx:=⟨Try.f58,[],true⟩
def A58_0 (x6:Int × aL × Bool × Int):Ans:=.call ⟨true,[]⟩ (.agg [(.int .i64 x6.1),(.sl 2 (List.map aB x6.2.1)),(.bool x6.2.2.1),(.int .i64 x6.2.2.2)]) []
theorem wT (k:Nat) (x1:Int) (x2:aL) (x3:Bool) (x4:Int) (x5:Bool) (r:Int × aL × Bool × Int × Int) (h:tS k x1 x2 x3 x4 x5=some r):Tri Try.prog 58 [(.agg [(.int .i64 x1),(.sl 2 (List.map aB x2)),(.bool x3),(.int .i64 x4)]),(.bool x5)] [] (.tup [(.agg [(.int .i64 r.1),(.sl 2 (List.map aB r.2.1)),(.bool r.2.2.1),(.int .i64 r.2.2.2.1)]),(.int .i64 r.2.2.2.2)]) []:=by
 unfold tS at h
 obtain⟨x6,e0,h⟩:=bsm h
 obtain⟨x7,e1,h⟩:=bsm h
 by_cases c2:x7=true
 · rw[if_pos c2] at h
   by_cases c3:eqI x6.1 0=true
   · rw[if_pos c3] at h
     by_cases c4:x5=true
     · rw[if_pos c4] at h
       obtain rfl:=osi h
       exact Tri.of (x:=X58) aH aEQ [(A58_0 x6),.call ⟨true,[]⟩ (.bool x7) [],df,df,dt] [⟨c4⟩,⟨(nF c3)⟩,⟨(nF c2)⟩,⟨(bM k x6.1 x6.2.1 x6.2.2.1 x6.2.2.2 _ e1)⟩,⟨(bD k x1 x2 x3 x4 _ e0)⟩] (by kernel_rfl)
     rw[if_neg c4] at h;replace c4:=eqf c4
     obtain rfl:=osi h
     exact Tri.of (x:=X58) aH aEQ [(A58_0 x6),.call ⟨true,[]⟩ (.bool x7) [],df,df,df] [⟨c4⟩,⟨(nF c3)⟩,⟨(nF c2)⟩,⟨(bM k x6.1 x6.2.1 x6.2.2.1 x6.2.2.2 _ e1)⟩,⟨(bD k x1 x2 x3 x4 _ e0)⟩] (by kernel_rfl)
   rw[if_neg c3] at h;replace c3:=eqf c3
   obtain rfl:=osi h
   exact Tri.of (x:=X58) aH aEQ [(A58_0 x6),.call ⟨true,[]⟩ (.bool x7) [],df,dt] [⟨(nT c3)⟩,⟨(nF c2)⟩,⟨(bM k x6.1 x6.2.1 x6.2.2.1 x6.2.2.2 _ e1)⟩,⟨(bD k x1 x2 x3 x4 _ e0)⟩] (by kernel_rfl)
 rw[if_neg c2] at h;replace c2:=eqf c2
 obtain rfl:=osi h
 exact Tri.of (x:=X58) aH aEQ [(A58_0 x6),.call ⟨true,[]⟩ (.bool x7) [],dt] [⟨(nT c2)⟩,⟨(bM k x6.1 x6.2.1 x6.2.2.1 x6.2.2.2 _ e1)⟩,⟨(bD k x1 x2 x3 x4 _ e0)⟩] (by kernel_rfl)
end Go.Ws

namespace Go.Ws
open Go.Proofs
set_option linter.unusedSimpArgs false
set_option linter.unusedVariables false
set_option maxRecDepth 1000000
set_option maxHeartbeats 4000000
noncomputable def X40_1001:Ctx:=⟨Try.f40,[],false⟩
theorem v6 (k:Nat) (x1:aL) (r:Unit) (h:iB k x1=some r):Tri Try.prog 40 [(.inl 2 (List.map aB x1))] [] (.ref 2 0 0 0 x1.length .virt) [(.arr 2 (List.map aB x1) 0 0 false)]:=by
 unfold iB at h
 by_cases c0:dV (x1.length*16)=true
 · rw[if_pos c0] at h
   obtain rfl:=osi h
   exact Tri.of (x:=X40_1001) aH aNR [df,.n x1.length,.norm 0 ⟨[(2,[])],[⟨.tmp 2,[],some 2⟩],false,[],[]⟩,.n x1.length,.rows (List.map aB x1)] [⟨(dZ aB (l:=x1) (n:=x1.length) rfl)⟩,⟨(rfl:x1.length=x1.length)⟩,⟨(zle x1.length)⟩,⟨c0⟩,⟨(aK aB x1)⟩,⟨rF⟩] (by kernel_rfl)
 rw[if_neg c0] at h;replace c0:=eqf c0
 cases h
end Go.Ws

namespace Go.Ws
open Go.Proofs
set_option linter.unusedSimpArgs false
set_option linter.unusedVariables false
set_option maxRecDepth 1000000
set_option maxHeartbeats 4000000
noncomputable def X40_1002:Ctx:=⟨Try.f40,[],false⟩
theorem vS:Tri Try.prog 40 [.nils] [] (.ref 2 0 0 0 0 .virt) [(.arr 2 (List.map aB []) 0 0 false)]:=by
 obtain⟨r,h⟩:∃r,oF=r:=⟨_,rfl⟩
 try rw[h]
 unfold oF at h
 obtain rfl:=h
 exact Tri.of (x:=X40_1002) aH aNR [dt,.norm 0 ⟨[(2,[])],[⟨.tmp 2,[],some 2⟩],false,[],[]⟩,.n 0,.rows (List.map aB [])] [⟨(dZ aB (l:=[]) (n:=0) rfl)⟩,⟨(rfl:0=0)⟩,⟨(zle 0)⟩,⟨rT⟩] (by kernel_rfl)
end Go.Ws

namespace Go.Ws
open Go.Proofs
set_option linter.unusedSimpArgs false
set_option linter.unusedVariables false
set_option maxRecDepth 1000000
set_option maxHeartbeats 4000000
theorem pV (k:Nat) (x1:aL) (r:Unit) (h:m7 k x1=some r):Tri Try.prog 40 [(.sl 2 (List.map aB x1))] [] (.ref 2 0 0 0 x1.length .virt) [(.arr 2 (List.map aB x1) 0 0 false)]:=by
 refine Tri.slOf (v6 k x1 r h) fun h0=>?_
 have hx:x1=[]:=by simpa using h0
 subst hx
 exact vS
end Go.Ws

namespace Go.Ws
open Go.Proofs
set_option linter.unusedSimpArgs false
set_option linter.unusedVariables false
set_option maxRecDepth 1000000
set_option maxHeartbeats 4000000
noncomputable def X41:Ctx:=⟨Try.f41,[],true⟩
noncomputable def L41_0:Code:=at_ Try.f41 [1,0,1,4,5]
def S41_0 (x1:aL) (bX:Int):St:=⟨mkT 36 [(0,(.sl 2 (List.map aB x1))),(5,(.sl 2 (List.map aB x1))),(6,(.int .i64 (nI x1.length))),(7,(.int .i64 bX))],[]⟩
def aJR:St:=⟨mkT 36 [],[]⟩
def O41_0 (x1:aL) (y:z7):GX:=match y with
 | .inl y=>.st (.exit 0) (aJR)
 | .inr y=>.fin (.bool y) []
def aKX (iR:Int × Int):Ans:=.row [(.int .u8 iR.1),(.int .i64 iR.2)]
theorem mR (x1:aL) (y:z7):∀(k:Nat) (bX:Int),d8 k x1 bX=some y→LT Try.prog X41 L41_0 (S41_0 x1 bX) (O41_0 x1 y)
 | 0,bX,h=>by cases h
 | k+1,bX,h=>by
  rw[d8] at h
  by_cases cL0:ltI bX (nI x1.length)=true
  · rw[if_pos cL0] at h
    by_cases cL1:inI bX x1.length=true
    · rw[if_pos cL1] at h
      obtain⟨iR,eL2,h⟩:=bsm h
      by_cases cL3:ltI iR.1 64=true
      · rw[if_pos cL3] at h
        by_cases cL4:eqI iR.2 0=true
        · rw[if_pos cL4] at h
          obtain rfl:=osi h
          show LT _ _ _ _ (.fin (.bool false) [])
          exact LT.done aH (hs:=⟨[],[],false,[],[]⟩) (es:=none) [dt,.n x1.length,(aKX iR),df,df,df,df,dt,dt,dt,dt,dt,dt] [⟨rT⟩,⟨cL4⟩,⟨cL4⟩,⟨cL4⟩,⟨cL4⟩,⟨cL4⟩,⟨(nF cL3)⟩,⟨(nF cL3)⟩,⟨(nF cL3)⟩,⟨(nF cL3)⟩,⟨(aN (e:=aB) eL2 2 0 2 (by decide))⟩,⟨cL1⟩,⟨(aK aB x1)⟩,⟨cL0⟩] (by kernel_rfl) (fun s h=>by cases h)
        rw[if_neg cL4] at h;replace cL4:=eqf cL4
        by_cases cL5:ltI 0 bX=true
        · rw[if_pos cL5] at h
          by_cases cL6:inI (sO .i64 bX 1) x1.length=true
          · rw[if_pos cL6] at h
            obtain⟨uN,eL7,h⟩:=bsm h
            by_cases cL8:ltI uN.1 iR.1=true
            · rw[if_pos cL8] at h
              exact LT.next aH (hs:=⟨[(0,[]),(5,[]),(6,[]),(7,[])],[],false,[],[]⟩) (es:=none) [dt,.n x1.length,(aKX iR),df,df,df,df,df,df,df,dt,dt,dt,dt,.n x1.length,dt,dt,.row [(.int .u8 uN.1)],dt,dt,dt,df,dt,df,df] [⟨(nF cL8)⟩,⟨cL4⟩,⟨cL5⟩,⟨cL4⟩,⟨cL5⟩,⟨cL5⟩,⟨cL5⟩,⟨(aN (e:=aB) eL7 2 0 1 (by decide))⟩,⟨cL5⟩,⟨cL5⟩,⟨cL6⟩,⟨(aK aB x1)⟩,⟨cL5⟩,⟨cL5⟩,⟨cL5⟩,⟨cL5⟩,⟨cL4⟩,⟨cL4⟩,⟨cL4⟩,⟨(nF cL3)⟩,⟨(nF cL3)⟩,⟨(nF cL3)⟩,⟨(nF cL3)⟩,⟨(aN (e:=aB) eL2 2 0 2 (by decide))⟩,⟨cL1⟩,⟨(aK aB x1)⟩,⟨cL0⟩] (by kernel_rfl) (mR x1 y k (aM .i64 bX 1) h)
            rw[if_neg cL8] at h;replace cL8:=eqf cL8
            obtain rfl:=osi h
            show LT _ _ _ _ (.fin (.bool false) [])
            exact LT.done aH (hs:=⟨[],[],false,[],[]⟩) (es:=none) [dt,.n x1.length,(aKX iR),df,df,df,df,df,df,df,dt,dt,dt,dt,.n x1.length,dt,dt,.row [(.int .u8 uN.1)],dt,dt,dt,df,dt,df,dt] [⟨(nT cL8)⟩,⟨cL4⟩,⟨cL5⟩,⟨cL4⟩,⟨cL5⟩,⟨cL5⟩,⟨cL5⟩,⟨(aN (e:=aB) eL7 2 0 1 (by decide))⟩,⟨cL5⟩,⟨cL5⟩,⟨cL6⟩,⟨(aK aB x1)⟩,⟨cL5⟩,⟨cL5⟩,⟨cL5⟩,⟨cL5⟩,⟨cL4⟩,⟨cL4⟩,⟨cL4⟩,⟨(nF cL3)⟩,⟨(nF cL3)⟩,⟨(nF cL3)⟩,⟨(nF cL3)⟩,⟨(aN (e:=aB) eL2 2 0 2 (by decide))⟩,⟨cL1⟩,⟨(aK aB x1)⟩,⟨cL0⟩] (by kernel_rfl) (fun s h=>by cases h)
          rw[if_neg cL6] at h;replace cL6:=eqf cL6
          cases h
        rw[if_neg cL5] at h;replace cL5:=eqf cL5
        exact LT.next aH (hs:=⟨[(0,[]),(5,[]),(6,[]),(7,[])],[],false,[],[]⟩) (es:=none) [dt,.n x1.length,(aKX iR),df,df,df,df,df,df,df,df,df,df,df,df,df,df,df,df,df,df,df,df] [⟨rF⟩,⟨cL4⟩,⟨cL5⟩,⟨cL4⟩,⟨cL5⟩,⟨cL5⟩,⟨cL5⟩,⟨cL5⟩,⟨cL5⟩,⟨cL5⟩,⟨cL5⟩,⟨cL5⟩,⟨cL5⟩,⟨cL4⟩,⟨cL4⟩,⟨cL4⟩,⟨(nF cL3)⟩,⟨(nF cL3)⟩,⟨(nF cL3)⟩,⟨(nF cL3)⟩,⟨(aN (e:=aB) eL2 2 0 2 (by decide))⟩,⟨cL1⟩,⟨(aK aB x1)⟩,⟨cL0⟩] (by kernel_rfl) (mR x1 y k (aM .i64 bX 1) h)
      rw[if_neg cL3] at h;replace cL3:=eqf cL3
      obtain rfl:=osi h
      show LT _ _ _ _ (.fin (.bool false) [])
      exact LT.done aH (hs:=⟨[],[],false,[],[]⟩) (es:=none) [dt,.n x1.length,(aKX iR),dt,dt,dt,dt,dt,dt,dt,dt,dt,dt] [⟨rT⟩,⟨rT⟩,⟨rT⟩,⟨rT⟩,⟨rT⟩,⟨rT⟩,⟨(nT cL3)⟩,⟨(nT cL3)⟩,⟨(nT cL3)⟩,⟨(nT cL3)⟩,⟨(aN (e:=aB) eL2 2 0 2 (by decide))⟩,⟨cL1⟩,⟨(aK aB x1)⟩,⟨cL0⟩] (by kernel_rfl) (fun s h=>by cases h)
    rw[if_neg cL1] at h;replace cL1:=eqf cL1
    cases h
  rw[if_neg cL0] at h;replace cL0:=eqf cL0
  obtain rfl:=osi h
  show LT _ _ _ _ (.st (.exit 0) (aJR))
  exact LT.done aH (hs:=⟨[],[],false,[],[]⟩) (es:=(some ⟨[],[],false,[],[]⟩)) [df] [⟨cL0⟩] (by kernel_rfl) (fun s h=>by cases h)
theorem s5 (k:Nat) (x1:aL) (r:Bool) (h:oQ k x1=some r):Tri Try.prog 41 [(.sl 2 (List.map aB x1))] [] (.bool r) []:=by
 unfold oQ at h
 obtain⟨x2,e0,h⟩:=bsm h
 cases x2 with
 | inl x3 =>
  simp only[Sum.elim_inl] at h
  obtain rfl:=osi h
  exact Tri.of (x:=X41) aH aNU [.n x1.length,.norm 2 ⟨[(0,[]),(5,[]),(6,[]),(7,[])],[],false,[],[]⟩,.out (.st .normal (aJR))] [⟨(LT.block (mR x1 _ k 0 e0))⟩,⟨(aK aB x1)⟩] (by kernel_rfl)
 | inr x3 =>
  simp only[Sum.elim_inr] at h
  obtain rfl:=osi h
  exact Tri.of (x:=X41) aH aNU [.n x1.length,.norm 2 ⟨[(0,[]),(5,[]),(6,[]),(7,[])],[],false,[],[]⟩,.out (.fin (.bool x3) [])] [⟨(LT.blockFin (id:=0) (mR x1 _ k 0 e0))⟩,⟨(aK aB x1)⟩] (by kernel_rfl)
end Go.Ws

namespace Go.Ws
open Go.Proofs
set_option linter.unusedSimpArgs false
set_option linter.unusedVariables false
set_option maxRecDepth 1000000
set_option maxHeartbeats 4000000
noncomputable def X39:Ctx:=⟨Try.f39,[],false⟩
theorem xM (x1:Int) (x2:Int):Tri Try.prog 39 [(.agg [(.int .u8 x1),(.int .i64 x2)])] [] (.bool (!ltI x1 64)) []:=by
 obtain⟨r,h⟩:∃r,xA x1 x2=r:=⟨_,rfl⟩
 try rw[h]
 unfold xA at h
 obtain rfl:=h
 exact Tri.of (x:=X39) aH facts39 [.norm 0 ⟨[(2,[])],[],false,[],[]⟩] [] (by kernel_rfl)
end Go.Ws

namespace Go.Ws
open Go.Proofs
set_option linter.unusedSimpArgs false
set_option linter.unusedVariables false
set_option maxRecDepth 1000000
set_option maxHeartbeats 4000000
noncomputable def X50_1:Ctx:=⟨Try.f50,[],true⟩
noncomputable def L50_1_0:Code:=at_ Try.f50 [1,0,1,4,5]
def S50_1_0 (x1:aL) (cE:Int):St:=⟨mkT 19 [(0,(.sl 2 (List.map aB x1))),(1,(.fn 39 [])),(7,(.int .i64 (nI x1.length))),(8,(.int .i64 cE))],[]⟩
def aDJ:St:=⟨mkT 19 [],[]⟩
def O50_1_0 (x1:aL) (y:(Sum (Unit) (Int))):GX:=match y with
 | .inl y=>.st (.exit 0) (aDJ)
 | .inr y=>.fin (.int .i64 y) []
theorem lN (x1:aL) (y:(Sum (Unit) (Int))):∀(k:Nat) (cE:Int),cJ k x1 cE=some y→LT Try.prog X50_1 L50_1_0 (S50_1_0 x1 cE) (O50_1_0 x1 y)
 | 0,cE,h=>by cases h
 | k+1,cE,h=>by
  rw[cJ] at h
  by_cases cL0:ltI cE (nI x1.length)=true
  · rw[if_pos cL0] at h
    by_cases cL1:inI cE x1.length=true
    · rw[if_pos cL1] at h
      obtain⟨jB,eL2,h⟩:=bsm h
      by_cases cL3:ltI jB.1 64=true
      · rw[if_pos cL3] at h
        exact LT.next aH (hs:=⟨[(0,[]),(1,[]),(7,[]),(8,[])],[],false,[],[]⟩) (es:=none) [dt,.n x1.length,.row [(.int .u8 jB.1),(.int .i64 jB.2)],.call ⟨false,[]⟩ (.bool (!ltI jB.1 64)) [],df] [⟨(nF cL3)⟩,⟨(xM jB.1 jB.2)⟩,⟨(aN (e:=aB) eL2 2 0 2 (by decide))⟩,⟨cL1⟩,⟨(aK aB x1)⟩,⟨cL0⟩] (by kernel_rfl) (lN x1 y k (aM .i64 cE 1) h)
      rw[if_neg cL3] at h;replace cL3:=eqf cL3
      obtain rfl:=osi h
      show LT _ _ _ _ (.fin (.int .i64 cE) [])
      exact LT.done aH (hs:=⟨[],[],false,[],[]⟩) (es:=none) [dt,.n x1.length,.row [(.int .u8 jB.1),(.int .i64 jB.2)],.call ⟨false,[]⟩ (.bool (!ltI jB.1 64)) [],dt] [⟨(nT cL3)⟩,⟨(xM jB.1 jB.2)⟩,⟨(aN (e:=aB) eL2 2 0 2 (by decide))⟩,⟨cL1⟩,⟨(aK aB x1)⟩,⟨cL0⟩] (by kernel_rfl) (fun s h=>by cases h)
    rw[if_neg cL1] at h;replace cL1:=eqf cL1
    cases h
  rw[if_neg cL0] at h;replace cL0:=eqf cL0
  obtain rfl:=osi h
  show LT _ _ _ _ (.st (.exit 0) (aDJ))
  exact LT.done aH (hs:=⟨[],[],false,[],[]⟩) (es:=(some ⟨[],[],false,[],[]⟩)) [df] [⟨cL0⟩] (by kernel_rfl) (fun s h=>by cases h)
theorem xV (k:Nat) (x1:aL) (r:Int) (h:jA k x1=some r):Tri Try.prog 50 [(.sl 2 (List.map aB x1)),(.fn 39 [])] [] (.int .i64 r) []:=by
 unfold jA at h
 obtain⟨x2,e0,h⟩:=bsm h
 cases x2 with
 | inl x3 =>
  simp only[Sum.elim_inl] at h
  obtain rfl:=osi h
  exact Tri.of (x:=X50_1) aH aEZ [.n x1.length,.norm 2 ⟨[(0,[]),(1,[]),(7,[]),(8,[])],[],false,[],[]⟩,.out (.st .normal (aDJ))] [⟨(LT.block (lN x1 _ k 0 e0))⟩,⟨(aK aB x1)⟩] (by kernel_rfl)
 | inr x3 =>
  simp only[Sum.elim_inr] at h
  obtain rfl:=osi h
  exact Tri.of (x:=X50_1) aH aEZ [.n x1.length,.norm 2 ⟨[(0,[]),(1,[]),(7,[]),(8,[])],[],false,[],[]⟩,.out (.fin (.int .i64 x3) [])] [⟨(LT.blockFin (id:=0) (lN x1 _ k 0 e0))⟩,⟨(aK aB x1)⟩] (by kernel_rfl)
end Go.Ws

namespace Go.Ws
open Go.Proofs
set_option linter.unusedSimpArgs false
set_option linter.unusedVariables false
set_option maxRecDepth 1000000
set_option maxHeartbeats 4000000
noncomputable def X42_1:Ctx:=⟨Try.f42,[],true⟩
theorem o7 (k:Nat) (x1:aL) (r:Bool) (h:gW k x1=some r):Tri Try.prog 42 [(.sl 2 (List.map aB x1)),(.fn 39 [])] [] (.bool r) []:=by
 unfold gW at h
 obtain⟨x2,e0,h⟩:=bsm h
 obtain rfl:=osi h
 exact Tri.of (x:=X42_1) aH aN6 [.call ⟨true,[]⟩ (.int .i64 x2) []] [⟨(xV k x1 _ e0)⟩] (by kernel_rfl)
end Go.Ws

namespace Go.Ws
open Go.Proofs
set_option linter.unusedSimpArgs false
set_option linter.unusedVariables false
set_option maxRecDepth 1000000
set_option maxHeartbeats 4000000
noncomputable def X52:Ctx:=⟨Try.f52,[],false⟩
theorem rZ (x1:Int) (x2:Int) (x3:Int):Tri Try.prog 52 [(.agg [(.int .u8 x1),(.int .i64 x2)]),(.int .u8 x3)] [] (.int .i64 (bK x1 x3)) []:=by
 obtain⟨r,h⟩:∃r,vJ x1 x2 x3=r:=⟨_,rfl⟩
 try rw[h]
 unfold vJ at h
 obtain rfl:=h
 exact Tri.of (x:=X52) aH facts52 [.call ⟨true,[]⟩ (.int .i64 (bK x1 x3)) [],.norm 0 ⟨[(4,[])],[],false,[],[]⟩] [⟨(xZ x1 x3)⟩] (by kernel_rfl)
end Go.Ws

namespace Go.Ws
open Go.Proofs
set_option linter.unusedSimpArgs false
set_option linter.unusedVariables false
set_option maxRecDepth 1000000
set_option maxHeartbeats 4000000
noncomputable def X51:Ctx:=⟨Try.f51,[],true⟩
noncomputable def L51_0:Code:=at_ Try.f51 [1,1,1,0,4,5]
def S51_0 (x1:aL) (x2:Int) (cF:Int) (cQ:Int):St:=⟨mkT 49 [(0,(.sl 2 (List.map aB x1))),(1,(.int .u8 x2)),(2,(.fn 52 [])),(8,(.int .i64 (nI x1.length))),(9,(.int .i64 cF)),(10,(.int .i64 cQ))],[]⟩
def aEP (x1:aL) (x2:Int) (v51002_1:Int):St:=⟨mkT 49 [(0,(.sl 2 (List.map aB x1))),(1,(.int .u8 x2)),(2,(.fn 52 [])),(8,(.int .i64 (nI x1.length))),(9,(.int .i64 v51002_1))],[]⟩
def O51_0 (x1:aL) (x2:Int) (y:(Int)):GX:=.st (.exit 0) (aEP x1 x2 y)
def A51_0:Ans:=.norm 2 ⟨[(0,[]),(1,[]),(2,[]),(8,[]),(9,[]),(10,[])],[],false,[],[]⟩
theorem fS (x1:aL) (x2:Int) (y:(Int)):∀(k:Nat) (cF:Int) (cQ:Int),aZ k x1 x2 cF cQ=some y→LT Try.prog X51 L51_0 (S51_0 x1 x2 cF cQ) (O51_0 x1 x2 y)
 | 0,cF,cQ,h=>by cases h
 | k+1,cF,cQ,h=>by
  rw[aZ] at h
  by_cases cL0:ltI cF cQ=true
  · rw[if_pos cL0] at h
    by_cases cL1:inI (conv .i64 (sH .u64 (conv .u64 (aM .i64 cF cQ)) 1)) x1.length=true
    · rw[if_pos cL1] at h
      obtain⟨kT,eL2,h⟩:=bsm h
      by_cases cL3:ltI (bK kT.1 x2) 0=true
      · rw[if_pos cL3] at h
        exact LT.next aH (hs:=⟨[(0,[]),(1,[]),(2,[]),(8,[]),(9,[]),(10,[])],[],false,[],[]⟩) (es:=none) [dt,.n x1.length,.row [(.int .u8 kT.1),(.int .i64 kT.2)],.call ⟨false,[]⟩ (.int .i64 (bK kT.1 x2)) [],dt] [⟨cL3⟩,⟨(rZ kT.1 kT.2 x2)⟩,⟨(aN (e:=aB) eL2 2 0 2 (by decide))⟩,⟨cL1⟩,⟨(aK aB x1)⟩,⟨cL0⟩] (by kernel_rfl) (fS x1 x2 y k (aM .i64 (conv .i64 (sH .u64 (conv .u64 (aM .i64 cF cQ)) 1)) 1) cQ h)
      rw[if_neg cL3] at h;replace cL3:=eqf cL3
      exact LT.next aH (hs:=⟨[(0,[]),(1,[]),(2,[]),(8,[]),(9,[]),(10,[])],[],false,[],[]⟩) (es:=none) [dt,.n x1.length,.row [(.int .u8 kT.1),(.int .i64 kT.2)],.call ⟨false,[]⟩ (.int .i64 (bK kT.1 x2)) [],df] [⟨cL3⟩,⟨(rZ kT.1 kT.2 x2)⟩,⟨(aN (e:=aB) eL2 2 0 2 (by decide))⟩,⟨cL1⟩,⟨(aK aB x1)⟩,⟨cL0⟩] (by kernel_rfl) (fS x1 x2 y k cF (conv .i64 (sH .u64 (conv .u64 (aM .i64 cF cQ)) 1)) h)
    rw[if_neg cL1] at h;replace cL1:=eqf cL1
    cases h
  rw[if_neg cL0] at h;replace cL0:=eqf cL0
  obtain rfl:=osi h
  show LT _ _ _ _ (.st (.exit 0) (aEP x1 x2 cF))
  exact LT.done aH (hs:=⟨[],[],false,[],[]⟩) (es:=(some ⟨[(0,[]),(1,[]),(2,[]),(8,[]),(9,[])],[],false,[],[]⟩)) [df] [⟨cL0⟩] (by kernel_rfl) (fun s h=>by cases h)
theorem sP (k:Nat) (x1:aL) (x2:Int) (r:Int × Bool) (h:eT k x1 x2=some r):Tri Try.prog 51 [(.sl 2 (List.map aB x1)),(.int .u8 x2),(.fn 52 [])] [] (.tup [(.int .i64 r.1),(.bool r.2)]) []:=by
 unfold eT at h
 obtain⟨x4,e0,h⟩:=bsm h
 by_cases c2:ltI x4 (nI x1.length)=true
 · rw[if_pos c2] at h
   by_cases c3:inI x4 x1.length=true
   · rw[if_pos c3] at h
     obtain⟨x5,e4,h⟩:=bsm h
     obtain rfl:=osi h
     exact Tri.of (x:=X51) aH aM8 [.n x1.length,A51_0,.out (.st .normal (aEP x1 x2 x4)),dt,dt,dt,dt,.n x1.length,dt,.row [(.int .u8 x5.1),(.int .i64 x5.2)],dt,dt,.call ⟨false,[]⟩ (.int .i64 (bK x5.1 x2)) [],dt,dt] [⟨c2⟩,⟨c2⟩,⟨(rZ x5.1 x5.2 x2)⟩,⟨c2⟩,⟨c2⟩,⟨(aN (e:=aB) e4 2 0 2 (by decide))⟩,⟨c2⟩,⟨c3⟩,⟨(aK aB x1)⟩,⟨c2⟩,⟨c2⟩,⟨c2⟩,⟨c2⟩,⟨(LT.block (fS x1 x2 _ k 0 (nI x1.length) e0))⟩,⟨(aK aB x1)⟩] (by kernel_rfl)
   rw[if_neg c3] at h;replace c3:=eqf c3
   cases h
 rw[if_neg c2] at h;replace c2:=eqf c2
 obtain rfl:=osi h
 exact Tri.of (x:=X51) aH aM8 [.n x1.length,A51_0,.out (.st .normal (aEP x1 x2 x4)),df,df,df,df,df,df,df,df,df] [⟨c2⟩,⟨c2⟩,⟨c2⟩,⟨c2⟩,⟨c2⟩,⟨c2⟩,⟨c2⟩,⟨c2⟩,⟨c2⟩,⟨(LT.block (fS x1 x2 _ k 0 (nI x1.length) e0))⟩,⟨(aK aB x1)⟩] (by kernel_rfl)
end Go.Ws

namespace Go.Ws
open Go.Proofs
set_option linter.unusedSimpArgs false
set_option linter.unusedVariables false
set_option maxRecDepth 1000000
set_option maxHeartbeats 4000000
noncomputable def X43:Ctx:=⟨Try.f43,[],true⟩
theorem qU (k:Nat) (x1:aL) (x2:Int) (r:Int × Bool) (h:p8 k x1 x2=some r):Tri Try.prog 43 [(.sl 2 (List.map aB x1)),(.int .u8 x2)] [] (.tup [(.int .i64 r.1),(.bool r.2)]) []:=by
 unfold p8 at h
 obtain⟨x3,e0,h⟩:=bsm h
 obtain rfl:=osi h
 exact Tri.of (x:=X43) aH facts43 [.call ⟨true,[]⟩ (.tup [(.int .i64 x3.1),(.bool x3.2)]) []] [⟨(sP k x1 x2 _ e0)⟩] (by kernel_rfl)
end Go.Ws

namespace Go.Ws
open Go.Proofs
set_option linter.unusedSimpArgs false
set_option linter.unusedVariables false
set_option maxRecDepth 1000000
set_option maxHeartbeats 4000000
theorem aDP (k:Nat) (x1:Int) (x2:Int) (x3:aL) (r:aL) (h:o5 k x1 x2 x3=some r):Tri Try.prog 45 [(.ref 2 0 0 0 x3.length .virt),(.int .i64 x1),(.int .i64 x2)] [(.arr 2 (List.map aB x3) 0 0 false)] (.ref 2 0 1 0 r.length .full) [(.arr 2 (List.map aB r) 1 1 false)]:=aJ8 _ h
end Go.Ws

namespace Go.Ws
open Go.Proofs
set_option linter.unusedSimpArgs false
set_option linter.unusedVariables false
set_option maxRecDepth 1000000
set_option maxHeartbeats 4000000
theorem s8 (k:Nat) (x1:Int) (x2:aL) (x3:aL) (r:aL) (h:mC k x1 x2 x3=some r):Tri Try.prog 44 [(.ref 2 0 0 0 x2.length .virt),(.int .i64 x1),(.ref 2 1 0 0 x3.length .full)] [(.arr 2 (List.map aB x2) 0 0 false),(.arr 2 (List.map aB x3) 0 0 false)] (.ref 2 0 1 0 r.length .full) [(.arr 2 (List.map aB r) 1 1 false),(.arr 2 (List.map aB x3) 0 0 false)]:=ins_ok44 _ h rfl
end Go.Ws

namespace Go.Ws
open Go.Proofs
set_option linter.unusedSimpArgs false
set_option linter.unusedVariables false
set_option maxRecDepth 1000000
set_option maxHeartbeats 4000000
theorem aAR (k:Nat) (x1:Int) (x2:Int) (x3:aL) (r:aL) (h:m6 k x1 x2 x3=some r):Tri Try.prog 45 [(.ref 2 0 1 0 x3.length .full),(.int .i64 x1),(.int .i64 x2)] [(.arr 2 (List.map aB x3) 1 1 false)] (.ref 2 0 2 0 r.length .full) [(.arr 2 (List.map aB r) 2 2 false)]:=aJ8 _ h
end Go.Ws

namespace Go.Ws
open Go.Proofs
set_option linter.unusedSimpArgs false
set_option linter.unusedVariables false
set_option maxRecDepth 1000000
set_option maxHeartbeats 4000000
noncomputable def X30:Ctx:=⟨Try.f30,[],true⟩
noncomputable def L30_0:Code:=at_ Try.f30 [1,1,1,1,0,1,4,5]
def S30_0 (x2:aL) (cG:Int) (aQ:aL):St:=⟨mkT 67 [(0,(.ref 2 0 0 0 aQ.length .virt)),(22,(.sl 2 (List.map aB x2))),(23,(.int .i64 (nI x2.length))),(24,(.int .i64 cG))],[(.arr 2 (List.map aB aQ) 0 0 false)]⟩
def aJ0 (aLT:aL):St:=⟨mkT 67 [(0,(.ref 2 0 0 0 aLT.length .virt))],[(.arr 2 (List.map aB aLT) 0 0 false)]⟩
def O30_0 (x2:aL) (y:(aL)):GX:=.st (.exit 0) (aJ0 y)
def A30_0 (bC:Int × Int):Ans:=.row [(.int .u8 bC.1),(.int .i64 bC.2)]
def A30_1 (aU:Int × Bool):Ans:=.call ⟨true,[]⟩ (.tup [(.int .i64 aU.1),(.bool aU.2)]) []
def A30_2 (x1:aL):Ans:=.call ⟨true,[]⟩ (.ref 2 0 0 0 x1.length .virt) [(.arr 2 (List.map aB x1) 0 0 false)]
theorem mA (x2:aL) (y:(aL)):∀(k:Nat) (cG:Int) (aQ:aL),eK k x2 cG aQ=some y→LT Try.prog X30 L30_0 (S30_0 x2 cG aQ) (O30_0 x2 y)
 | 0,cG,aQ,h=>by cases h
 | k+1,cG,aQ,h=>by
  rw[eK] at h
  by_cases cL0:ltI cG (nI x2.length)=true
  · rw[if_pos cL0] at h
    by_cases cL1:inI cG x2.length=true
    · rw[if_pos cL1] at h
      obtain⟨bC,eL2,h⟩:=bsm h
      obtain⟨aU,eL3,h⟩:=bsm h
      by_cases cL4:aU.2=true
      · rw[if_pos cL4] at h
        by_cases cL5:inI aU.1 aQ.length=true
        · rw[if_pos cL5] at h
          obtain⟨aS,eL6,h⟩:=bsm h
          obtain⟨bL,eL7,h⟩:=bsm h
          by_cases cL8:eqI bL.2 0=true
          · rw[if_pos cL8] at h
            obtain⟨gN,eL9,h⟩:=bsm h
            exact LT.next aH (hs:=⟨[(0,[]),(22,[]),(23,[]),(24,[])],[⟨.tmp 0,[],some 2⟩],false,[],[]⟩) (es:=none) [dt,.n x2.length,(A30_0 bC),(A30_1 aU),.rows (List.map aB aQ),df,.row [(.int .i64 aS.2)],.rows (List.map aB (List.set aQ (tN aU.1) (aS.1,aM .i64 aS.2 bC.2))),.row [(.int .i64 bL.2)],dt,.call ⟨false,[]⟩ (.ref 2 0 1 0 gN.length .full) [(.arr 2 (List.map aB gN) 1 1 false)],.n gN.length,.rows (List.map aB gN)] [⟨(dZ aB (l:=gN) (n:=gN.length) rfl)⟩,⟨(rfl:gN.length=gN.length)⟩,⟨(zle gN.length)⟩,⟨(by have hh:=(aDP k aU.1 (aM .i64 aU.1 1) (List.set aQ (tN aU.1) (aS.1,aM .i64 aS.2 bC.2)) _ eL9);simp only[List.length_set] at hh;exact hh)⟩,⟨cL8⟩,⟨(aN (e:=aB) eL7 2 1 1 (by decide))⟩,⟨cL5⟩,⟨(rN (e:=aB) eL6 1 [(.int .i64 (aM .i64 aS.2 bC.2))] (aS.1,aM .i64 aS.2 bC.2) rfl)⟩,⟨cL5⟩,⟨(aN (e:=aB) eL6 2 1 1 (by decide))⟩,⟨cL5⟩,⟨(nF cL4)⟩,⟨(qU k aQ bC.1 _ eL3)⟩,⟨(bA aB (l:=aQ) (n:=aQ.length) rfl)⟩,⟨(b8 aB (Nat.le_refl aQ.length):0+aQ.length≤(List.map aB aQ).length)⟩,⟨(aN (e:=aB) eL2 2 0 2 (by decide))⟩,⟨cL1⟩,⟨(aK aB x2)⟩,⟨cL0⟩] (by kernel_rfl) (mA x2 y k (aM .i64 cG 1) gN h)
          rw[if_neg cL8] at h;replace cL8:=eqf cL8
          exact LT.next aH (hs:=⟨[(0,[]),(22,[]),(23,[]),(24,[])],[⟨.tmp 0,[],some 2⟩],false,[],[]⟩) (es:=none) [dt,.n x2.length,(A30_0 bC),(A30_1 aU),.rows (List.map aB aQ),df,.row [(.int .i64 aS.2)],.rows (List.map aB (List.set aQ (tN aU.1) (aS.1,aM .i64 aS.2 bC.2))),.row [(.int .i64 bL.2)],df,.n ((List.set aQ (tN aU.1) (aS.1,aM .i64 aS.2 bC.2)).length),.rows (List.map aB (List.set aQ (tN aU.1) (aS.1,aM .i64 aS.2 bC.2)))] [⟨(dZ aB (l:=(List.set aQ (tN aU.1) (aS.1,aM .i64 aS.2 bC.2))) (n:=aQ.length) (by simp:aQ.length=(List.set aQ (tN aU.1) (aS.1,aM .i64 aS.2 bC.2)).length))⟩,⟨((by simp:aQ.length=List.length (α:=Int × Int) (List.set aQ (tN aU.1) (aS.1,aM .i64 aS.2 bC.2))):aQ.length=(List.set aQ (tN aU.1) (aS.1,aM .i64 aS.2 bC.2)).length)⟩,⟨(zle aQ.length)⟩,⟨cL8⟩,⟨(aN (e:=aB) eL7 2 1 1 (by decide))⟩,⟨cL5⟩,⟨(rN (e:=aB) eL6 1 [(.int .i64 (aM .i64 aS.2 bC.2))] (aS.1,aM .i64 aS.2 bC.2) rfl)⟩,⟨cL5⟩,⟨(aN (e:=aB) eL6 2 1 1 (by decide))⟩,⟨cL5⟩,⟨(nF cL4)⟩,⟨(qU k aQ bC.1 _ eL3)⟩,⟨(bA aB (l:=aQ) (n:=aQ.length) rfl)⟩,⟨(b8 aB (Nat.le_refl aQ.length):0+aQ.length≤(List.map aB aQ).length)⟩,⟨(aN (e:=aB) eL2 2 0 2 (by decide))⟩,⟨cL1⟩,⟨(aK aB x2)⟩,⟨cL0⟩] (by kernel_rfl) (mA x2 y k (aM .i64 cG 1) (List.set aQ (tN aU.1) (aS.1,aM .i64 aS.2 bC.2)) h)
        rw[if_neg cL5] at h;replace cL5:=eqf cL5
        cases h
      rw[if_neg cL4] at h;replace cL4:=eqf cL4
      obtain⟨aS,eL5,h⟩:=bsm h
      by_cases cL6:inI aU.1 aS.length=true
      · rw[if_pos cL6] at h
        obtain⟨bL,eL7,h⟩:=bsm h
        obtain⟨gN,eL8,h⟩:=bsm h
        by_cases cL9:eqI gN.2 0=true
        · rw[if_pos cL9] at h
          obtain⟨lK,eL10,h⟩:=bsm h
          exact LT.next aH (hs:=⟨[(0,[]),(22,[]),(23,[]),(24,[])],[⟨.tmp 0,[],some 2⟩],false,[],[]⟩) (es:=none) [dt,.n x2.length,(A30_0 bC),(A30_1 aU),.rows (List.map aB aQ),dt,.call ⟨false,[]⟩ (.ref 2 0 1 0 aS.length .full) [(.arr 2 (List.map aB aS) 1 1 false),(.arr 2 (List.map aB [(bC.1,0)]) 0 0 false)],.row [(.int .i64 bL.2)],.rows (List.map aB (List.set aS (tN aU.1) (bL.1,aM .i64 bL.2 bC.2))),.row [(.int .i64 gN.2)],dt,.call ⟨false,[]⟩ (.ref 2 0 2 0 lK.length .full) [(.arr 2 (List.map aB lK) 2 2 false)],.n lK.length,.rows (List.map aB lK)] [⟨(dZ aB (l:=lK) (n:=lK.length) rfl)⟩,⟨(rfl:lK.length=lK.length)⟩,⟨(zle lK.length)⟩,⟨(by have hh:=(aAR k aU.1 (aM .i64 aU.1 1) (List.set aS (tN aU.1) (bL.1,aM .i64 bL.2 bC.2)) _ eL10);simp only[List.length_set] at hh;exact hh)⟩,⟨cL9⟩,⟨(aN (e:=aB) eL8 2 1 1 (by decide))⟩,⟨cL6⟩,⟨(rN (e:=aB) eL7 1 [(.int .i64 (aM .i64 bL.2 bC.2))] (bL.1,aM .i64 bL.2 bC.2) rfl)⟩,⟨cL6⟩,⟨(aN (e:=aB) eL7 2 1 1 (by decide))⟩,⟨cL6⟩,⟨(s8 k aU.1 aQ [(bC.1,0)] _ eL5)⟩,⟨(nT cL4)⟩,⟨(qU k aQ bC.1 _ eL3)⟩,⟨(bA aB (l:=aQ) (n:=aQ.length) rfl)⟩,⟨(b8 aB (Nat.le_refl aQ.length):0+aQ.length≤(List.map aB aQ).length)⟩,⟨(aN (e:=aB) eL2 2 0 2 (by decide))⟩,⟨cL1⟩,⟨(aK aB x2)⟩,⟨cL0⟩] (by kernel_rfl) (mA x2 y k (aM .i64 cG 1) lK h)
        rw[if_neg cL9] at h;replace cL9:=eqf cL9
        exact LT.next aH (hs:=⟨[(0,[]),(22,[]),(23,[]),(24,[])],[⟨.tmp 0,[],some 2⟩],false,[],[]⟩) (es:=none) [dt,.n x2.length,(A30_0 bC),(A30_1 aU),.rows (List.map aB aQ),dt,.call ⟨false,[]⟩ (.ref 2 0 1 0 aS.length .full) [(.arr 2 (List.map aB aS) 1 1 false),(.arr 2 (List.map aB [(bC.1,0)]) 0 0 false)],.row [(.int .i64 bL.2)],.rows (List.map aB (List.set aS (tN aU.1) (bL.1,aM .i64 bL.2 bC.2))),.row [(.int .i64 gN.2)],df,.n ((List.set aS (tN aU.1) (bL.1,aM .i64 bL.2 bC.2)).length),.rows (List.map aB (List.set aS (tN aU.1) (bL.1,aM .i64 bL.2 bC.2)))] [⟨(dZ aB (l:=(List.set aS (tN aU.1) (bL.1,aM .i64 bL.2 bC.2))) (n:=aS.length) (by simp:aS.length=(List.set aS (tN aU.1) (bL.1,aM .i64 bL.2 bC.2)).length))⟩,⟨((by simp:aS.length=List.length (α:=Int × Int) (List.set aS (tN aU.1) (bL.1,aM .i64 bL.2 bC.2))):aS.length=(List.set aS (tN aU.1) (bL.1,aM .i64 bL.2 bC.2)).length)⟩,⟨(zle aS.length)⟩,⟨cL9⟩,⟨(aN (e:=aB) eL8 2 1 1 (by decide))⟩,⟨cL6⟩,⟨(rN (e:=aB) eL7 1 [(.int .i64 (aM .i64 bL.2 bC.2))] (bL.1,aM .i64 bL.2 bC.2) rfl)⟩,⟨cL6⟩,⟨(aN (e:=aB) eL7 2 1 1 (by decide))⟩,⟨cL6⟩,⟨(s8 k aU.1 aQ [(bC.1,0)] _ eL5)⟩,⟨(nT cL4)⟩,⟨(qU k aQ bC.1 _ eL3)⟩,⟨(bA aB (l:=aQ) (n:=aQ.length) rfl)⟩,⟨(b8 aB (Nat.le_refl aQ.length):0+aQ.length≤(List.map aB aQ).length)⟩,⟨(aN (e:=aB) eL2 2 0 2 (by decide))⟩,⟨cL1⟩,⟨(aK aB x2)⟩,⟨cL0⟩] (by kernel_rfl) (mA x2 y k (aM .i64 cG 1) (List.set aS (tN aU.1) (bL.1,aM .i64 bL.2 bC.2)) h)
      rw[if_neg cL6] at h;replace cL6:=eqf cL6
      cases h
    rw[if_neg cL1] at h;replace cL1:=eqf cL1
    cases h
  rw[if_neg cL0] at h;replace cL0:=eqf cL0
  obtain rfl:=osi h
  show LT _ _ _ _ (.st (.exit 0) (aJ0 aQ))
  exact LT.done aH (hs:=⟨[],[],false,[],[]⟩) (es:=(some ⟨[(0,[])],[⟨.tmp 0,[],none⟩],false,[],[]⟩)) [df] [⟨cL0⟩] (by kernel_rfl) (fun s h=>by cases h)
theorem nK (k:Nat) (x1:aL) (x2:aL) (r:aL × Int) (h:lL k x1 x2=some r):Tri Try.prog 30 [(.sl 2 (List.map aB x1)),(.sl 2 (List.map aB x2))] [] (.tup [(.sl 2 (List.map aB r.1)),(.int .i64 r.2)]) []:=by
 unfold lL at h
 obtain⟨x3,e0,h⟩:=bsm h
 obtain⟨x4,e1,h⟩:=bsm h
 by_cases c2:x4=true
 · rw[if_pos c2] at h
   obtain⟨x5,e3,h⟩:=bsm h
   by_cases c4:x5=true
   · rw[if_pos c4] at h
     obtain rfl:=osi h
     exact Tri.of (x:=X30) aH aIY [(A30_2 x1),.call ⟨true,[]⟩ (.bool x4) [],.rows (List.map aB x1),df,df,df,.call ⟨true,[]⟩ (.bool x5) [],df,dt,.rows (List.map aB x1)] [⟨(bA aB (l:=x1) (n:=x1.length) rfl)⟩,⟨(b8 aB (Nat.le_refl x1.length):0+x1.length≤(List.map aB x1).length)⟩,⟨c4⟩,⟨(nF c2)⟩,⟨(o7 k x2 _ e3)⟩,⟨(nF c2)⟩,⟨(nF c2)⟩,⟨(nF c2)⟩,⟨(s5 k x1 _ e1)⟩,⟨(bA aB (l:=x1) (n:=x1.length) rfl)⟩,⟨(b8 aB (Nat.le_refl x1.length):0+x1.length≤(List.map aB x1).length)⟩,⟨(pV k x1 _ e0)⟩] (by kernel_rfl)
   rw[if_neg c4] at h;replace c4:=eqf c4
   obtain⟨x7,e5,h⟩:=bsm h
   obtain rfl:=osi h
   exact Tri.of (x:=X30) aH aIY [(A30_2 x1),.call ⟨true,[]⟩ (.bool x4) [],.rows (List.map aB x1),df,df,df,.call ⟨true,[]⟩ (.bool x5) [],df,df,.n x2.length,.norm 2 ⟨[(0,[]),(22,[]),(23,[]),(24,[])],[⟨.tmp 0,[],some 2⟩],false,[],[]⟩,.n x1.length,.rows (List.map aB x1),.out (.st .normal (aJ0 x7)),.rows (List.map aB x7)] [⟨(bA aB (l:=x7) (n:=x7.length) rfl)⟩,⟨(b8 aB (Nat.le_refl x7.length):0+x7.length≤(List.map aB x7).length)⟩,⟨(LT.block (mA x2 _ k 0 x1 e5))⟩,⟨(dZ aB (l:=x1) (n:=x1.length) rfl)⟩,⟨(rfl:x1.length=x1.length)⟩,⟨(zle x1.length)⟩,⟨(aK aB x2)⟩,⟨c4⟩,⟨(nF c2)⟩,⟨(o7 k x2 _ e3)⟩,⟨(nF c2)⟩,⟨(nF c2)⟩,⟨(nF c2)⟩,⟨(s5 k x1 _ e1)⟩,⟨(bA aB (l:=x1) (n:=x1.length) rfl)⟩,⟨(b8 aB (Nat.le_refl x1.length):0+x1.length≤(List.map aB x1).length)⟩,⟨(pV k x1 _ e0)⟩] (by kernel_rfl)
 rw[if_neg c2] at h;replace c2:=eqf c2
 obtain rfl:=osi h
 exact Tri.of (x:=X30) aH aIY [(A30_2 x1),.call ⟨true,[]⟩ (.bool x4) [],.rows (List.map aB x1),dt,dt,dt,dt,dt,.rows (List.map aB x1)] [⟨(bA aB (l:=x1) (n:=x1.length) rfl)⟩,⟨(b8 aB (Nat.le_refl x1.length):0+x1.length≤(List.map aB x1).length)⟩,⟨rT⟩,⟨(nT c2)⟩,⟨(nT c2)⟩,⟨(nT c2)⟩,⟨(nT c2)⟩,⟨(s5 k x1 _ e1)⟩,⟨(bA aB (l:=x1) (n:=x1.length) rfl)⟩,⟨(b8 aB (Nat.le_refl x1.length):0+x1.length≤(List.map aB x1).length)⟩,⟨(pV k x1 _ e0)⟩] (by kernel_rfl)
end Go.Ws

namespace Go.Ws
open Go.Proofs
set_option linter.unusedSimpArgs false
set_option linter.unusedVariables false
set_option maxRecDepth 1000000
set_option maxHeartbeats 4000000
noncomputable def X78 (x4:Int):Ctx:=⟨Try.f78,[(.row [(.int .i64 x4)])],false⟩
theorem qV (x1:Int) (x2:Int) (x3:Bool) (x4:Int):Tri Try.prog 78 [(.agg [(.int .u8 x1),(.int .i64 x2),(.bool x3)]),(.hp 0 0)] [(.row [(.int .i64 x4)])] (.bool (eqI x2 x4)) [(.row [(.int .i64 x4)])]:=by
 obtain⟨r,h⟩:∃r,y7 x1 x2 x3 x4=r:=⟨_,rfl⟩
 try rw[h]
 unfold y7 at h
 obtain rfl:=h
 exact Tri.of (x:=(X78 x4)) aH facts78 [.norm 0 ⟨[(3,[])],[],false,[],[]⟩] [] (by kernel_rfl)
end Go.Ws

namespace Go.Ws
open Go.Proofs
set_option linter.unusedSimpArgs false
set_option linter.unusedVariables false
set_option maxRecDepth 1000000
set_option maxHeartbeats 4000000
noncomputable def X92 (x1:Ty8) (x2:Int):Ctx:=⟨Try.f92,[(.arr 3 (List.map aE x1) 0 0 false),(.row [(.int .i64 x2)])],false⟩
noncomputable def L92_0:Code:=at_ Try.f92 [1,0,1,4,5]
def S92_0 (x1:Ty8) (x2:Int) (cX:Int):St:=⟨mkT 19 [(0,(.ref 3 0 0 0 x1.length .virt)),(1,(.fn 78 [(.hp 1 0)])),(7,(.int .i64 (nI x1.length))),(8,(.int .i64 cX))],[(.arr 3 (List.map aE x1) 0 0 false),(.row [(.int .i64 x2)])]⟩
def aI3 (x1:Ty8) (x2:Int):St:=⟨mkT 19 [],[(.arr 3 (List.map aE x1) 0 0 false),(.row [(.int .i64 x2)])]⟩
def O92_0 (x1:Ty8) (x2:Int) (y:(Sum (Unit) (Int))):GX:=match y with
 | .inl y=>.st (.exit 0) (aI3 x1 x2)
 | .inr y=>.fin (.int .i64 y) [(.arr 3 (List.map aE x1) 0 0 false),(.row [(.int .i64 x2)])]
theorem kY (x1:Ty8) (x2:Int) (y:(Sum (Unit) (Int))):∀(k:Nat) (cX:Int),bY k x1 x2 cX=some y→LT Try.prog (X92 x1 x2) L92_0 (S92_0 x1 x2 cX) (O92_0 x1 x2 y)
 | 0,cX,h=>by cases h
 | k+1,cX,h=>by
  rw[bY] at h
  by_cases cL0:ltI cX (nI x1.length)=true
  · rw[if_pos cL0] at h
    by_cases cL1:inI cX x1.length=true
    · rw[if_pos cL1] at h
      obtain⟨iS,eL2,h⟩:=bsm h
      by_cases cL3:eqI iS.2.1 x2=true
      · rw[if_pos cL3] at h
        obtain rfl:=osi h
        show LT _ _ _ _ (.fin (.int .i64 cX) [(.arr 3 (List.map aE x1) 0 0 false),(.row [(.int .i64 x2)])])
        exact LT.done aH (hs:=⟨[],[],false,[],[]⟩) (es:=none) [dt,.row [(.int .u8 iS.1),(.int .i64 iS.2.1),(.bool iS.2.2)],.call ⟨false,[]⟩ (.bool (eqI iS.2.1 x2)) [(.row [(.int .i64 x2)])],dt,.norm 0 ⟨[(4,[])],[],false,[],[]⟩] [⟨cL3⟩,⟨(qV iS.1 iS.2.1 iS.2.2 x2)⟩,⟨(aN (e:=aE) eL2 3 0 3 (by decide))⟩,⟨cL1⟩,⟨cL0⟩] (by kernel_rfl) (fun s h=>by cases h)
      rw[if_neg cL3] at h;replace cL3:=eqf cL3
      exact LT.next aH (hs:=⟨[(0,[]),(1,[]),(7,[]),(8,[])],[],false,[],[]⟩) (es:=none) [dt,.row [(.int .u8 iS.1),(.int .i64 iS.2.1),(.bool iS.2.2)],.call ⟨false,[]⟩ (.bool (eqI iS.2.1 x2)) [(.row [(.int .i64 x2)])],df] [⟨cL3⟩,⟨(qV iS.1 iS.2.1 iS.2.2 x2)⟩,⟨(aN (e:=aE) eL2 3 0 3 (by decide))⟩,⟨cL1⟩,⟨cL0⟩] (by kernel_rfl) (kY x1 x2 y k (aM .i64 cX 1) h)
    rw[if_neg cL1] at h;replace cL1:=eqf cL1
    cases h
  rw[if_neg cL0] at h;replace cL0:=eqf cL0
  obtain rfl:=osi h
  show LT _ _ _ _ (.st (.exit 0) (aI3 x1 x2))
  exact LT.done aH (hs:=⟨[],[],false,[],[]⟩) (es:=(some ⟨[],[],false,[],[]⟩)) [df] [⟨cL0⟩] (by kernel_rfl) (fun s h=>by cases h)
theorem mO (k:Nat) (x1:Ty8) (x2:Int) (r:Int) (h:iU k x1 x2=some r):Tri Try.prog 92 [(.ref 3 0 0 0 x1.length .virt),(.fn 78 [(.hp 1 0)])] [(.arr 3 (List.map aE x1) 0 0 false),(.row [(.int .i64 x2)])] (.int .i64 r) [(.arr 3 (List.map aE x1) 0 0 false),(.row [(.int .i64 x2)])]:=by
 unfold iU at h
 obtain⟨x3,e0,h⟩:=bsm h
 cases x3 with
 | inl x4 =>
  simp only[Sum.elim_inl] at h
  obtain rfl:=osi h
  exact Tri.of (x:=(X92 x1 x2)) aH aNZ [.norm 2 ⟨[(0,[]),(1,[]),(7,[]),(8,[])],[],false,[],[]⟩,.out (.st .normal (aI3 x1 x2)),.norm 0 ⟨[(4,[])],[],false,[],[]⟩] [⟨(LT.block (kY x1 x2 _ k 0 e0))⟩] (by kernel_rfl)
 | inr x4 =>
  simp only[Sum.elim_inr] at h
  obtain rfl:=osi h
  exact Tri.of (x:=(X92 x1 x2)) aH aNZ [.norm 2 ⟨[(0,[]),(1,[]),(7,[]),(8,[])],[],false,[],[]⟩,.out (.fin (.int .i64 x4) [(.arr 3 (List.map aE x1) 0 0 false),(.row [(.int .i64 x2)])])] [⟨(LT.blockFin (id:=0) (kY x1 x2 _ k 0 e0))⟩] (by kernel_rfl)
end Go.Ws

namespace Go.Ws
open Go.Proofs
set_option linter.unusedSimpArgs false
set_option linter.unusedVariables false
set_option maxRecDepth 1000000
set_option maxHeartbeats 4000000
noncomputable def X77 (x1:Ty8) (x2:Int):Ctx:=⟨Try.f77,[(.arr 3 (List.map aE x1) 0 0 false),(.row [(.int .i64 x2)])],false⟩
noncomputable def L77_0:Code:=at_ Try.f77 [1,1,1,0,1,4,5]
def S77_0 (x1:Ty8) (x2:Int) (cY:Int) (cL:Int) (cZ:Ty8):St:=⟨mkT 42 [(0,(.ref 3 0 0 0 x1.length .virt)),(1,(.fn 78 [(.hp 1 0)])),(5,(.int .i64 cL)),(6,(.int .i64 cY))],[(.arr 3 (List.map aE cZ) 0 0 false),(.row [(.int .i64 x2)])]⟩
def aEV (x1:Ty8) (x2:Int) (v77002_1:Int) (v77002_2:Ty8):St:=⟨mkT 42 [(0,(.ref 3 0 0 0 x1.length .virt)),(5,(.int .i64 v77002_1))],[(.arr 3 (List.map aE v77002_2) 0 0 false),(.row [(.int .i64 x2)])]⟩
def O77_0 (x1:Ty8) (x2:Int) (y:(Int × Ty8)):GX:=.st (.exit 0) (aEV x1 x2 y.1 y.2)
def A77_0 (x1:Ty8) (x2:Int) (x3:Int):Ans:=.call ⟨false,[]⟩ (.int .i64 x3) [(.arr 3 (List.map aE x1) 0 0 false),(.row [(.int .i64 x2)])]
theorem jR (x1:Ty8) (x2:Int) (y:(Int × Ty8)):∀(k:Nat) (cY:Int) (cL:Int) (cZ:Ty8),cC k x1 x2 cY cL cZ=some y→LT Try.prog (X77 x1 x2) L77_0 (S77_0 x1 x2 cY cL cZ) (O77_0 x1 x2 y)
 | 0,cY,cL,cZ,h=>by cases h
 | k+1,cY,cL,cZ,h=>by
  rw[cC] at h
  by_cases cL0:ltI cY (nI x1.length)=true
  · rw[if_pos cL0] at h
    by_cases cL1:inI cY x1.length=true
    · rw[if_pos cL1] at h
      obtain⟨eV,eL2,h⟩:=bsm h
      by_cases cL3:eqI eV.2.1 x2=true
      · rw[if_pos cL3] at h
        exact LT.next aH (hs:=⟨[(0,[]),(1,[]),(5,[]),(6,[])],[],false,[],[]⟩) (es:=none) [dt,.row [(.int .u8 eV.1),(.int .i64 eV.2.1),(.bool eV.2.2)],.call ⟨false,[]⟩ (.bool (eqI eV.2.1 x2)) [(.row [(.int .i64 x2)])],df] [⟨(nF cL3)⟩,⟨(qV eV.1 eV.2.1 eV.2.2 x2)⟩,⟨(aN (e:=aE) eL2 3 0 3 (by decide))⟩,⟨cL1⟩,⟨cL0⟩] (by kernel_rfl) (jR x1 x2 y k (aM .i64 cY 1) cL cZ h)
      rw[if_neg cL3] at h;replace cL3:=eqf cL3
      by_cases cL4:inI cL x1.length=true
      · rw[if_pos cL4] at h
        obtain⟨aLS,eL5,h⟩:=bsm h
        exact LT.next aH (hs:=⟨[(0,[]),(1,[]),(5,[]),(6,[])],[],false,[],[]⟩) (es:=none) [dt,.row [(.int .u8 eV.1),(.int .i64 eV.2.1),(.bool eV.2.2)],.call ⟨false,[]⟩ (.bool (eqI eV.2.1 x2)) [(.row [(.int .i64 x2)])],dt,.rows (List.map aE (List.set cZ (tN cL) eV))] [⟨(rN (e:=aE) eL5 0 [(.int .u8 eV.1),(.int .i64 eV.2.1),(.bool eV.2.2)] eV rfl)⟩,⟨cL4⟩,⟨(nT cL3)⟩,⟨(qV eV.1 eV.2.1 eV.2.2 x2)⟩,⟨(aN (e:=aE) eL2 3 0 3 (by decide))⟩,⟨cL1⟩,⟨cL0⟩] (by kernel_rfl) (jR x1 x2 y k (aM .i64 cY 1) (aM .i64 cL 1) (List.set cZ (tN cL) eV) h)
      rw[if_neg cL4] at h;replace cL4:=eqf cL4
      cases h
    rw[if_neg cL1] at h;replace cL1:=eqf cL1
    cases h
  rw[if_neg cL0] at h;replace cL0:=eqf cL0
  obtain rfl:=osi h
  show LT _ _ _ _ (.st (.exit 0) (aEV x1 x2 cL cZ))
  exact LT.done aH (hs:=⟨[],[],false,[],[]⟩) (es:=(some ⟨[(0,[]),(5,[])],[],false,[],[]⟩)) [df] [⟨cL0⟩] (by kernel_rfl) (fun s h=>by cases h)
theorem yC (k:Nat) (x1:Ty8) (x2:Int) (r:Nat × Ty8) (h:jN k x1 x2=some r):Tri Try.prog 77 [(.ref 3 0 0 0 x1.length .virt),(.fn 78 [(.hp 1 0)])] [(.arr 3 (List.map aE x1) 0 0 false),(.row [(.int .i64 x2)])] (.ref 3 0 0 0 r.1 .virt) [(.arr 3 (List.map aE r.2) 0 0 false),(.row [(.int .i64 x2)])]:=by
 unfold jN at h
 obtain⟨x3,e0,h⟩:=bsm h
 by_cases c1:eqI x3 (-1)=true
 · rw[if_pos c1] at h
   obtain rfl:=osi h
   exact Tri.of (x:=(X77 x1 x2)) aH aJ2 [(A77_0 x1 x2 x3),dt,.norm 0 ⟨[(4,[])],[],false,[],[]⟩] [⟨c1⟩,⟨(mO k x1 x2 _ e0)⟩] (by kernel_rfl)
 rw[if_neg c1] at h;replace c1:=eqf c1
 obtain⟨x5,e2,h⟩:=bsm h
 by_cases c4:isZ x1.length=true
 · rw[if_pos c4] at h
   cases h
 rw[if_neg c4] at h;replace c4:=eqf c4
 by_cases c5:s6 x1.length x5.2.length=true
 · rw[if_pos c5] at h
   by_cases c6:leI x5.1 x1.length=true
   · rw[if_pos c6] at h
     by_cases c7:isZ (x1.length - (tN x5.1))=true
     · rw[if_pos c7] at h
       by_cases c8:leI x5.1 x5.2.length=true
       · rw[if_pos c8] at h
         obtain rfl:=osi h
         exact Tri.of (x:=(X77 x1 x2)) aH aJ2 [(A77_0 x1 x2 x3),df,.norm 2 ⟨[(0,[]),(1,[]),(5,[]),(6,[])],[],false,[],[]⟩,.out (.st .normal (aEV x1 x2 x5.1 x5.2)),df,.n x5.2.length,.n x5.2.length,.n (tN x5.1),.n (x1.length - (tN x5.1)),dt,df,.n x5.2.length,.n x5.2.length,.n 0,.n (tN x5.1),.norm 0 ⟨[(4,[])],[],false,[],[]⟩] [⟨(rfl:(tN x5.1) - 0=tN x5.1)⟩,⟨((Nat.zero_add _):0+0=0)⟩,⟨c8⟩,⟨(rfl:x5.2.length - 0=x5.2.length)⟩,⟨(aE1 ((aDA c5):x1.length≤x5.2.length))⟩,⟨(aK aE x5.2)⟩,⟨c4⟩,⟨c7⟩,⟨(rfl:x1.length - (tN x5.1)=x1.length - (tN x5.1))⟩,⟨((Nat.zero_add _):0+(tN x5.1)=tN x5.1)⟩,⟨c6⟩,⟨(rfl:x5.2.length - 0=x5.2.length)⟩,⟨(aE1 ((aDA c5):x1.length≤x5.2.length))⟩,⟨(aK aE x5.2)⟩,⟨c4⟩,⟨(LT.block (jR x1 x2 _ k (aM .i64 x3 1) x3 x1 e2))⟩,⟨c1⟩,⟨(mO k x1 x2 _ e0)⟩] (by kernel_rfl)
       rw[if_neg c8] at h;replace c8:=eqf c8
       cases h
     rw[if_neg c7] at h;replace c7:=eqf c7
     by_cases c8:s6 (tN x5.1+(x1.length - (tN x5.1))) x5.2.length=true
     · rw[if_pos c8] at h
       by_cases c9:s6 (tN x5.1) x5.2.length=true
       · rw[if_pos c9] at h
         by_cases c10:s6 x1.length ((((List.take (tN x5.1) x5.2)++(List.replicate (x1.length - (tN x5.1)) (0,0,false)))++(List.drop (tN x5.1+(x1.length - (tN x5.1))) x5.2)).length)=true
         · rw[if_pos c10] at h
           by_cases c11:leI x5.1 ((((List.take (tN x5.1) x5.2)++(List.replicate (x1.length - (tN x5.1)) (0,0,false)))++(List.drop (tN x5.1+(x1.length - (tN x5.1))) x5.2)).length)=true
           · rw[if_pos c11] at h
             obtain rfl:=osi h
             exact Tri.of (x:=(X77 x1 x2)) aH aJ2 [(A77_0 x1 x2 x3),df,.norm 2 ⟨[(0,[]),(1,[]),(5,[]),(6,[])],[],false,[],[]⟩,.out (.st .normal (aEV x1 x2 x5.1 x5.2)),df,.n x5.2.length,.n x5.2.length,.n (tN x5.1),.n (x1.length - (tN x5.1)),df,.rows (List.map aE (((List.take (tN x5.1) x5.2)++(List.replicate (x1.length - (tN x5.1)) (0,0,false)))++(List.drop (tN x5.1+(x1.length - (tN x5.1))) x5.2))),df,.n ((((List.take (tN x5.1) x5.2)++(List.replicate (x1.length - (tN x5.1)) (0,0,false)))++(List.drop (tN x5.1+(x1.length - (tN x5.1))) x5.2)).length),.n ((((List.take (tN x5.1) x5.2)++(List.replicate (x1.length - (tN x5.1)) (0,0,false)))++(List.drop (tN x5.1+(x1.length - (tN x5.1))) x5.2)).length),.n 0,.n (tN x5.1),.norm 0 ⟨[(4,[])],[],false,[],[]⟩] [⟨(rfl:(tN x5.1) - 0=tN x5.1)⟩,⟨((Nat.zero_add _):0+0=0)⟩,⟨c11⟩,⟨(rfl:((((List.take (tN x5.1) x5.2)++(List.replicate (x1.length - (tN x5.1)) (0,0,false)))++(List.drop (tN x5.1+(x1.length - (tN x5.1))) x5.2)).length) - 0=(((List.take (tN x5.1) x5.2)++(List.replicate (x1.length - (tN x5.1)) (0,0,false)))++(List.drop (tN x5.1+(x1.length - (tN x5.1))) x5.2)).length)⟩,⟨(aE1 ((aDA c10):x1.length≤(((List.take (tN x5.1) x5.2)++(List.replicate (x1.length - (tN x5.1)) (0,0,false)))++(List.drop (tN x5.1+(x1.length - (tN x5.1))) x5.2)).length))⟩,⟨(aK aE (((List.take (tN x5.1) x5.2)++(List.replicate (x1.length - (tN x5.1)) (0,0,false)))++(List.drop (tN x5.1+(x1.length - (tN x5.1))) x5.2)))⟩,⟨c4⟩,⟨(aP1 aE x5.2 (tN x5.1) (x1.length - (tN x5.1)) (0,0,false))⟩,⟨(le_mapI aE (aDA c8))⟩,⟨c7⟩,⟨(rfl:x1.length - (tN x5.1)=x1.length - (tN x5.1))⟩,⟨((Nat.zero_add _):0+(tN x5.1)=tN x5.1)⟩,⟨c6⟩,⟨(rfl:x5.2.length - 0=x5.2.length)⟩,⟨(aE1 ((aDA c5):x1.length≤x5.2.length))⟩,⟨(aK aE x5.2)⟩,⟨c4⟩,⟨(LT.block (jR x1 x2 _ k (aM .i64 x3 1) x3 x1 e2))⟩,⟨c1⟩,⟨(mO k x1 x2 _ e0)⟩] (by kernel_rfl)
           rw[if_neg c11] at h;replace c11:=eqf c11
           cases h
         rw[if_neg c10] at h;replace c10:=eqf c10
         cases h
       rw[if_neg c9] at h;replace c9:=eqf c9
       cases h
     rw[if_neg c8] at h;replace c8:=eqf c8
     cases h
   rw[if_neg c6] at h;replace c6:=eqf c6
   cases h
 rw[if_neg c5] at h;replace c5:=eqf c5
 cases h
end Go.Ws

namespace Go.Ws
open Go.Proofs
set_option linter.unusedSimpArgs false
set_option linter.unusedVariables false
set_option maxRecDepth 1000000
set_option maxHeartbeats 4000000
noncomputable def X61:Ctx:=⟨Try.f61,[],true⟩
theorem tJ (k:Nat) (x1:Ty8) (x2:Int) (r:Ty8) (h:oT k x1 x2=some r):Tri Try.prog 61 [(.sl 3 (List.map aE x1)),(.int .i64 x2)] [] (.sl 3 (List.map aE r)) []:=by
 unfold oT at h
 obtain⟨x3,e0,h⟩:=bsm h
 obtain⟨x4,e1,h⟩:=bsm h
 by_cases c2:s6 x4.1 x4.2.length=true
 · rw[if_pos c2] at h
   obtain rfl:=osi h
   exact Tri.of (x:=X61) aH facts61 [.call ⟨true,[]⟩ (.ref 3 0 0 0 x1.length .virt) [(.arr 3 (List.map aE x1) 0 0 false)],.call ⟨false,[]⟩ (.ref 3 0 0 0 x4.1 .virt) [(.arr 3 (List.map aE x4.2) 0 0 false),(.row [(.int .i64 x2)])],.rows (List.map aE (List.take x4.1 x4.2))] [⟨(aP6 aE x4.2 x4.1)⟩,⟨(b8 aE (aDA c2))⟩,⟨(yC k x1 x2 _ e1)⟩,⟨(jS k x1 _ e0)⟩] (by kernel_rfl)
 rw[if_neg c2] at h;replace c2:=eqf c2
 cases h
end Go.Ws

namespace Go.Ws
open Go.Proofs
set_option linter.unusedSimpArgs false
set_option linter.unusedVariables false
set_option maxRecDepth 1000000
set_option maxHeartbeats 4000000
noncomputable def X59:Ctx:=⟨Try.f59,[],true⟩
def A59_0 (x5:Int × aL × Bool × Int):Ans:=.call ⟨true,[]⟩ (.agg [(.int .i64 x5.1),(.sl 2 (List.map aB x5.2.1)),(.bool x5.2.2.1),(.int .i64 x5.2.2.2)]) []
def A59_1:Ans:=.norm 0 ⟨[(2,[]),(3,[(0,2)]),(4,[])],[⟨.tmp 2,[],none⟩],false,[],[]⟩
theorem aAF (k:Nat) (x1:Int) (x2:aL) (x3:Bool) (x4:Int) (r:Int × aL × Bool × Int × aL × Int) (h:rR k x1 x2 x3 x4=some r):Tri Try.prog 59 [(.agg [(.int .i64 x1),(.sl 2 (List.map aB x2)),(.bool x3),(.int .i64 x4)])] [] (.tup [(.agg [(.int .i64 r.1),(.sl 2 (List.map aB r.2.1)),(.bool r.2.2.1),(.int .i64 r.2.2.2.1)]),(.sl 2 (List.map aB r.2.2.2.2.1)),(.int .i64 r.2.2.2.2.2)]) []:=by
 unfold rR at h
 obtain⟨x5,e0,h⟩:=bsm h
 obtain⟨x6,e1,h⟩:=bsm h
 by_cases c2:x6=true
 · rw[if_pos c2] at h
   by_cases c3:eqI x5.1 1=true
   · rw[if_pos c3] at h
     by_cases c4:x5.2.2.1=true
     · rw[if_pos c4] at h
       obtain rfl:=osi h
       exact Tri.of (x:=X59) aH aEN [(A59_0 x5),.call ⟨true,[]⟩ (.bool x6) [],df,df,dt,A59_1] [⟨c4⟩,⟨(nF c3)⟩,⟨(nF c2)⟩,⟨(bM k x5.1 x5.2.1 x5.2.2.1 x5.2.2.2 _ e1)⟩,⟨(bD k x1 x2 x3 x4 _ e0)⟩] (by kernel_rfl)
     rw[if_neg c4] at h;replace c4:=eqf c4
     obtain⟨x7,e5,h⟩:=bsm h
     obtain rfl:=osi h
     exact Tri.of (x:=X59) aH aEN [(A59_0 x5),.call ⟨true,[]⟩ (.bool x6) [],df,df,df,.call ⟨true,[]⟩ (.ref 2 0 0 0 x5.2.1.length .virt) [(.arr 2 (List.map aB x5.2.1) 0 0 false)],.rows (List.map aB x5.2.1)] [⟨(bA aB (l:=x5.2.1) (n:=x5.2.1.length) rfl)⟩,⟨(b8 aB (Nat.le_refl x5.2.1.length):0+x5.2.1.length≤(List.map aB x5.2.1).length)⟩,⟨(hI k x5.2.1 _ e5)⟩,⟨c4⟩,⟨(nF c3)⟩,⟨(nF c2)⟩,⟨(bM k x5.1 x5.2.1 x5.2.2.1 x5.2.2.2 _ e1)⟩,⟨(bD k x1 x2 x3 x4 _ e0)⟩] (by kernel_rfl)
   rw[if_neg c3] at h;replace c3:=eqf c3
   obtain rfl:=osi h
   exact Tri.of (x:=X59) aH aEN [(A59_0 x5),.call ⟨true,[]⟩ (.bool x6) [],df,dt,A59_1] [⟨(nT c3)⟩,⟨(nF c2)⟩,⟨(bM k x5.1 x5.2.1 x5.2.2.1 x5.2.2.2 _ e1)⟩,⟨(bD k x1 x2 x3 x4 _ e0)⟩] (by kernel_rfl)
 rw[if_neg c2] at h;replace c2:=eqf c2
 obtain rfl:=osi h
 exact Tri.of (x:=X59) aH aEN [(A59_0 x5),.call ⟨true,[]⟩ (.bool x6) [],dt,A59_1] [⟨(nT c2)⟩,⟨(bM k x5.1 x5.2.1 x5.2.2.1 x5.2.2.2 _ e1)⟩,⟨(bD k x1 x2 x3 x4 _ e0)⟩] (by kernel_rfl)
end Go.Ws

namespace Go.Ws
open Go.Proofs
set_option linter.unusedSimpArgs false
set_option linter.unusedVariables false
set_option maxRecDepth 1000000
set_option maxHeartbeats 4000000
theorem uT (k:Nat) (x1:aL) (r:aL) (h:mE k x1=some r):Tri Try.prog 76 [(.sl 2 (List.map aB x1))] [] (.ref 2 0 0 0 r.length .virt) [(.arr 2 (List.map aB r) 0 0 false)]:=opp_tri h
end Go.Ws

namespace Go.Ws
open Go.Proofs
set_option linter.unusedSimpArgs false
set_option linter.unusedVariables false
set_option maxRecDepth 1000000
set_option maxHeartbeats 4000000
noncomputable def X60:Ctx:=⟨Try.f60,[],true⟩
def wD (x6:Int × aL × Bool × Int):Ans:=.call ⟨true,[]⟩ (.agg [(.int .i64 x6.1),(.sl 2 (List.map aB x6.2.1)),(.bool x6.2.2.1),(.int .i64 x6.2.2.2)]) []
def aCP:Ans:=.norm 0 ⟨[(4,[]),(5,[(0,2)]),(6,[])],[⟨.tmp 4,[],none⟩],false,[],[]⟩
theorem qK (k:Nat) (x1:Int) (x2:aL) (x3:Bool) (x4:Int) (x5:Int) (r:Int × aL × Bool × Int × aL × Int) (h:nX k x1 x2 x3 x4 x5=some r):Tri Try.prog 60 [(.agg [(.int .i64 x1),(.sl 2 (List.map aB x2)),(.bool x3),(.int .i64 x4)]),(.int .i64 x5)] [] (.tup [(.agg [(.int .i64 r.1),(.sl 2 (List.map aB r.2.1)),(.bool r.2.2.1),(.int .i64 r.2.2.2.1)]),(.sl 2 (List.map aB r.2.2.2.2.1)),(.int .i64 r.2.2.2.2.2)]) []:=by
 unfold nX at h
 obtain⟨x6,e0,h⟩:=bsm h
 obtain⟨x7,e1,h⟩:=bsm h
 by_cases c2:x7=true
 · rw[if_pos c2] at h
   by_cases c3:eqI x5 1=true
   · rw[if_pos c3] at h
     by_cases c4:eqI x6.2.2.2 x5=true
     · rw[if_pos c4] at h
       obtain rfl:=osi h
       exact Tri.of (x:=X60) aH oR [(wD x6),.call ⟨true,[]⟩ (.bool x7) [],df,df,df,df,df,df,df,df,df,dt,aCP] [⟨c4⟩,⟨rF⟩,⟨(nF c2)⟩,⟨(nF c3)⟩,⟨(nF c2)⟩,⟨(nF c3)⟩,⟨(nF c3)⟩,⟨(nF c2)⟩,⟨(nF c2)⟩,⟨(nF c2)⟩,⟨(bM k x6.1 x6.2.1 x6.2.2.1 x6.2.2.2 _ e1)⟩,⟨(bD k x1 x2 x3 x4 _ e0)⟩] (by kernel_rfl)
     rw[if_neg c4] at h;replace c4:=eqf c4
     by_cases c5:eqI x6.1 3=true
     · rw[if_pos c5] at h
       obtain rfl:=osi h
       exact Tri.of (x:=X60) aH oR [(wD x6),.call ⟨true,[]⟩ (.bool x7) [],df,df,df,df,df,df,df,df,df,df,dt,dt,dt,dt,dt,dt,aCP] [⟨rT⟩,⟨c5⟩,⟨c5⟩,⟨c5⟩,⟨c5⟩,⟨c5⟩,⟨c4⟩,⟨rF⟩,⟨(nF c2)⟩,⟨(nF c3)⟩,⟨(nF c2)⟩,⟨(nF c3)⟩,⟨(nF c3)⟩,⟨(nF c2)⟩,⟨(nF c2)⟩,⟨(nF c2)⟩,⟨(bM k x6.1 x6.2.1 x6.2.2.1 x6.2.2.2 _ e1)⟩,⟨(bD k x1 x2 x3 x4 _ e0)⟩] (by kernel_rfl)
     rw[if_neg c5] at h;replace c5:=eqf c5
     by_cases c6:eqI x6.1 1=true
     · rw[if_pos c6] at h
       by_cases c7:eqB (eqI x5 1) x6.2.2.1=true
       · rw[if_pos c7] at h
         obtain rfl:=osi h
         exact Tri.of (x:=X60) aH oR [(wD x6),.call ⟨true,[]⟩ (.bool x7) [],df,df,df,df,df,df,df,df,df,df,df,df,df,dt,dt,dt,df,dt,df,df,dt,aCP] [⟨c7⟩,⟨(nF c6)⟩,⟨c5⟩,⟨c3⟩,⟨c5⟩,⟨c3⟩,⟨c3⟩,⟨c3⟩,⟨c5⟩,⟨c5⟩,⟨c5⟩,⟨c4⟩,⟨rF⟩,⟨(nF c2)⟩,⟨(nF c3)⟩,⟨(nF c2)⟩,⟨(nF c3)⟩,⟨(nF c3)⟩,⟨(nF c2)⟩,⟨(nF c2)⟩,⟨(nF c2)⟩,⟨(bM k x6.1 x6.2.1 x6.2.2.1 x6.2.2.2 _ e1)⟩,⟨(bD k x1 x2 x3 x4 _ e0)⟩] (by kernel_rfl)
       rw[if_neg c7] at h;replace c7:=eqf c7
       by_cases c8:x6.2.2.1=true
       · rw[if_pos c8] at h
         obtain⟨x8,e9,h⟩:=bsm h
         obtain rfl:=osi h
         exact Tri.of (x:=X60) aH oR [(wD x6),.call ⟨true,[]⟩ (.bool x7) [],df,df,df,df,df,df,df,df,df,df,df,df,df,dt,dt,dt,df,dt,df,df,df,dt,.call ⟨true,[]⟩ (.ref 2 0 0 0 x8.length .virt) [(.arr 2 (List.map aB x8) 0 0 false)],.rows (List.map aB x8)] [⟨(bA aB (l:=x8) (n:=x8.length) rfl)⟩,⟨(b8 aB (Nat.le_refl x8.length):0+x8.length≤(List.map aB x8).length)⟩,⟨(uT k x6.2.1 _ e9)⟩,⟨c8⟩,⟨c7⟩,⟨(nF c6)⟩,⟨c5⟩,⟨c3⟩,⟨c5⟩,⟨c3⟩,⟨c3⟩,⟨c3⟩,⟨c5⟩,⟨c5⟩,⟨c5⟩,⟨c4⟩,⟨rF⟩,⟨(nF c2)⟩,⟨(nF c3)⟩,⟨(nF c2)⟩,⟨(nF c3)⟩,⟨(nF c3)⟩,⟨(nF c2)⟩,⟨(nF c2)⟩,⟨(nF c2)⟩,⟨(bM k x6.1 x6.2.1 x6.2.2.1 x6.2.2.2 _ e1)⟩,⟨(bD k x1 x2 x3 x4 _ e0)⟩] (by kernel_rfl)
       rw[if_neg c8] at h;replace c8:=eqf c8
       obtain⟨x8,e9,h⟩:=bsm h
       obtain rfl:=osi h
       exact Tri.of (x:=X60) aH oR [(wD x6),.call ⟨true,[]⟩ (.bool x7) [],df,df,df,df,df,df,df,df,df,df,df,df,df,dt,dt,dt,df,dt,df,df,df,df,.call ⟨true,[]⟩ (.ref 2 0 0 0 x6.2.1.length .virt) [(.arr 2 (List.map aB x6.2.1) 0 0 false)],.rows (List.map aB x6.2.1)] [⟨(bA aB (l:=x6.2.1) (n:=x6.2.1.length) rfl)⟩,⟨(b8 aB (Nat.le_refl x6.2.1.length):0+x6.2.1.length≤(List.map aB x6.2.1).length)⟩,⟨(hI k x6.2.1 _ e9)⟩,⟨c8⟩,⟨c7⟩,⟨(nF c6)⟩,⟨c5⟩,⟨c3⟩,⟨c5⟩,⟨c3⟩,⟨c3⟩,⟨c3⟩,⟨c5⟩,⟨c5⟩,⟨c5⟩,⟨c4⟩,⟨rF⟩,⟨(nF c2)⟩,⟨(nF c3)⟩,⟨(nF c2)⟩,⟨(nF c3)⟩,⟨(nF c3)⟩,⟨(nF c2)⟩,⟨(nF c2)⟩,⟨(nF c2)⟩,⟨(bM k x6.1 x6.2.1 x6.2.2.1 x6.2.2.2 _ e1)⟩,⟨(bD k x1 x2 x3 x4 _ e0)⟩] (by kernel_rfl)
     rw[if_neg c6] at h;replace c6:=eqf c6
     obtain rfl:=osi h
     exact Tri.of (x:=X60) aH oR [(wD x6),.call ⟨true,[]⟩ (.bool x7) [],df,df,df,df,df,df,df,df,df,df,df,df,df,dt,dt,dt,df,dt,df,dt,aCP] [⟨(nT c6)⟩,⟨c5⟩,⟨c3⟩,⟨c5⟩,⟨c3⟩,⟨c3⟩,⟨c3⟩,⟨c5⟩,⟨c5⟩,⟨c5⟩,⟨c4⟩,⟨rF⟩,⟨(nF c2)⟩,⟨(nF c3)⟩,⟨(nF c2)⟩,⟨(nF c3)⟩,⟨(nF c3)⟩,⟨(nF c2)⟩,⟨(nF c2)⟩,⟨(nF c2)⟩,⟨(bM k x6.1 x6.2.1 x6.2.2.1 x6.2.2.2 _ e1)⟩,⟨(bD k x1 x2 x3 x4 _ e0)⟩] (by kernel_rfl)
   rw[if_neg c3] at h;replace c3:=eqf c3
   by_cases c4:eqI x5 2=true
   · rw[if_pos c4] at h
     by_cases c5:eqI x6.2.2.2 x5=true
     · rw[if_pos c5] at h
       obtain rfl:=osi h
       exact Tri.of (x:=X60) aH oR [(wD x6),.call ⟨true,[]⟩ (.bool x7) [],df,df,df,dt,dt,df,dt,df,df,dt,aCP] [⟨c5⟩,⟨(nF c4)⟩,⟨(nF c2)⟩,⟨(nT c3)⟩,⟨(nF c2)⟩,⟨(nT c3)⟩,⟨(nT c3)⟩,⟨(nF c2)⟩,⟨(nF c2)⟩,⟨(nF c2)⟩,⟨(bM k x6.1 x6.2.1 x6.2.2.1 x6.2.2.2 _ e1)⟩,⟨(bD k x1 x2 x3 x4 _ e0)⟩] (by kernel_rfl)
     rw[if_neg c5] at h;replace c5:=eqf c5
     by_cases c6:eqI x6.1 3=true
     · rw[if_pos c6] at h
       obtain rfl:=osi h
       exact Tri.of (x:=X60) aH oR [(wD x6),.call ⟨true,[]⟩ (.bool x7) [],df,df,df,dt,dt,df,dt,df,df,df,dt,dt,dt,dt,dt,dt,aCP] [⟨rT⟩,⟨c6⟩,⟨c6⟩,⟨c6⟩,⟨c6⟩,⟨c6⟩,⟨c5⟩,⟨(nF c4)⟩,⟨(nF c2)⟩,⟨(nT c3)⟩,⟨(nF c2)⟩,⟨(nT c3)⟩,⟨(nT c3)⟩,⟨(nF c2)⟩,⟨(nF c2)⟩,⟨(nF c2)⟩,⟨(bM k x6.1 x6.2.1 x6.2.2.1 x6.2.2.2 _ e1)⟩,⟨(bD k x1 x2 x3 x4 _ e0)⟩] (by kernel_rfl)
     rw[if_neg c6] at h;replace c6:=eqf c6
     by_cases c7:eqB (eqI x5 1) x6.2.2.1=true
     · rw[if_pos c7] at h
       obtain rfl:=osi h
       exact Tri.of (x:=X60) aH oR [(wD x6),.call ⟨true,[]⟩ (.bool x7) [],df,df,df,dt,dt,df,dt,df,df,df,df,df,df,df,df,df,df,df,df,df,dt,aCP] [⟨c7⟩,⟨rF⟩,⟨c6⟩,⟨c3⟩,⟨c6⟩,⟨c3⟩,⟨c3⟩,⟨c3⟩,⟨c6⟩,⟨c6⟩,⟨c6⟩,⟨c5⟩,⟨(nF c4)⟩,⟨(nF c2)⟩,⟨(nT c3)⟩,⟨(nF c2)⟩,⟨(nT c3)⟩,⟨(nT c3)⟩,⟨(nF c2)⟩,⟨(nF c2)⟩,⟨(nF c2)⟩,⟨(bM k x6.1 x6.2.1 x6.2.2.1 x6.2.2.2 _ e1)⟩,⟨(bD k x1 x2 x3 x4 _ e0)⟩] (by kernel_rfl)
     rw[if_neg c7] at h;replace c7:=eqf c7
     by_cases c8:x6.2.2.1=true
     · rw[if_pos c8] at h
       obtain⟨x8,e9,h⟩:=bsm h
       obtain rfl:=osi h
       exact Tri.of (x:=X60) aH oR [(wD x6),.call ⟨true,[]⟩ (.bool x7) [],df,df,df,dt,dt,df,dt,df,df,df,df,df,df,df,df,df,df,df,df,df,df,dt,.call ⟨true,[]⟩ (.ref 2 0 0 0 x8.length .virt) [(.arr 2 (List.map aB x8) 0 0 false)],.rows (List.map aB x8)] [⟨(bA aB (l:=x8) (n:=x8.length) rfl)⟩,⟨(b8 aB (Nat.le_refl x8.length):0+x8.length≤(List.map aB x8).length)⟩,⟨(uT k x6.2.1 _ e9)⟩,⟨c8⟩,⟨c7⟩,⟨rF⟩,⟨c6⟩,⟨c3⟩,⟨c6⟩,⟨c3⟩,⟨c3⟩,⟨c3⟩,⟨c6⟩,⟨c6⟩,⟨c6⟩,⟨c5⟩,⟨(nF c4)⟩,⟨(nF c2)⟩,⟨(nT c3)⟩,⟨(nF c2)⟩,⟨(nT c3)⟩,⟨(nT c3)⟩,⟨(nF c2)⟩,⟨(nF c2)⟩,⟨(nF c2)⟩,⟨(bM k x6.1 x6.2.1 x6.2.2.1 x6.2.2.2 _ e1)⟩,⟨(bD k x1 x2 x3 x4 _ e0)⟩] (by kernel_rfl)
     rw[if_neg c8] at h;replace c8:=eqf c8
     obtain⟨x8,e9,h⟩:=bsm h
     obtain rfl:=osi h
     exact Tri.of (x:=X60) aH oR [(wD x6),.call ⟨true,[]⟩ (.bool x7) [],df,df,df,dt,dt,df,dt,df,df,df,df,df,df,df,df,df,df,df,df,df,df,df,.call ⟨true,[]⟩ (.ref 2 0 0 0 x6.2.1.length .virt) [(.arr 2 (List.map aB x6.2.1) 0 0 false)],.rows (List.map aB x6.2.1)] [⟨(bA aB (l:=x6.2.1) (n:=x6.2.1.length) rfl)⟩,⟨(b8 aB (Nat.le_refl x6.2.1.length):0+x6.2.1.length≤(List.map aB x6.2.1).length)⟩,⟨(hI k x6.2.1 _ e9)⟩,⟨c8⟩,⟨c7⟩,⟨rF⟩,⟨c6⟩,⟨c3⟩,⟨c6⟩,⟨c3⟩,⟨c3⟩,⟨c3⟩,⟨c6⟩,⟨c6⟩,⟨c6⟩,⟨c5⟩,⟨(nF c4)⟩,⟨(nF c2)⟩,⟨(nT c3)⟩,⟨(nF c2)⟩,⟨(nT c3)⟩,⟨(nT c3)⟩,⟨(nF c2)⟩,⟨(nF c2)⟩,⟨(nF c2)⟩,⟨(bM k x6.1 x6.2.1 x6.2.2.1 x6.2.2.2 _ e1)⟩,⟨(bD k x1 x2 x3 x4 _ e0)⟩] (by kernel_rfl)
   rw[if_neg c4] at h;replace c4:=eqf c4
   obtain rfl:=osi h
   exact Tri.of (x:=X60) aH oR [(wD x6),.call ⟨true,[]⟩ (.bool x7) [],df,df,df,dt,dt,df,dt,df,dt,aCP] [⟨(nT c4)⟩,⟨(nF c2)⟩,⟨(nT c3)⟩,⟨(nF c2)⟩,⟨(nT c3)⟩,⟨(nT c3)⟩,⟨(nF c2)⟩,⟨(nF c2)⟩,⟨(nF c2)⟩,⟨(bM k x6.1 x6.2.1 x6.2.2.1 x6.2.2.2 _ e1)⟩,⟨(bD k x1 x2 x3 x4 _ e0)⟩] (by kernel_rfl)
 rw[if_neg c2] at h;replace c2:=eqf c2
 obtain rfl:=osi h
 exact Tri.of (x:=X60) aH oR [(wD x6),.call ⟨true,[]⟩ (.bool x7) [],dt,dt,dt,dt,dt,dt,aCP] [⟨rT⟩,⟨(nT c2)⟩,⟨(nT c2)⟩,⟨(nT c2)⟩,⟨(nT c2)⟩,⟨(nT c2)⟩,⟨(bM k x6.1 x6.2.1 x6.2.2.1 x6.2.2.2 _ e1)⟩,⟨(bD k x1 x2 x3 x4 _ e0)⟩] (by kernel_rfl)
end Go.Ws

namespace Go.Ws
open Go.Proofs
set_option linter.unusedSimpArgs false
set_option linter.unusedVariables false
set_option maxRecDepth 1000000
set_option maxHeartbeats 4000000
noncomputable def X33_3 (x1:aL) (x2:Ty8) (x3:Ty2) (x4:Ty7):Ctx:=⟨Try.f33,[(.row [(.sl 2 (List.map aB x1)),(.sl 3 (List.map aE x2)),(.mp 1),(.ref 4 2 0 0 x4.length .virt)]),(.map (aI .i64 (fun y=>AV.agg (aF y)) x3) x3.length),(.arr 4 (List.map aA x4) 0 0 false)],false⟩
theorem dH (x1:aL) (x2:Ty8) (x3:Ty2) (x4:Ty7):Tri Try.prog 33 [(.hp 0 0)] [(.row [(.sl 2 (List.map aB x1)),(.sl 3 (List.map aE x2)),(.mp 1),(.ref 4 2 0 0 x4.length .virt)]),(.map (aI .i64 (fun y=>AV.agg (aF y)) x3) x3.length),(.arr 4 (List.map aA x4) 0 0 false)] (.bool (!false)) [(.row [(.sl 2 (List.map aB x1)),(.sl 3 (List.map aE x2)),(.mp 1),(.ref 4 2 0 0 x4.length .virt)]),(.map (aI .i64 (fun y=>AV.agg (aF y)) x3) x3.length),(.arr 4 (List.map aA x4) 0 0 false)]:=by
 obtain⟨r,h⟩:∃r,rV x1 x2 x3 x4=r:=⟨_,rfl⟩
 try rw[h]
 unfold rV at h
 obtain rfl:=h
 exact Tri.of (x:=(X33_3 x1 x2 x3 x4)) aH aNA [dt,dt,dt,dt,dt,dt,.norm 0 ⟨[(2,[])],[],false,[],[]⟩] [⟨(nT rfl)⟩,⟨(nT rfl)⟩,⟨(nT rfl)⟩,⟨(nT rfl)⟩,⟨(nT rfl)⟩,⟨(nT rfl)⟩] (by kernel_rfl)
end Go.Ws

namespace Go.Ws
open Go.Proofs
set_option linter.unusedSimpArgs false
set_option linter.unusedVariables false
set_option maxRecDepth 1000000
set_option maxHeartbeats 4000000
noncomputable def aGI (x9:aL) (x10:Ty8) (x11:Ty2) (x12:Ty7):Ctx:=⟨Try.f47,[(.row [(.sl 2 (List.map aB x9)),(.sl 3 (List.map aE x10)),(.mp 1),(.ref 4 2 0 0 x12.length .virt)]),(.map (aI .i64 (fun y=>AV.agg (aF y)) x11) x11.length),(.arr 4 (List.map aA x12) 0 0 false)],false⟩
noncomputable def L47_3_0:Code:=at_ Try.f47 [1,1,1,1,1,1,1,0,1,4,5]
def S47_3_0 (x2:aL) (x5:Int) (x6:Int) (x7:Int) (x8:Int) (x9:aL) (x11:Ty2) (x12:Ty7) (x13:Ty8 × Int) (cV:Int) (cH:Int):St:=⟨mkT 92 [(5,(.hp 3 0)),(10,(.int .i64 cV)),(75,(.sl 2 (List.map aB x2))),(76,(.int .i64 (nI x2.length))),(77,(.int .i64 cH))],[(.row [(.sl 2 (List.map aB x9)),(.sl 3 (List.map aE x13.1)),(.mp 1),(.ref 4 2 0 0 x12.length .virt)]),(.map (aI .i64 (fun y=>AV.agg (aF y)) x11) x11.length),(.arr 4 (List.map aA x12) 0 0 false),(.row [(.int .i64 x5),(.int .i64 x6),(.int .u8 x7),(.int .i64 x8)])]⟩
def aDK (x9:aL) (x11:Ty2) (x12:Ty7) (x13:Ty8 × Int) (aQA:Int):St:=⟨mkT 92 [(10,(.int .i64 aQA))],[(.row [(.sl 2 (List.map aB x9)),(.sl 3 (List.map aE x13.1)),(.mp 1),(.ref 4 2 0 0 x12.length .virt)]),(.map (aI .i64 (fun y=>AV.agg (aF y)) x11) x11.length),(.arr 4 (List.map aA x12) 0 0 false)]⟩
def O47_3_0 (x2:aL) (x5:Int) (x6:Int) (x7:Int) (x8:Int) (x9:aL) (x10:Ty8) (x11:Ty2) (x12:Ty7) (x13:Ty8 × Int) (y:(Int)):GX:=.st (.exit 0) (aDK x9 x11 x12 x13 y)
def aCH (x13:Ty8 × Int):Ans:=.call ⟨true,[]⟩ (.tup [(.sl 3 (List.map aE x13.1)),(.int .i64 x13.2)]) []
def aI0 (x14:Int × aL × Bool × Int × Int):Ans:=.call ⟨true,[]⟩ (.tup [(.agg [(.int .i64 x14.1),(.sl 2 (List.map aB x14.2.1)),(.bool x14.2.2.1),(.int .i64 x14.2.2.2.1)]),(.int .i64 x14.2.2.2.2)]) []
def zY:Ans:=.norm 0 ⟨[(6,[]),(7,[])],[],false,[],[]⟩
theorem lM (x2:aL) (x5:Int) (x6:Int) (x7:Int) (x8:Int) (x9:aL) (x10:Ty8) (x11:Ty2) (x12:Ty7) (x13:Ty8 × Int) (y:(Int)):∀(k:Nat) (cV:Int) (cH:Int),bV k x2 x5 x6 x7 x8 x9 x10 x11 x12 x13 cV cH=some y→LT Try.prog (aGI x9 x10 x11 x12) L47_3_0 (S47_3_0 x2 x5 x6 x7 x8 x9 x11 x12 x13 cV cH) (O47_3_0 x2 x5 x6 x7 x8 x9 x10 x11 x12 x13 y)
 | 0,cV,cH,h=>by cases h
 | k+1,cV,cH,h=>by
  rw[bV] at h
  by_cases cL0:ltI cH (nI x2.length)=true
  · rw[if_pos cL0] at h
    by_cases cL1:inI cH x2.length=true
    · rw[if_pos cL1] at h
      obtain⟨lA,eL2,h⟩:=bsm h
      by_cases cL3:eqI lA.1 x7=true
      · rw[if_pos cL3] at h
        exact LT.next aH (hs:=⟨[(5,[]),(10,[]),(75,[]),(76,[]),(77,[])],[⟨.tmp 5,[],none⟩],false,[],[]⟩) (es:=none) [dt,.n x2.length,.row [(.int .u8 lA.1),(.int .i64 lA.2)],dt] [⟨cL3⟩,⟨(aN (e:=aB) eL2 2 0 2 (by decide))⟩,⟨cL1⟩,⟨(aK aB x2)⟩,⟨cL0⟩] (by kernel_rfl) (lM x2 x5 x6 x7 x8 x9 x10 x11 x12 x13 y k (aM .i64 cV lA.2) (aM .i64 cH 1) h)
      rw[if_neg cL3] at h;replace cL3:=eqf cL3
      exact LT.next aH (hs:=⟨[(5,[]),(10,[]),(75,[]),(76,[]),(77,[])],[⟨.tmp 5,[],none⟩],false,[],[]⟩) (es:=none) [dt,.n x2.length,.row [(.int .u8 lA.1),(.int .i64 lA.2)],df] [⟨cL3⟩,⟨(aN (e:=aB) eL2 2 0 2 (by decide))⟩,⟨cL1⟩,⟨(aK aB x2)⟩,⟨cL0⟩] (by kernel_rfl) (lM x2 x5 x6 x7 x8 x9 x10 x11 x12 x13 y k cV (aM .i64 cH 1) h)
    rw[if_neg cL1] at h;replace cL1:=eqf cL1
    cases h
  rw[if_neg cL0] at h;replace cL0:=eqf cL0
  obtain rfl:=osi h
  show LT _ _ _ _ (.st (.exit 0) (aDK x9 x11 x12 x13 cV))
  exact LT.done aH (hs:=⟨[],[],false,[],[]⟩) (es:=(some ⟨[(10,[])],[],false,[],[]⟩)) [df] [⟨cL0⟩] (by kernel_rfl) (fun s h=>by cases h)
theorem rL (k:Nat) (x1:Int) (x2:aL) (x3:Bool) (x4:Int) (x5:Int) (x6:Int) (x7:Int) (x8:Int) (x9:aL) (x10:Ty8) (x11:Ty2) (x12:Ty7) (r:Ty8 × Ty2 × Int × Int) (h:g9 k x1 x2 x3 x4 x5 x6 x7 x8 x9 x10 x11 x12=some r):Tri Try.prog 47 [(.hp 0 0),(.agg [(.int .i64 x1),(.sl 2 (List.map aB x2)),(.bool x3),(.int .i64 x4)]),(.agg [(.int .i64 x5),(.int .i64 x6),(.int .u8 x7),(.int .i64 x8)])] [(.row [(.sl 2 (List.map aB x9)),(.sl 3 (List.map aE x10)),(.mp 1),(.ref 4 2 0 0 x12.length .virt)]),(.map (aI .i64 (fun y=>AV.agg (aF y)) x11) x11.length),(.arr 4 (List.map aA x12) 0 0 false)] (.tup [(.int .i64 r.2.2.2),(.int .i64 r.2.2.1)]) [(.row [(.sl 2 (List.map aB x9)),(.sl 3 (List.map aE r.1)),(.mp 1),(.ref 4 2 0 0 x12.length .virt)]),(.map (aI .i64 (fun y=>AV.agg (aF y)) r.2.1) r.2.1.length),(.arr 4 (List.map aA x12) 0 0 false)]:=by
 unfold g9 at h
 by_cases c0:eqI x1 0=true
 · rw[if_pos c0] at h
   obtain⟨x13,e1,h⟩:=bsm h
   by_cases c2:eqI x13.2 0=true
   · rw[if_pos c2] at h
     by_cases c3:eqI x5 3=true
     · rw[if_pos c3] at h
       obtain⟨x14,e4,h⟩:=bsm h
       by_cases c5:eqI x14.2.2.2.2 0=true
       · rw[if_pos c5] at h
         by_cases c6:lS x11 x6=true
         · rw[if_pos c6] at h
           obtain⟨x15,e7,h⟩:=bsm h
           obtain rfl:=osi h
           exact Tri.of (x:=(aGI x9 x10 x11 x12)) aH zM [df,(aCH x13),df,dt,(aI0 x14),df,.opt (some (.agg [(.int .i64 x15.1),(.sl 2 (List.map aB x15.2.1)),(.bool x15.2.2.1),(.int .i64 x15.2.2.2)])),.n (mIx x11 x6),.ents (aI .i64 (fun y=>AV.agg (aF y)) x11) x11.length,.ents (aI .i64 (fun y=>AV.agg (aF y)) (bE x11 x6 (x14.1,x14.2.1,x14.2.2.1,x14.2.2.2.1))) (bE x11 x6 (x14.1,x14.2.1,x14.2.2.1,x14.2.2.2.1)).length,zY] [⟨(aNL .i64 (fun y=>AV.agg (aF y)) e7 (x14.1,x14.2.1,x14.2.2.1,x14.2.2.2.1))⟩,⟨(ent_some .i64 (fun y=>AV.agg (aF y)) e7 (.agg [(.int .i64 0),(.sl 2 (List.map aB [])),(.bool false),(.int .i64 0)]))⟩,⟨(aOO .i64 (fun y=>AV.agg (aF y)) x11 x6)⟩,⟨(bU .i64 (fun y=>AV.agg (aF y)) e7)⟩,⟨(nF c5)⟩,⟨(xW k x1 x2 x3 x4 x7 x8 _ e4)⟩,⟨c3⟩,⟨(nF c2)⟩,⟨(q7 k x10 x6 x7 (eqI x5 3) _ e1)⟩,⟨(nF c0)⟩] (by kernel_rfl)
         rw[if_neg c6] at h;replace c6:=eqf c6
         obtain rfl:=osi h
         exact Tri.of (x:=(aGI x9 x10 x11 x12)) aH zM [df,(aCH x13),df,dt,(aI0 x14),df,.opt none,.n (mIx x11 x6),.ents (aI .i64 (fun y=>AV.agg (aF y)) (bE x11 x6 (0,[],false,0))) (bE x11 x6 (0,[],false,0)).length,.ents (aI .i64 (fun y=>AV.agg (aF y)) (bE x11 x6 (x14.1,x14.2.1,x14.2.2.1,x14.2.2.2.1))) (bE x11 x6 (x14.1,x14.2.1,x14.2.2.1,x14.2.2.2.1)).length,zY] [⟨(sb_none .i64 (fun y=>AV.agg (aF y)) (l:=x11) (q:=x6) (0,[],false,0) (x14.1,x14.2.1,x14.2.2.1,x14.2.2.2.1))⟩,⟨(ent_none .i64 (fun y=>AV.agg (aF y)) c6 (0,[],false,0))⟩,⟨(aOO .i64 (fun y=>AV.agg (aF y)) x11 x6)⟩,⟨(f4 .i64 (fun y=>AV.agg (aF y)) c6)⟩,⟨(nF c5)⟩,⟨(xW k x1 x2 x3 x4 x7 x8 _ e4)⟩,⟨c3⟩,⟨(nF c2)⟩,⟨(q7 k x10 x6 x7 (eqI x5 3) _ e1)⟩,⟨(nF c0)⟩] (by kernel_rfl)
       rw[if_neg c5] at h;replace c5:=eqf c5
       obtain rfl:=osi h
       exact Tri.of (x:=(aGI x9 x10 x11 x12)) aH zM [df,(aCH x13),df,dt,(aI0 x14),dt,zY] [⟨(nT c5)⟩,⟨(xW k x1 x2 x3 x4 x7 x8 _ e4)⟩,⟨c3⟩,⟨(nF c2)⟩,⟨(q7 k x10 x6 x7 (eqI x5 3) _ e1)⟩,⟨(nF c0)⟩] (by kernel_rfl)
     rw[if_neg c3] at h;replace c3:=eqf c3
     obtain⟨x14,e4,h⟩:=bsm h
     obtain⟨x16,e5,h⟩:=bsm h
     obtain rfl:=osi h
     exact Tri.of (x:=(aGI x9 x10 x11 x12)) aH zM [df,(aCH x13),df,df,.call ⟨true,[]⟩ (.int .i64 x14) [],.n x2.length,.norm 2 ⟨[(5,[]),(10,[]),(75,[]),(76,[]),(77,[])],[⟨.tmp 5,[],none⟩],false,[],[]⟩,.out (.st .normal (aDK x9 x11 x12 x13 x16)),zY] [⟨(LT.block (lM x2 x5 x6 x7 x8 x9 x10 x11 x12 x13 _ k x14 0 e5))⟩,⟨(aK aB x2)⟩,⟨(aAG k x9 x7 _ e4)⟩,⟨c3⟩,⟨(nF c2)⟩,⟨(q7 k x10 x6 x7 (eqI x5 3) _ e1)⟩,⟨(nF c0)⟩] (by kernel_rfl)
   rw[if_neg c2] at h;replace c2:=eqf c2
   obtain rfl:=osi h
   exact Tri.of (x:=(aGI x9 x10 x11 x12)) aH zM [df,(aCH x13),dt,zY] [⟨(nT c2)⟩,⟨(q7 k x10 x6 x7 (eqI x5 3) _ e1)⟩,⟨(nF c0)⟩] (by kernel_rfl)
 rw[if_neg c0] at h;replace c0:=eqf c0
 obtain rfl:=osi h
 exact Tri.of (x:=(aGI x9 x10 x11 x12)) aH zM [dt,zY] [⟨(nT c0)⟩] (by kernel_rfl)
end Go.Ws

namespace Go.Ws
open Go.Proofs
set_option linter.unusedSimpArgs false
set_option linter.unusedVariables false
set_option maxRecDepth 1000000
set_option maxHeartbeats 4000000
noncomputable def aAM (x9:aL) (x10:Ty8) (x11:Ty2) (x12:Ty7):Ctx:=⟨Try.f48,[(.row [(.sl 2 (List.map aB x9)),(.sl 3 (List.map aE x10)),(.mp 1),(.ref 4 2 0 0 x12.length .virt)]),(.map (aI .i64 (fun y=>AV.agg (aF y)) x11) x11.length),(.arr 4 (List.map aA x12) 0 0 false)],false⟩
def aJQ (x13:Int × aL × Bool × Int × Int):Ans:=.call ⟨true,[]⟩ (.tup [(.agg [(.int .i64 x13.1),(.sl 2 (List.map aB x13.2.1)),(.bool x13.2.2.1),(.int .i64 x13.2.2.2.1)]),(.int .i64 x13.2.2.2.2)]) []
def aEW (x15:Ty8):Ans:=.call ⟨true,[]⟩ (.sl 3 (List.map aE x15)) []
def zX (x13:Int × aL × Bool × Int × aL × Int):Ans:=.call ⟨true,[]⟩ (.tup [(.agg [(.int .i64 x13.1),(.sl 2 (List.map aB x13.2.1)),(.bool x13.2.2.1),(.int .i64 x13.2.2.2.1)]),(.sl 2 (List.map aB x13.2.2.2.2.1)),(.int .i64 x13.2.2.2.2.2)]) []
def aIP (x6:Int) (x11:Ty2) (x13:Int × aL × Bool × Int × aL × Int):Ans:=.ents (aI .i64 (fun y=>AV.agg (aF y)) (bE x11 x6 (x13.1,x13.2.1,x13.2.2.1,x13.2.2.2.1))) (bE x11 x6 (x13.1,x13.2.1,x13.2.2.1,x13.2.2.2.1)).length
def aJ1 (x14:aL × Int):Ans:=.call ⟨true,[]⟩ (.tup [(.sl 2 (List.map aB x14.1)),(.int .i64 x14.2)]) []
theorem aAZ (k:Nat) (x1:Int) (x2:aL) (x3:Bool) (x4:Int) (x5:Int) (x6:Int) (x7:Int) (x8:Int) (x9:aL) (x10:Ty8) (x11:Ty2) (x12:Ty7) (r:aL × Ty8 × Ty2 × Int) (h:k7 k x1 x2 x3 x4 x5 x6 x7 x8 x9 x10 x11 x12=some r):Tri Try.prog 48 [(.hp 0 0),(.agg [(.int .i64 x1),(.sl 2 (List.map aB x2)),(.bool x3),(.int .i64 x4)]),(.agg [(.int .i64 x5),(.int .i64 x6),(.int .u8 x7),(.int .i64 x8)])] [(.row [(.sl 2 (List.map aB x9)),(.sl 3 (List.map aE x10)),(.mp 1),(.ref 4 2 0 0 x12.length .virt)]),(.map (aI .i64 (fun y=>AV.agg (aF y)) x11) x11.length),(.arr 4 (List.map aA x12) 0 0 false)] (.int .i64 r.2.2.2) [(.row [(.sl 2 (List.map aB r.1)),(.sl 3 (List.map aE r.2.1)),(.mp 1),(.ref 4 2 0 0 x12.length .virt)]),(.map (aI .i64 (fun y=>AV.agg (aF y)) r.2.2.1) r.2.2.1.length),(.arr 4 (List.map aA x12) 0 0 false)]:=by
 unfold k7 at h
 by_cases c0:eqI x5 4=true
 · rw[if_pos c0] at h
   obtain⟨x13,e1,h⟩:=bsm h
   by_cases c2:eqI x13.2.2.2.2 0=true
   · rw[if_pos c2] at h
     obtain⟨x14,e3,h⟩:=bsm h
     by_cases c4:eqI x13.1 2=true
     · rw[if_pos c4] at h
       obtain⟨x15,e5,h⟩:=bsm h
       obtain rfl:=osi h
       exact Tri.of (x:=(aAM x9 x10 x11 x12)) aH sD [dt,(aJQ x13),df,.ents (aI .i64 (fun y=>AV.agg (aF y)) (bE x11 x6 (x13.1,x13.2.1,x13.2.2.1,x13.2.2.2.1))) (bE x11 x6 (x13.1,x13.2.1,x13.2.2.1,x13.2.2.2.1)).length,.call ⟨true,[[],[(0,2)]]⟩ (.tup [(.sl 2 (List.map aB x14.1)),(.int .i64 x14.2)]) [],df,df,df,df,dt,(aEW x15),.norm 0 ⟨[(6,[])],[],false,[],[]⟩] [⟨(tJ k x10 x6 _ e5)⟩,⟨c4⟩,⟨(nF c0)⟩,⟨(nF c0)⟩,⟨(nF c0)⟩,⟨(nF c0)⟩,⟨(nK k x9 [] _ e3)⟩,⟨(lT .i64 (fun y=>AV.agg (aF y)) x11 x6 (x13.1,x13.2.1,x13.2.2.1,x13.2.2.2.1))⟩,⟨(nF c2)⟩,⟨(wT k x1 x2 x3 x4 (!eqI x8 0) _ e1)⟩,⟨c0⟩] (by kernel_rfl)
     rw[if_neg c4] at h;replace c4:=eqf c4
     obtain rfl:=osi h
     exact Tri.of (x:=(aAM x9 x10 x11 x12)) aH sD [dt,(aJQ x13),df,.ents (aI .i64 (fun y=>AV.agg (aF y)) (bE x11 x6 (x13.1,x13.2.1,x13.2.2.1,x13.2.2.2.1))) (bE x11 x6 (x13.1,x13.2.1,x13.2.2.1,x13.2.2.2.1)).length,.call ⟨true,[[],[(0,2)]]⟩ (.tup [(.sl 2 (List.map aB x14.1)),(.int .i64 x14.2)]) [],df,df,df,df,df,.norm 0 ⟨[(6,[])],[],false,[],[]⟩] [⟨c4⟩,⟨(nF c0)⟩,⟨(nF c0)⟩,⟨(nF c0)⟩,⟨(nF c0)⟩,⟨(nK k x9 [] _ e3)⟩,⟨(lT .i64 (fun y=>AV.agg (aF y)) x11 x6 (x13.1,x13.2.1,x13.2.2.1,x13.2.2.2.1))⟩,⟨(nF c2)⟩,⟨(wT k x1 x2 x3 x4 (!eqI x8 0) _ e1)⟩,⟨c0⟩] (by kernel_rfl)
   rw[if_neg c2] at h;replace c2:=eqf c2
   obtain rfl:=osi h
   exact Tri.of (x:=(aAM x9 x10 x11 x12)) aH sD [dt,(aJQ x13),dt,.norm 0 ⟨[(6,[])],[],false,[],[]⟩] [⟨(nT c2)⟩,⟨(wT k x1 x2 x3 x4 (!eqI x8 0) _ e1)⟩,⟨c0⟩] (by kernel_rfl)
 rw[if_neg c0] at h;replace c0:=eqf c0
 by_cases c1:eqI x5 5=true
 · rw[if_pos c1] at h
   obtain⟨x13,e2,h⟩:=bsm h
   by_cases c3:eqI x13.2.2.2.2.2 0=true
   · rw[if_pos c3] at h
     obtain⟨x14,e4,h⟩:=bsm h
     obtain⟨x15,e5,h⟩:=bsm h
     obtain rfl:=osi h
     exact Tri.of (x:=(aAM x9 x10 x11 x12)) aH sD [df,dt,(zX x13),df,(aIP x6 x11 x13),(aJ1 x14),dt,dt,dt,dt,dt,(aEW x15),.norm 0 ⟨[(6,[])],[],false,[],[]⟩] [⟨(tJ k x10 x6 _ e5)⟩,⟨rT⟩,⟨(nT c0)⟩,⟨(nT c0)⟩,⟨(nT c0)⟩,⟨(nT c0)⟩,⟨(nK k x9 x13.2.2.2.2.1 _ e4)⟩,⟨(lT .i64 (fun y=>AV.agg (aF y)) x11 x6 (x13.1,x13.2.1,x13.2.2.1,x13.2.2.2.1))⟩,⟨(nF c3)⟩,⟨(aAF k x1 x2 x3 x4 _ e2)⟩,⟨c1⟩,⟨c0⟩] (by kernel_rfl)
   rw[if_neg c3] at h;replace c3:=eqf c3
   obtain rfl:=osi h
   exact Tri.of (x:=(aAM x9 x10 x11 x12)) aH sD [df,dt,(zX x13),dt,.norm 0 ⟨[(6,[])],[],false,[],[]⟩] [⟨(nT c3)⟩,⟨(aAF k x1 x2 x3 x4 _ e2)⟩,⟨c1⟩,⟨c0⟩] (by kernel_rfl)
 rw[if_neg c1] at h;replace c1:=eqf c1
 by_cases c2:eqI x8 1=true
 · rw[if_pos c2] at h
   obtain⟨x13,e3,h⟩:=bsm h
   by_cases c4:eqI x13.2.2.2.2.2 0=true
   · rw[if_pos c4] at h
     obtain⟨x14,e5,h⟩:=bsm h
     obtain⟨x15,e6,h⟩:=bsm h
     obtain rfl:=osi h
     exact Tri.of (x:=(aAM x9 x10 x11 x12)) aH sD [df,df,dt,dt,dt,dt,dt,(zX x13),df,(aIP x6 x11 x13),(aJ1 x14),dt,dt,dt,dt,dt,(aEW x15),.norm 0 ⟨[(6,[])],[],false,[],[]⟩] [⟨(tJ k x10 x6 _ e6)⟩,⟨rT⟩,⟨(nT c0)⟩,⟨(nT c0)⟩,⟨(nT c0)⟩,⟨(nT c0)⟩,⟨(nK k x9 x13.2.2.2.2.1 _ e5)⟩,⟨(lT .i64 (fun y=>AV.agg (aF y)) x11 x6 (x13.1,x13.2.1,x13.2.2.1,x13.2.2.2.1))⟩,⟨(nF c4)⟩,⟨(qK k x1 x2 x3 x4 x8 _ e3)⟩,⟨rT⟩,⟨c2⟩,⟨c2⟩,⟨c2⟩,⟨c2⟩,⟨c1⟩,⟨c0⟩] (by kernel_rfl)
   rw[if_neg c4] at h;replace c4:=eqf c4
   obtain rfl:=osi h
   exact Tri.of (x:=(aAM x9 x10 x11 x12)) aH sD [df,df,dt,dt,dt,dt,dt,(zX x13),dt,.norm 0 ⟨[(6,[])],[],false,[],[]⟩] [⟨(nT c4)⟩,⟨(qK k x1 x2 x3 x4 x8 _ e3)⟩,⟨rT⟩,⟨c2⟩,⟨c2⟩,⟨c2⟩,⟨c2⟩,⟨c1⟩,⟨c0⟩] (by kernel_rfl)
 rw[if_neg c2] at h;replace c2:=eqf c2
 by_cases c3:eqI x8 2=true
 · rw[if_pos c3] at h
   obtain⟨x13,e4,h⟩:=bsm h
   by_cases c5:eqI x13.2.2.2.2.2 0=true
   · rw[if_pos c5] at h
     obtain⟨x14,e6,h⟩:=bsm h
     obtain⟨x15,e7,h⟩:=bsm h
     obtain rfl:=osi h
     exact Tri.of (x:=(aAM x9 x10 x11 x12)) aH sD [df,df,df,df,df,df,dt,(zX x13),df,(aIP x6 x11 x13),(aJ1 x14),dt,dt,dt,dt,dt,(aEW x15),.norm 0 ⟨[(6,[])],[],false,[],[]⟩] [⟨(tJ k x10 x6 _ e7)⟩,⟨rT⟩,⟨(nT c0)⟩,⟨(nT c0)⟩,⟨(nT c0)⟩,⟨(nT c0)⟩,⟨(nK k x9 x13.2.2.2.2.1 _ e6)⟩,⟨(lT .i64 (fun y=>AV.agg (aF y)) x11 x6 (x13.1,x13.2.1,x13.2.2.1,x13.2.2.2.1))⟩,⟨(nF c5)⟩,⟨(qK k x1 x2 x3 x4 x8 _ e4)⟩,⟨c3⟩,⟨c2⟩,⟨c2⟩,⟨c2⟩,⟨c2⟩,⟨c1⟩,⟨c0⟩] (by kernel_rfl)
   rw[if_neg c5] at h;replace c5:=eqf c5
   obtain rfl:=osi h
   exact Tri.of (x:=(aAM x9 x10 x11 x12)) aH sD [df,df,df,df,df,df,dt,(zX x13),dt,.norm 0 ⟨[(6,[])],[],false,[],[]⟩] [⟨(nT c5)⟩,⟨(qK k x1 x2 x3 x4 x8 _ e4)⟩,⟨c3⟩,⟨c2⟩,⟨c2⟩,⟨c2⟩,⟨c2⟩,⟨c1⟩,⟨c0⟩] (by kernel_rfl)
 rw[if_neg c3] at h;replace c3:=eqf c3
 obtain rfl:=osi h
 exact Tri.of (x:=(aAM x9 x10 x11 x12)) aH sD [df,df,df,df,df,df,df,dt,.norm 0 ⟨[(6,[])],[],false,[],[]⟩] [⟨(nT (rfl:eqI 2 0=false))⟩,⟨c3⟩,⟨c2⟩,⟨c2⟩,⟨c2⟩,⟨c2⟩,⟨c1⟩,⟨c0⟩] (by kernel_rfl)
end Go.Ws

namespace Go.Ws
open Go.Proofs
set_option linter.unusedSimpArgs false
set_option linter.unusedVariables false
set_option maxRecDepth 1000000
set_option maxHeartbeats 4000000
noncomputable def X34_3 (x9:aL) (x10:Ty8) (x11:Ty2) (x12:Ty7):Ctx:=⟨Try.f34,[(.row [(.sl 2 (List.map aB x9)),(.sl 3 (List.map aE x10)),(.mp 1),(.ref 4 2 0 0 x12.length .virt)]),(.map (aI .i64 (fun y=>AV.agg (aF y)) x11) x11.length),(.arr 4 (List.map aA x12) 0 0 false)],false⟩
def aER:Ans:=.norm 0 ⟨[(6,[]),(7,[])],[],false,[],[]⟩
def aOX (x9:aL) (x12:Ty7) (x13:Ty8 × Ty2 × Int × Int):Ans:=.call ⟨true,[]⟩ (.tup [(.int .i64 x13.2.2.2),(.int .i64 x13.2.2.1)]) [(.row [(.sl 2 (List.map aB x9)),(.sl 3 (List.map aE x13.1)),(.mp 1),(.ref 4 2 0 0 x12.length .virt)]),(.map (aI .i64 (fun y=>AV.agg (aF y)) x13.2.1) x13.2.1.length),(.arr 4 (List.map aA x12) 0 0 false)]
theorem l6 (k:Nat) (x1:Int) (x2:aL) (x3:Bool) (x4:Int) (x5:Int) (x6:Int) (x7:Int) (x8:Int) (x9:aL) (x10:Ty8) (x11:Ty2) (x12:Ty7) (r:Int × Int × Ty8 × Ty2 × aL) (h:i9 k x1 x2 x3 x4 x5 x6 x7 x8 x9 x10 x11 x12=some r):Tri Try.prog 34 [(.hp 0 0),(.agg [(.int .i64 x1),(.sl 2 (List.map aB x2)),(.bool x3),(.int .i64 x4)]),(.agg [(.int .i64 x5),(.int .i64 x6),(.int .u8 x7),(.int .i64 x8)])] [(.row [(.sl 2 (List.map aB x9)),(.sl 3 (List.map aE x10)),(.mp 1),(.ref 4 2 0 0 x12.length .virt)]),(.map (aI .i64 (fun y=>AV.agg (aF y)) x11) x11.length),(.arr 4 (List.map aA x12) 0 0 false)] (.tup [(.int .i64 r.1),(.int .i64 r.2.1)]) [(.row [(.sl 2 (List.map aB r.2.2.2.2)),(.sl 3 (List.map aE r.2.2.1)),(.mp 1),(.ref 4 2 0 0 x12.length .virt)]),(.map (aI .i64 (fun y=>AV.agg (aF y)) r.2.2.2.1) r.2.2.2.1.length),(.arr 4 (List.map aA x12) 0 0 false)]:=by
 unfold i9 at h
 by_cases c0:eqI x5 1=true
 · rw[if_pos c0] at h
   obtain rfl:=osi h
   exact Tri.of (x:=(X34_3 x9 x10 x11 x12)) aH aEM [dt,.ents (aI .i64 (fun y=>AV.agg (aF y)) (bE x11 x6 (x1,x2,x3,x4))) (bE x11 x6 (x1,x2,x3,x4)).length,aER] [⟨(lT .i64 (fun y=>AV.agg (aF y)) x11 x6 (x1,x2,x3,x4))⟩,⟨c0⟩] (by kernel_rfl)
 rw[if_neg c0] at h;replace c0:=eqf c0
 by_cases c1:eqI x5 2=true
 · rw[if_pos c1] at h
   obtain⟨x13,e2,h⟩:=bsm h
   obtain rfl:=osi h
   exact Tri.of (x:=(X34_3 x9 x10 x11 x12)) aH aEM [df,dt,dt,(aOX x9 x12 x13),aER] [⟨(rL k x1 x2 x3 x4 x5 x6 x7 x8 x9 x10 x11 x12 _ e2)⟩,⟨c1⟩,⟨c1⟩,⟨c0⟩] (by kernel_rfl)
 rw[if_neg c1] at h;replace c1:=eqf c1
 by_cases c2:eqI x5 3=true
 · rw[if_pos c2] at h
   obtain⟨x13,e3,h⟩:=bsm h
   obtain rfl:=osi h
   exact Tri.of (x:=(X34_3 x9 x10 x11 x12)) aH aEM [df,df,dt,(aOX x9 x12 x13),aER] [⟨(rL k x1 x2 x3 x4 x5 x6 x7 x8 x9 x10 x11 x12 _ e3)⟩,⟨c2⟩,⟨c1⟩,⟨c0⟩] (by kernel_rfl)
 rw[if_neg c2] at h;replace c2:=eqf c2
 obtain⟨x13,e3,h⟩:=bsm h
 obtain rfl:=osi h
 exact Tri.of (x:=(X34_3 x9 x10 x11 x12)) aH aEM [df,df,df,.call ⟨true,[]⟩ (.int .i64 x13.2.2.2) [(.row [(.sl 2 (List.map aB x13.1)),(.sl 3 (List.map aE x13.2.1)),(.mp 1),(.ref 4 2 0 0 x12.length .virt)]),(.map (aI .i64 (fun y=>AV.agg (aF y)) x13.2.2.1) x13.2.2.1.length),(.arr 4 (List.map aA x12) 0 0 false)],aER] [⟨(aAZ k x1 x2 x3 x4 x5 x6 x7 x8 x9 x10 x11 x12 _ e3)⟩,⟨c2⟩,⟨c1⟩,⟨c0⟩] (by kernel_rfl)
end Go.Ws

namespace Go.Ws
open Go.Proofs
set_option linter.unusedSimpArgs false
set_option linter.unusedVariables false
set_option maxRecDepth 1000000
set_option maxHeartbeats 4000000
noncomputable def aAN (x5:aL) (x6:Ty8) (x7:Ty2) (x8:Ty7):Ctx:=⟨Try.f21,[(.row [(.sl 2 (List.map aB x5)),(.sl 3 (List.map aE x6)),(.mp 1),(.ref 4 2 0 0 x8.length .virt)]),(.map (aI .i64 (fun y=>AV.agg (aF y)) x7) x7.length),(.arr 4 (List.map aA x8) 0 0 false)],false⟩
def sE (x5:aL) (x6:Ty8) (x7:Ty2) (x8:Ty7):Ans:=.call ⟨true,[]⟩ (.bool (!false)) [(.row [(.sl 2 (List.map aB x5)),(.sl 3 (List.map aE x6)),(.mp 1),(.ref 4 2 0 0 x8.length .virt)]),(.map (aI .i64 (fun y=>AV.agg (aF y)) x7) x7.length),(.arr 4 (List.map aA x8) 0 0 false)]
def r8:Ans:=.norm 0 ⟨[(4,[]),(5,[])],[],false,[],[none,none,some 1]⟩
def aI5 (x9:Int × aL × Bool × Int):Ans:=.opt (some (.agg [(.int .i64 x9.1),(.sl 2 (List.map aB x9.2.1)),(.bool x9.2.2.1),(.int .i64 x9.2.2.2)]))
def aOZ (x8:Ty7) (x10:Int × Int × Ty8 × Ty2 × aL):Ans:=.call ⟨true,[]⟩ (.tup [(.int .i64 x10.1),(.int .i64 x10.2.1)]) [(.row [(.sl 2 (List.map aB x10.2.2.2.2)),(.sl 3 (List.map aE x10.2.2.1)),(.mp 1),(.ref 4 2 0 0 x8.length .virt)]),(.map (aI .i64 (fun y=>AV.agg (aF y)) x10.2.2.2.1) x10.2.2.2.1.length),(.arr 4 (List.map aA x8) 0 0 false)]
def aNY (x8:Ty7) (x9:Int × Int × Ty8 × Ty2 × aL):Ans:=.call ⟨true,[]⟩ (.tup [(.int .i64 x9.1),(.int .i64 x9.2.1)]) [(.row [(.sl 2 (List.map aB x9.2.2.2.2)),(.sl 3 (List.map aE x9.2.2.1)),(.mp 1),(.ref 4 2 0 0 x8.length .virt)]),(.map (aI .i64 (fun y=>AV.agg (aF y)) x9.2.2.2.1) x9.2.2.2.1.length),(.arr 4 (List.map aA x8) 0 0 false)]
theorem qQ (k:Nat) (x1:Int) (x2:Int) (x3:Int) (x4:Int) (x5:aL) (x6:Ty8) (x7:Ty2) (x8:Ty7) (r:Int × Int × aL × Ty8 × Ty2 × Ty7) (h:kL k x1 x2 x3 x4 x5 x6 x7 x8=some r):Tri Try.prog 21 [(.hp 0 0),(.agg [(.int .i64 x1),(.int .i64 x2),(.int .u8 x3),(.int .i64 x4)])] [(.row [(.sl 2 (List.map aB x5)),(.sl 3 (List.map aE x6)),(.mp 1),(.ref 4 2 0 0 x8.length .virt)]),(.map (aI .i64 (fun y=>AV.agg (aF y)) x7) x7.length),(.arr 4 (List.map aA x8) 0 0 false)] (.tup [(.int .i64 r.2.1),(.int .i64 r.1)]) [(.row [(.sl 2 (List.map aB r.2.2.1)),(.sl 3 (List.map aE r.2.2.2.1)),(.mp 1),(.ref 4 2 1 0 r.2.2.2.2.2.length .virt)]),(.map (aI .i64 (fun y=>AV.agg (aF y)) r.2.2.2.2.1) r.2.2.2.2.1.length),(.arr 4 (List.map aA r.2.2.2.2.2) 1 1 false)]:=by
 unfold kL at h
 by_cases c0:ltI x1 1=true
 · rw[if_pos c0] at h
   obtain rfl:=osi h
   exact Tri.of (x:=(aAN x5 x6 x7 x8)) aH sG [(sE x5 x6 x7 x8),df,dt,dt,dt,dt,dt,dt,dt,dt,dt,dt,dt,dt,dt,r8] [⟨rT⟩,⟨rT⟩,⟨rT⟩,⟨rT⟩,⟨rT⟩,⟨rT⟩,⟨rT⟩,⟨rT⟩,⟨rT⟩,⟨c0⟩,⟨c0⟩,⟨c0⟩,⟨c0⟩,⟨(nF (nT rfl))⟩,⟨(dH x5 x6 x7 x8)⟩] (by kernel_rfl)
 rw[if_neg c0] at h;replace c0:=eqf c0
 by_cases c1:ltI 6 x1=true
 · rw[if_pos c1] at h
   obtain rfl:=osi h
   exact Tri.of (x:=(aAN x5 x6 x7 x8)) aH sG [(sE x5 x6 x7 x8),df,df,df,df,df,dt,dt,dt,dt,dt,dt,dt,dt,dt,r8] [⟨rT⟩,⟨rT⟩,⟨rT⟩,⟨rT⟩,⟨rT⟩,⟨c1⟩,⟨c1⟩,⟨c1⟩,⟨c1⟩,⟨c0⟩,⟨c0⟩,⟨c0⟩,⟨c0⟩,⟨(nF (nT rfl))⟩,⟨(dH x5 x6 x7 x8)⟩] (by kernel_rfl)
 rw[if_neg c1] at h;replace c1:=eqf c1
 by_cases c2:ltI x2 0=true
 · rw[if_pos c2] at h
   obtain rfl:=osi h
   exact Tri.of (x:=(aAN x5 x6 x7 x8)) aH sG [(sE x5 x6 x7 x8),df,df,df,df,df,df,df,df,df,dt,dt,dt,dt,dt,r8] [⟨rT⟩,⟨c2⟩,⟨c2⟩,⟨c2⟩,⟨c2⟩,⟨c1⟩,⟨c1⟩,⟨c1⟩,⟨c1⟩,⟨c0⟩,⟨c0⟩,⟨c0⟩,⟨c0⟩,⟨(nF (nT rfl))⟩,⟨(dH x5 x6 x7 x8)⟩] (by kernel_rfl)
 rw[if_neg c2] at h;replace c2:=eqf c2
 by_cases c3:ltI x2 1000=true
 · rw[if_pos c3] at h
   by_cases c4:lS x7 x2=true
   · rw[if_pos c4] at h
     obtain⟨x9,e5,h⟩:=bsm h
     by_cases c6:eqB true (eqI x1 1)=true
     · rw[if_pos c6] at h
       obtain rfl:=osi h
       exact Tri.of (x:=(aAN x5 x6 x7 x8)) aH sG [(sE x5 x6 x7 x8),df,df,df,df,df,df,df,df,df,df,df,df,df,df,(aI5 x9),dt,dt,r8] [⟨rT⟩,⟨c6⟩,⟨(bU .i64 (fun y=>AV.agg (aF y)) e5)⟩,⟨(nF c3)⟩,⟨c2⟩,⟨c2⟩,⟨c2⟩,⟨c2⟩,⟨c1⟩,⟨c1⟩,⟨c1⟩,⟨c1⟩,⟨c0⟩,⟨c0⟩,⟨c0⟩,⟨c0⟩,⟨(nF (nT rfl))⟩,⟨(dH x5 x6 x7 x8)⟩] (by kernel_rfl)
     rw[if_neg c6] at h;replace c6:=eqf c6
     obtain⟨x10,e7,h⟩:=bsm h
     by_cases c8:eqI x10.2.1 0=true
     · rw[if_pos c8] at h
       by_cases c9:dV (((x8++[(x1,x2,x3,x4)]).length)*32)=true
       · rw[if_pos c9] at h
         obtain rfl:=osi h
         exact Tri.of (x:=(aAN x5 x6 x7 x8)) aH sG [(sE x5 x6 x7 x8),df,df,df,df,df,df,df,df,df,df,df,df,df,df,(aI5 x9),df,(aOZ x8 x10),df,.rows (List.map aA [(x1,x2,x3,x4)]),.n ((x8++[(x1,x2,x3,x4)]).length),.n x8.length,dt,.rows (List.map aA (x8++[(x1,x2,x3,x4)])),r8] [⟨(aET aA x8 [(x1,x2,x3,x4)])⟩,⟨(aBP x8.length)⟩,⟨(aK aA x8)⟩,⟨c9⟩,⟨(by simp only[wl,List.length_map,List.map_nil,List.map_cons]<;>omega:x8.length+(List.map aA [(x1,x2,x3,x4)]).length=(x8++[(x1,x2,x3,x4)]).length)⟩,⟨(bA aA (l:=[(x1,x2,x3,x4)]) (n:=1) rfl)⟩,⟨(b8 aA (Nat.le_refl 1):0+1≤(List.map aA [(x1,x2,x3,x4)]).length)⟩,⟨(nF c8)⟩,⟨(l6 k x9.1 x9.2.1 x9.2.2.1 x9.2.2.2 x1 x2 x3 x4 x5 x6 x7 x8 _ e7)⟩,⟨c6⟩,⟨(bU .i64 (fun y=>AV.agg (aF y)) e5)⟩,⟨(nF c3)⟩,⟨c2⟩,⟨c2⟩,⟨c2⟩,⟨c2⟩,⟨c1⟩,⟨c1⟩,⟨c1⟩,⟨c1⟩,⟨c0⟩,⟨c0⟩,⟨c0⟩,⟨c0⟩,⟨(nF (nT rfl))⟩,⟨(dH x5 x6 x7 x8)⟩] (by kernel_rfl)
       rw[if_neg c9] at h;replace c9:=eqf c9
       cases h
     rw[if_neg c8] at h;replace c8:=eqf c8
     obtain rfl:=osi h
     exact Tri.of (x:=(aAN x5 x6 x7 x8)) aH sG [(sE x5 x6 x7 x8),df,df,df,df,df,df,df,df,df,df,df,df,df,df,(aI5 x9),df,(aOZ x8 x10),dt,r8] [⟨(nT c8)⟩,⟨(l6 k x9.1 x9.2.1 x9.2.2.1 x9.2.2.2 x1 x2 x3 x4 x5 x6 x7 x8 _ e7)⟩,⟨c6⟩,⟨(bU .i64 (fun y=>AV.agg (aF y)) e5)⟩,⟨(nF c3)⟩,⟨c2⟩,⟨c2⟩,⟨c2⟩,⟨c2⟩,⟨c1⟩,⟨c1⟩,⟨c1⟩,⟨c1⟩,⟨c0⟩,⟨c0⟩,⟨c0⟩,⟨c0⟩,⟨(nF (nT rfl))⟩,⟨(dH x5 x6 x7 x8)⟩] (by kernel_rfl)
   rw[if_neg c4] at h;replace c4:=eqf c4
   by_cases c5:eqB false (eqI x1 1)=true
   · rw[if_pos c5] at h
     obtain rfl:=osi h
     exact Tri.of (x:=(aAN x5 x6 x7 x8)) aH sG [(sE x5 x6 x7 x8),df,df,df,df,df,df,df,df,df,df,df,df,df,df,.opt none,dt,df,r8] [⟨rF⟩,⟨c5⟩,⟨(f4 .i64 (fun y=>AV.agg (aF y)) c4)⟩,⟨(nF c3)⟩,⟨c2⟩,⟨c2⟩,⟨c2⟩,⟨c2⟩,⟨c1⟩,⟨c1⟩,⟨c1⟩,⟨c1⟩,⟨c0⟩,⟨c0⟩,⟨c0⟩,⟨c0⟩,⟨(nF (nT rfl))⟩,⟨(dH x5 x6 x7 x8)⟩] (by kernel_rfl)
   rw[if_neg c5] at h;replace c5:=eqf c5
   obtain⟨x9,e6,h⟩:=bsm h
   by_cases c7:eqI x9.2.1 0=true
   · rw[if_pos c7] at h
     by_cases c8:dV (((x8++[(x1,x2,x3,x4)]).length)*32)=true
     · rw[if_pos c8] at h
       obtain rfl:=osi h
       exact Tri.of (x:=(aAN x5 x6 x7 x8)) aH sG [(sE x5 x6 x7 x8),df,df,df,df,df,df,df,df,df,df,df,df,df,df,.opt none,df,(aNY x8 x9),df,.rows (List.map aA [(x1,x2,x3,x4)]),.n ((x8++[(x1,x2,x3,x4)]).length),.n x8.length,dt,.rows (List.map aA (x8++[(x1,x2,x3,x4)])),r8] [⟨(aET aA x8 [(x1,x2,x3,x4)])⟩,⟨(aBP x8.length)⟩,⟨(aK aA x8)⟩,⟨c8⟩,⟨(by simp only[wl,List.length_map,List.map_nil,List.map_cons]<;>omega:x8.length+(List.map aA [(x1,x2,x3,x4)]).length=(x8++[(x1,x2,x3,x4)]).length)⟩,⟨(bA aA (l:=[(x1,x2,x3,x4)]) (n:=1) rfl)⟩,⟨(b8 aA (Nat.le_refl 1):0+1≤(List.map aA [(x1,x2,x3,x4)]).length)⟩,⟨(nF c7)⟩,⟨(l6 k 0 [] false 0 x1 x2 x3 x4 x5 x6 x7 x8 _ e6)⟩,⟨c5⟩,⟨(f4 .i64 (fun y=>AV.agg (aF y)) c4)⟩,⟨(nF c3)⟩,⟨c2⟩,⟨c2⟩,⟨c2⟩,⟨c2⟩,⟨c1⟩,⟨c1⟩,⟨c1⟩,⟨c1⟩,⟨c0⟩,⟨c0⟩,⟨c0⟩,⟨c0⟩,⟨(nF (nT rfl))⟩,⟨(dH x5 x6 x7 x8)⟩] (by kernel_rfl)
     rw[if_neg c8] at h;replace c8:=eqf c8
     cases h
   rw[if_neg c7] at h;replace c7:=eqf c7
   obtain rfl:=osi h
   exact Tri.of (x:=(aAN x5 x6 x7 x8)) aH sG [(sE x5 x6 x7 x8),df,df,df,df,df,df,df,df,df,df,df,df,df,df,.opt none,df,(aNY x8 x9),dt,r8] [⟨(nT c7)⟩,⟨(l6 k 0 [] false 0 x1 x2 x3 x4 x5 x6 x7 x8 _ e6)⟩,⟨c5⟩,⟨(f4 .i64 (fun y=>AV.agg (aF y)) c4)⟩,⟨(nF c3)⟩,⟨c2⟩,⟨c2⟩,⟨c2⟩,⟨c2⟩,⟨c1⟩,⟨c1⟩,⟨c1⟩,⟨c1⟩,⟨c0⟩,⟨c0⟩,⟨c0⟩,⟨c0⟩,⟨(nF (nT rfl))⟩,⟨(dH x5 x6 x7 x8)⟩] (by kernel_rfl)
 rw[if_neg c3] at h;replace c3:=eqf c3
 obtain rfl:=osi h
 exact Tri.of (x:=(aAN x5 x6 x7 x8)) aH sG [(sE x5 x6 x7 x8),df,df,df,df,df,df,df,df,df,df,df,df,df,dt,r8] [⟨(nT c3)⟩,⟨c2⟩,⟨c2⟩,⟨c2⟩,⟨c2⟩,⟨c1⟩,⟨c1⟩,⟨c1⟩,⟨c1⟩,⟨c0⟩,⟨c0⟩,⟨c0⟩,⟨c0⟩,⟨(nF (nT rfl))⟩,⟨(dH x5 x6 x7 x8)⟩] (by kernel_rfl)
end Go.Ws

namespace Go.Ws
open Go.Proofs
set_option linter.unusedSimpArgs false
set_option linter.unusedVariables false
set_option maxRecDepth 1000000
set_option maxHeartbeats 4000000
noncomputable def X27:Ctx:=⟨Try.f27,[],false⟩
noncomputable def L27_0:Code:=at_ Try.f27 [1,1,0,1,4,5]
def S27_0 (x1:Ty7) (dO:Int) (eM:aL) (eN:Ty8) (eG:Ty2) (eH:Ty7):St:=⟨mkT 26 [(4,(.hp 0 0)),(10,(.sl 4 (List.map aA x1))),(11,(.int .i64 (nI x1.length))),(12,(.int .i64 dO))],[(.row [(.sl 2 (List.map aB eM)),(.sl 3 (List.map aE eN)),(.mp 1),(.ref 4 2 0 0 eH.length .virt)]),(.map (aI .i64 (fun y=>AV.agg (aF y)) eG) eG.length),(.arr 4 (List.map aA eH) 0 0 false)]⟩
def aH7 (v27002_1:aL) (v27002_2:Ty8) (aLU:Ty2) (aLV:Ty7):St:=⟨mkT 26 [(4,(.hp 0 0))],[(.row [(.sl 2 (List.map aB v27002_1)),(.sl 3 (List.map aE v27002_2)),(.mp 1),(.ref 4 2 0 0 aLV.length .virt)]),(.map (aI .i64 (fun y=>AV.agg (aF y)) aLU) aLU.length),(.arr 4 (List.map aA aLV) 0 0 false)]⟩
def O27_0 (x1:Ty7) (y:Ty0):GX:=match y with
 | .inl y=>.st (.exit 0) (aH7 y.1 y.2.1 y.2.2.1 y.2.2.2)
 | .inr y=>.fin (Sum.elim (fun y=>(.tup [(.hp 0 0),(.int .i64 0)])) (fun y=>(.tup [.nilp,(.int .i64 4)])) y) (Sum.elim (fun y=>[(.row [(.sl 2 (List.map aB y.1)),(.sl 3 (List.map aE y.2.1)),(.mp 1),(.ref 4 2 0 0 y.2.2.2.length .virt)]),(.map (aI .i64 (fun y=>AV.agg (aF y)) y.2.2.1) y.2.2.1.length),(.arr 4 (List.map aA y.2.2.2) 0 0 false)]) (fun y=>[]) y)
def A27_0 (dA:Int × Int × aL × Ty8 × Ty2 × Ty7):Ans:=.call ⟨true,[]⟩ (.tup [(.int .i64 dA.2.1),(.int .i64 dA.1)]) [(.row [(.sl 2 (List.map aB dA.2.2.1)),(.sl 3 (List.map aE dA.2.2.2.1)),(.mp 1),(.ref 4 2 1 0 dA.2.2.2.2.2.length .virt)]),(.map (aI .i64 (fun y=>AV.agg (aF y)) dA.2.2.2.2.1) dA.2.2.2.2.1.length),(.arr 4 (List.map aA dA.2.2.2.2.2) 1 1 false)]
def A27_1:Ans:=.call ⟨true,[]⟩ (.hp 0 0) [(.row [.nils,.nils,(.mp 1),.nils]),(.map (aI .i64 (fun y=>AV.agg (aF y)) ([]:Ty2)) ([]:Ty2).length)]
def A27_2:Ans:=.norm 2 ⟨[(4,[]),(10,[]),(11,[]),(12,[])],[⟨.tmp 4,[(0,2),(1,3)],none⟩,⟨.cell 0 2,[],none⟩,⟨.cell 0 3,[],some 4⟩],false,[],[]⟩
theorem rD (x1:Ty7) (y:Ty0):∀(k:Nat) (dO:Int) (eM:aL) (eN:Ty8) (eG:Ty2) (eH:Ty7),fI k x1 dO eM eN eG eH=some y→LT Try.prog X27 L27_0 (S27_0 x1 dO eM eN eG eH) (O27_0 x1 y)
 | 0,dO,eM,eN,eG,eH,h=>by cases h
 | k+1,dO,eM,eN,eG,eH,h=>by
  rw[fI] at h
  by_cases cL0:ltI dO (nI x1.length)=true
  · rw[if_pos cL0] at h
    by_cases cL1:inI dO x1.length=true
    · rw[if_pos cL1] at h
      obtain⟨fD,eL2,h⟩:=bsm h
      obtain⟨dA,eL3,h⟩:=bsm h
      by_cases cL4:eqI dA.1 0=true
      · rw[if_pos cL4] at h
        exact LT.next aH (hs:=⟨[(4,[]),(10,[]),(11,[]),(12,[])],[⟨.tmp 4,[],none⟩,⟨.cell 0 2,[],none⟩,⟨.cell 0 3,[],some 4⟩],false,[],[]⟩) (es:=none) [dt,.n x1.length,.row [(.int .i64 fD.1),(.int .i64 fD.2.1),(.int .u8 fD.2.2.1),(.int .i64 fD.2.2.2)],(A27_0 dA),df,.n dA.2.2.2.2.2.length,.rows (List.map aA dA.2.2.2.2.2)] [⟨(dZ aA (l:=dA.2.2.2.2.2) (n:=dA.2.2.2.2.2.length) rfl)⟩,⟨(rfl:dA.2.2.2.2.2.length=dA.2.2.2.2.2.length)⟩,⟨(zle dA.2.2.2.2.2.length)⟩,⟨(nF cL4)⟩,⟨(qQ k fD.1 fD.2.1 fD.2.2.1 fD.2.2.2 eM eN eG eH _ eL3)⟩,⟨(aN (e:=aA) eL2 4 0 4 (by decide))⟩,⟨cL1⟩,⟨(aK aA x1)⟩,⟨cL0⟩] (by kernel_rfl) (rD x1 y k (aM .i64 dO 1) dA.2.2.1 dA.2.2.2.1 dA.2.2.2.2.1 dA.2.2.2.2.2 h)
      rw[if_neg cL4] at h;replace cL4:=eqf cL4
      obtain rfl:=osi h
      show LT _ _ _ _ (.fin (.tup [.nilp,(.int .i64 4)]) [])
      exact LT.done aH (hs:=⟨[],[],false,[],[]⟩) (es:=none) [dt,.n x1.length,.row [(.int .i64 fD.1),(.int .i64 fD.2.1),(.int .u8 fD.2.2.1),(.int .i64 fD.2.2.2)],(A27_0 dA),dt,.norm 0 ⟨[(2,[]),(3,[])],[],false,[],[]⟩] [⟨(nT cL4)⟩,⟨(qQ k fD.1 fD.2.1 fD.2.2.1 fD.2.2.2 eM eN eG eH _ eL3)⟩,⟨(aN (e:=aA) eL2 4 0 4 (by decide))⟩,⟨cL1⟩,⟨(aK aA x1)⟩,⟨cL0⟩] (by kernel_rfl) (fun s h=>by cases h)
    rw[if_neg cL1] at h;replace cL1:=eqf cL1
    cases h
  rw[if_neg cL0] at h;replace cL0:=eqf cL0
  obtain rfl:=osi h
  show LT _ _ _ _ (.st (.exit 0) (aH7 eM eN eG eH))
  exact LT.done aH (hs:=⟨[],[],false,[],[]⟩) (es:=(some ⟨[(4,[])],[⟨.tmp 4,[],none⟩,⟨.cell 0 2,[],none⟩,⟨.cell 0 3,[],none⟩],false,[],[]⟩)) [df] [⟨cL0⟩] (by kernel_rfl) (fun s h=>by cases h)
theorem zB (k:Nat) (x1:Ty7) (r:Ty1) (h:qG k x1=some r):Tri Try.prog 27 [(.sl 4 (List.map aA x1))] [] (Sum.elim (fun y=>(.tup [(.hp 0 0),(.int .i64 0)])) (fun y=>(.tup [.nilp,(.int .i64 4)])) r) (Sum.elim (fun y=>[(.row [(.sl 2 (List.map aB y.1)),(.sl 3 (List.map aE y.2.1)),(.mp 1),(.ref 4 2 0 0 y.2.2.2.length .virt)]),(.map (aI .i64 (fun y=>AV.agg (aF y)) y.2.2.1) y.2.2.1.length),(.arr 4 (List.map aA y.2.2.2) 0 0 false)]) (fun y=>[]) r):=by
 unfold qG at h
 obtain⟨x2,e0,h⟩:=bsm h
 cases x2 with
 | inl x3 =>
  simp only[Sum.elim_inl] at h
  obtain rfl:=osi h
  exact Tri.of (x:=X27) aH aOR [A27_1,.n x1.length,A27_2,.n 0,.rows (List.map aA []),.out (.st .normal (aH7 x3.1 x3.2.1 x3.2.2.1 x3.2.2.2)),.norm 0 ⟨[(2,[]),(3,[])],[⟨.tmp 2,[],none⟩,⟨.cell 0 2,[],none⟩,⟨.cell 0 3,[],none⟩],false,[],[]⟩] [⟨(LT.block (rD x1 _ k 0 [] [] ([]:Ty2) [] e0))⟩,⟨(dZ aA (l:=[]) (n:=0) rfl)⟩,⟨(rfl:0=0)⟩,⟨(zle 0)⟩,⟨(aK aA x1)⟩,⟨(lB)⟩] (by kernel_rfl)
 | inr x3 =>
  simp only[Sum.elim_inr] at h
  obtain rfl:=osi h
  exact Tri.of (x:=X27) aH aOR [A27_1,.n x1.length,A27_2,.n 0,.rows (List.map aA []),.out (.fin (Sum.elim (fun y=>(.tup [(.hp 0 0),(.int .i64 0)])) (fun y=>(.tup [.nilp,(.int .i64 4)])) x3) (Sum.elim (fun y=>[(.row [(.sl 2 (List.map aB y.1)),(.sl 3 (List.map aE y.2.1)),(.mp 1),(.ref 4 2 0 0 y.2.2.2.length .virt)]),(.map (aI .i64 (fun y=>AV.agg (aF y)) y.2.2.1) y.2.2.1.length),(.arr 4 (List.map aA y.2.2.2) 0 0 false)]) (fun y=>[]) x3))] [⟨(LT.blockFin (id:=0) (rD x1 _ k 0 [] [] ([]:Ty2) [] e0))⟩,⟨(dZ aA (l:=[]) (n:=0) rfl)⟩,⟨(rfl:0=0)⟩,⟨(zle 0)⟩,⟨(aK aA x1)⟩,⟨(lB)⟩] (by kernel_rfl)
end Go.Ws

namespace Go.Ws
open Go.Proofs
set_option linter.unusedSimpArgs false
set_option linter.unusedVariables false
set_option maxRecDepth 1000000
set_option maxHeartbeats 4000000
noncomputable def X9:Ctx:=⟨Try.f9,[],false⟩
noncomputable def L9_0:Code:=at_ Try.f9 [1,1,1,0,1,4,5]
def S9_0 (x1:Ty7) (eI:Int) (eL:aL):St:=⟨mkT 33 [(6,(.mp 0)),(17,(.sl 4 (List.map aA x1))),(18,(.int .i64 (nI x1.length))),(19,(.int .i64 eI))],[(.map (aI .i64 (fun y=>(aG y).headD aD) eL) eL.length)]⟩
def aL5 (aO0:aL):St:=⟨mkT 33 [(6,(.mp 0))],[(.map (aI .i64 (fun y=>(aG y).headD aD) aO0) aO0.length)]⟩
def O9_0 (x1:Ty7) (y:(aL)):GX:=.st (.exit 0) (aL5 y)
theorem rY (x1:Ty7) (y:(aL)):∀(k:Nat) (eI:Int) (eL:aL),fL k x1 eI eL=some y→LT Try.prog X9 L9_0 (S9_0 x1 eI eL) (O9_0 x1 y)
 | 0,eI,eL,h=>by cases h
 | k+1,eI,eL,h=>by
  rw[fL] at h
  by_cases cL0:ltI eI (nI x1.length)=true
  · rw[if_pos cL0] at h
    by_cases cL1:inI eI x1.length=true
    · rw[if_pos cL1] at h
      obtain⟨g8,eL2,h⟩:=bsm h
      by_cases cL3:eqI g8.1 6=true
      · rw[if_pos cL3] at h
        exact LT.next aH (hs:=⟨[(6,[]),(17,[]),(18,[]),(19,[])],[⟨.tmp 6,[],none⟩],false,[],[]⟩) (es:=none) [dt,.n x1.length,.row [(.int .i64 g8.1),(.int .i64 g8.2.1),(.int .u8 g8.2.2.1),(.int .i64 g8.2.2.2)],dt,.ents (aI .i64 (fun y=>(aG y).headD aD) (bE eL g8.2.1 g8.2.2.2)) (bE eL g8.2.1 g8.2.2.2).length] [⟨(lT .i64 (fun y=>(aG y).headD aD) eL g8.2.1 g8.2.2.2)⟩,⟨cL3⟩,⟨(aN (e:=aA) eL2 4 0 4 (by decide))⟩,⟨cL1⟩,⟨(aK aA x1)⟩,⟨cL0⟩] (by kernel_rfl) (rY x1 y k (aM .i64 eI 1) (bE eL g8.2.1 g8.2.2.2) h)
      rw[if_neg cL3] at h;replace cL3:=eqf cL3
      exact LT.next aH (hs:=⟨[(6,[]),(17,[]),(18,[]),(19,[])],[⟨.tmp 6,[],none⟩],false,[],[]⟩) (es:=none) [dt,.n x1.length,.row [(.int .i64 g8.1),(.int .i64 g8.2.1),(.int .u8 g8.2.2.1),(.int .i64 g8.2.2.2)],df] [⟨cL3⟩,⟨(aN (e:=aA) eL2 4 0 4 (by decide))⟩,⟨cL1⟩,⟨(aK aA x1)⟩,⟨cL0⟩] (by kernel_rfl) (rY x1 y k (aM .i64 eI 1) eL h)
    rw[if_neg cL1] at h;replace cL1:=eqf cL1
    cases h
  rw[if_neg cL0] at h;replace cL0:=eqf cL0
  obtain rfl:=osi h
  show LT _ _ _ _ (.st (.exit 0) (aL5 eL))
  exact LT.done aH (hs:=⟨[],[],false,[],[]⟩) (es:=(some ⟨[(6,[])],[⟨.tmp 6,[],none⟩],false,[],[]⟩)) [df] [⟨cL0⟩] (by kernel_rfl) (fun s h=>by cases h)
theorem aP (k:Nat) (x1:Ty7) (r:(Sum (aL) (Unit))) (h:kK k x1=some r):Tri Try.prog 9 [(.sl 4 (List.map aA x1))] [] (Sum.elim (fun y=>(.tup [(.mp 0),(.int .i64 0)])) (fun y=>(.tup [.mapn,(.int .i64 4)])) r) (Sum.elim (fun y=>[(.map (aI .i64 (fun y=>(aG y).headD aD) y) y.length)]) (fun y=>[]) r):=by
 unfold kK at h
 obtain⟨x2,e0,h⟩:=bsm h
 cases x2 with
 | inl x3 =>
  simp only[Sum.elim_inl] at h
  obtain⟨x5,e2,h⟩:=bsm h
  obtain rfl:=osi h
  exact Tri.of (x:=X9) aH facts9 [.call ⟨true,[]⟩ (.tup [(.hp 0 0),(.int .i64 0)]) [(.row [(.sl 2 (List.map aB x3.1)),(.sl 3 (List.map aE x3.2.1)),(.mp 1),(.ref 4 2 0 0 x3.2.2.2.length .virt)]),(.map (aI .i64 (fun y=>AV.agg (aF y)) x3.2.2.1) x3.2.2.1.length),(.arr 4 (List.map aA x3.2.2.2) 0 0 false)],df,.n x1.length,.norm 2 ⟨[(6,[]),(17,[]),(18,[]),(19,[])],[⟨.tmp 6,[],none⟩],false,[],[]⟩,.out (.st .normal (aL5 x5)),.norm 0 ⟨[(2,[]),(3,[])],[⟨.tmp 2,[],none⟩],false,[],[]⟩] [⟨(LT.block (rY x1 _ k 0 ([]:aL) e2))⟩,⟨(aK aA x1)⟩,⟨(nF (rfl:eqI 0 0=true))⟩,⟨(zB k x1 (.inl x3) e0)⟩] (by kernel_rfl)
 | inr x3 =>
  simp only[Sum.elim_inr] at h
  obtain rfl:=osi h
  exact Tri.of (x:=X9) aH facts9 [.call ⟨true,[]⟩ (.tup [.nilp,(.int .i64 4)]) [],dt,.norm 0 ⟨[(2,[]),(3,[])],[],false,[],[]⟩] [⟨(nT (rfl:eqI 4 0=false))⟩,⟨(zB k x1 (.inr x3) e0)⟩] (by kernel_rfl)
end Go.Ws

namespace Go.Ws
open Go.Proofs
set_option linter.unusedSimpArgs false
set_option linter.unusedVariables false
set_option maxRecDepth 1000000
set_option maxHeartbeats 4000000
noncomputable def X14:Ctx:=⟨Try.f14,[],true⟩
noncomputable def L14_2:Code:=at_ Try.f14 [1,1,1,0,1,4,5]
def S14_2 (x1:Ty7) (fJ:Int):St:=⟨mkT 39 [(4,.mapn),(5,(.int .i64 4)),(6,(.int .i64 0)),(14,(.sl 4 (List.map aA x1))),(15,(.int .i64 (nI x1.length))),(16,(.int .i64 fJ))],[]⟩
def aJG:St:=⟨mkT 39 [(5,(.int .i64 4)),(6,(.int .i64 0))],[]⟩
def O14_2 (x1:Ty7) (y:(Unit)):GX:=.st (.exit 0) (aJG)
noncomputable def L14_1:Code:=at_ Try.f14 [1,1,1,0,1,4,5]
def S14_1 (x1:Ty7) (x3:aL) (eO:Int) (dY:Int):St:=⟨mkT 39 [(4,(.mp 0)),(5,(.int .i64 0)),(6,(.int .i64 eO)),(14,(.sl 4 (List.map aA x1))),(15,(.int .i64 (nI x1.length))),(16,(.int .i64 dY))],[(.map (aI .i64 (fun y=>(aG y).headD aD) x3) x3.length)]⟩
def aIA (v14012_1:Int):St:=⟨mkT 39 [(5,(.int .i64 0)),(6,(.int .i64 v14012_1))],[]⟩
def O14_1 (x1:Ty7) (x3:aL) (y:(Int)):GX:=.st (.exit 0) (aIA y)
def A14_0 (kU:Int × Int × Int × Int):Ans:=.row [(.int .i64 kU.1),(.int .i64 kU.2.1),(.int .u8 kU.2.2.1),(.int .i64 kU.2.2.2)]
theorem tV (x1:Ty7) (y:(Unit)):∀(k:Nat) (fJ:Int),gJ k x1 fJ=some y→LT Try.prog X14 L14_2 (S14_2 x1 fJ) (O14_2 x1 y)
 | 0,fJ,h=>by cases h
 | k+1,fJ,h=>by
  rw[gJ] at h
  by_cases cL0:ltI fJ (nI x1.length)=true
  · rw[if_pos cL0] at h
    by_cases cL1:inI fJ x1.length=true
    · rw[if_pos cL1] at h
      obtain⟨zE,eL2,h⟩:=bsm h
      exact LT.next aH (hs:=⟨[(4,[]),(5,[]),(6,[]),(14,[]),(15,[]),(16,[])],[],false,[],[]⟩) (es:=none) [dt,.n x1.length,.row [(.int .i64 zE.1),(.int .i64 zE.2.1),(.int .u8 zE.2.2.1),(.int .i64 zE.2.2.2)],df,df,df,df,df,df,df,df,df,df,df] [⟨rF⟩,⟨rF⟩,⟨rF⟩,⟨rF⟩,⟨rF⟩,⟨rF⟩,⟨rF⟩,⟨(rfl:eqI 4 0=false)⟩,⟨(rfl:eqI 4 0=false)⟩,⟨(rfl:eqI 4 0=false)⟩,⟨(rfl:eqI 4 0=false)⟩,⟨(aN (e:=aA) eL2 4 0 4 (by decide))⟩,⟨cL1⟩,⟨(aK aA x1)⟩,⟨cL0⟩] (by kernel_rfl) (tV x1 y k (aM .i64 fJ 1) h)
    rw[if_neg cL1] at h;replace cL1:=eqf cL1
    cases h
  rw[if_neg cL0] at h;replace cL0:=eqf cL0
  obtain rfl:=osi h
  show LT _ _ _ _ (.st (.exit 0) (aJG))
  exact LT.done aH (hs:=⟨[],[],false,[],[]⟩) (es:=(some ⟨[(5,[]),(6,[])],[],false,[],[]⟩)) [df] [⟨cL0⟩] (by kernel_rfl) (fun s h=>by cases h)
theorem kJ (x1:Ty7) (x3:aL) (y:(Int)):∀(k:Nat) (eO:Int) (dY:Int),eB k x1 x3 eO dY=some y→LT Try.prog X14 L14_1 (S14_1 x1 x3 eO dY) (O14_1 x1 x3 y)
 | 0,eO,dY,h=>by cases h
 | k+1,eO,dY,h=>by
  rw[eB] at h
  by_cases cL0:ltI dY (nI x1.length)=true
  · rw[if_pos cL0] at h
    by_cases cL1:inI dY x1.length=true
    · rw[if_pos cL1] at h
      obtain⟨kU,eL2,h⟩:=bsm h
      by_cases cL3:eqI kU.1 5=true
      · rw[if_pos cL3] at h
        by_cases cL4:lS x3 kU.2.1=true
        · rw[if_pos cL4] at h
          obtain⟨zF,eL5,h⟩:=bsm h
          by_cases cL6:eqI zF 2=true
          · rw[if_pos cL6] at h
            exact LT.next aH (hs:=⟨[(4,[]),(5,[]),(6,[]),(14,[]),(15,[]),(16,[])],[⟨.tmp 4,[],none⟩],false,[],[]⟩) (es:=none) [dt,.n x1.length,(A14_0 kU),dt,dt,dt,dt,dt,dt,dt,dt,.opt (some (.int .i64 zF)),dt,dt,dt] [⟨cL6⟩,⟨cL3⟩,⟨cL3⟩,⟨(bU .i64 (fun y=>(aG y).headD aD) eL5)⟩,⟨cL3⟩,⟨cL3⟩,⟨cL3⟩,⟨cL3⟩,⟨(rfl:eqI 0 0=true)⟩,⟨(rfl:eqI 0 0=true)⟩,⟨(rfl:eqI 0 0=true)⟩,⟨(rfl:eqI 0 0=true)⟩,⟨(aN (e:=aA) eL2 4 0 4 (by decide))⟩,⟨cL1⟩,⟨(aK aA x1)⟩,⟨cL0⟩] (by kernel_rfl) (kJ x1 x3 y k (aM .i64 eO 1) (aM .i64 dY 1) h)
          rw[if_neg cL6] at h;replace cL6:=eqf cL6
          exact LT.next aH (hs:=⟨[(4,[]),(5,[]),(6,[]),(14,[]),(15,[]),(16,[])],[⟨.tmp 4,[],none⟩],false,[],[]⟩) (es:=none) [dt,.n x1.length,(A14_0 kU),dt,dt,dt,dt,dt,dt,dt,dt,.opt (some (.int .i64 zF)),dt,dt,df] [⟨cL6⟩,⟨cL3⟩,⟨cL3⟩,⟨(bU .i64 (fun y=>(aG y).headD aD) eL5)⟩,⟨cL3⟩,⟨cL3⟩,⟨cL3⟩,⟨cL3⟩,⟨(rfl:eqI 0 0=true)⟩,⟨(rfl:eqI 0 0=true)⟩,⟨(rfl:eqI 0 0=true)⟩,⟨(rfl:eqI 0 0=true)⟩,⟨(aN (e:=aA) eL2 4 0 4 (by decide))⟩,⟨cL1⟩,⟨(aK aA x1)⟩,⟨cL0⟩] (by kernel_rfl) (kJ x1 x3 y k eO (aM .i64 dY 1) h)
        rw[if_neg cL4] at h;replace cL4:=eqf cL4
        exact LT.next aH (hs:=⟨[(4,[]),(5,[]),(6,[]),(14,[]),(15,[]),(16,[])],[⟨.tmp 4,[],none⟩],false,[],[]⟩) (es:=none) [dt,.n x1.length,(A14_0 kU),dt,dt,dt,dt,dt,dt,dt,dt,.opt none,dt,dt,df] [⟨(rfl:eqI 0 2=false)⟩,⟨cL3⟩,⟨cL3⟩,⟨(f4 .i64 (fun y=>(aG y).headD aD) cL4)⟩,⟨cL3⟩,⟨cL3⟩,⟨cL3⟩,⟨cL3⟩,⟨(rfl:eqI 0 0=true)⟩,⟨(rfl:eqI 0 0=true)⟩,⟨(rfl:eqI 0 0=true)⟩,⟨(rfl:eqI 0 0=true)⟩,⟨(aN (e:=aA) eL2 4 0 4 (by decide))⟩,⟨cL1⟩,⟨(aK aA x1)⟩,⟨cL0⟩] (by kernel_rfl) (kJ x1 x3 y k eO (aM .i64 dY 1) h)
      rw[if_neg cL3] at h;replace cL3:=eqf cL3
      exact LT.next aH (hs:=⟨[(4,[]),(5,[]),(6,[]),(14,[]),(15,[]),(16,[])],[⟨.tmp 4,[],none⟩],false,[],[]⟩) (es:=none) [dt,.n x1.length,(A14_0 kU),dt,dt,dt,dt,df,df,df,df,df,df,df] [⟨rF⟩,⟨cL3⟩,⟨cL3⟩,⟨cL3⟩,⟨cL3⟩,⟨cL3⟩,⟨cL3⟩,⟨(rfl:eqI 0 0=true)⟩,⟨(rfl:eqI 0 0=true)⟩,⟨(rfl:eqI 0 0=true)⟩,⟨(rfl:eqI 0 0=true)⟩,⟨(aN (e:=aA) eL2 4 0 4 (by decide))⟩,⟨cL1⟩,⟨(aK aA x1)⟩,⟨cL0⟩] (by kernel_rfl) (kJ x1 x3 y k eO (aM .i64 dY 1) h)
    rw[if_neg cL1] at h;replace cL1:=eqf cL1
    cases h
  rw[if_neg cL0] at h;replace cL0:=eqf cL0
  obtain rfl:=osi h
  show LT _ _ _ _ (.st (.exit 0) (aIA eO))
  exact LT.done aH (hs:=⟨[],[],false,[],[]⟩) (es:=(some ⟨[(5,[]),(6,[])],[],false,[],[]⟩)) [df] [⟨cL0⟩] (by kernel_rfl) (fun s h=>by cases h)
theorem b5 (k:Nat) (x1:Ty7) (r:Int × Int) (h:mM k x1=some r):Tri Try.prog 14 [(.sl 4 (List.map aA x1))] [] (.tup [(.int .i64 r.1),(.int .i64 r.2)]) []:=by
 unfold mM at h
 obtain⟨x2,e0,h⟩:=bsm h
 cases x2 with
 | inl x3 =>
  simp only[Sum.elim_inl] at h
  obtain⟨x5,e2,h⟩:=bsm h
  obtain rfl:=osi h
  exact Tri.of (x:=X14) aH aON [.call ⟨true,[]⟩ (.tup [(.mp 0),(.int .i64 0)]) [(.map (aI .i64 (fun y=>(aG y).headD aD) x3) x3.length)],.n x1.length,.norm 2 ⟨[(4,[]),(5,[]),(6,[]),(14,[]),(15,[]),(16,[])],[⟨.tmp 4,[],none⟩],false,[],[]⟩,.out (.st .normal (aIA x5))] [⟨(LT.block (kJ x1 x3 _ k 0 0 e2))⟩,⟨(aK aA x1)⟩,⟨(aP k x1 (.inl x3) e0)⟩] (by kernel_rfl)
 | inr x3 =>
  simp only[Sum.elim_inr] at h
  obtain⟨x5,e2,h⟩:=bsm h
  obtain rfl:=osi h
  exact Tri.of (x:=X14) aH aON [.call ⟨true,[]⟩ (.tup [.mapn,(.int .i64 4)]) [],.n x1.length,.norm 2 ⟨[(4,[]),(5,[]),(6,[]),(14,[]),(15,[]),(16,[])],[],false,[],[]⟩,.out (.st .normal (aJG))] [⟨(LT.block (tV x1 _ k 0 e2))⟩,⟨(aK aA x1)⟩,⟨(aP k x1 (.inr x3) e0)⟩] (by kernel_rfl)
end Go.Ws

namespace Go.Ws
open Go.Proofs
set_option linter.unusedSimpArgs false
set_option linter.unusedVariables false
set_option maxRecDepth 1000000
set_option maxHeartbeats 4000000
noncomputable def X12:Ctx:=⟨Try.f12,[],true⟩
noncomputable def L12_0:Code:=at_ Try.f12 [1,1,1,1,0,1,4,5]
def S12_0 (x1:Ty7) (x3:aL) (cI:Int) (aR:aL):St:=⟨mkT 46 [(4,(.mp 0)),(6,(.ref 2 1 0 0 aR.length .virt)),(17,(.sl 4 (List.map aA x1))),(18,(.int .i64 (nI x1.length))),(19,(.int .i64 cI))],[(.map (aI .i64 (fun y=>(aG y).headD aD) x3) x3.length),(.arr 2 (List.map aB aR) 0 0 false)]⟩
def aJZ (aLW:aL):St:=⟨mkT 46 [(6,(.ref 2 0 0 0 aLW.length .virt))],[(.arr 2 (List.map aB aLW) 0 0 false)]⟩
def O12_0 (x1:Ty7) (x3:aL) (y:(aL)):GX:=.st (.exit 0) (aJZ y)
def A12_0 (cK:Int × Int × Int × Int):Ans:=.row [(.int .i64 cK.1),(.int .i64 cK.2.1),(.int .u8 cK.2.2.1),(.int .i64 cK.2.2.2)]
theorem kN (x1:Ty7) (x3:aL) (y:(aL)):∀(k:Nat) (cI:Int) (aR:aL),dF k x1 x3 cI aR=some y→LT Try.prog X12 L12_0 (S12_0 x1 x3 cI aR) (O12_0 x1 x3 y)
 | 0,cI,aR,h=>by cases h
 | k+1,cI,aR,h=>by
  rw[dF] at h
  by_cases cL0:ltI cI (nI x1.length)=true
  · rw[if_pos cL0] at h
    by_cases cL1:inI cI x1.length=true
    · rw[if_pos cL1] at h
      obtain⟨cK,eL2,h⟩:=bsm h
      by_cases cL3:eqI cK.1 3=true
      · rw[if_pos cL3] at h
        by_cases cL4:lS x3 cK.2.1=true
        · rw[if_pos cL4] at h
          obtain⟨uO,eL5,h⟩:=bsm h
          by_cases cL6:eqI uO 1=true
          · rw[if_pos cL6] at h
            by_cases cL7:dV (((aR++[cK.2.2]).length)*16)=true
            · rw[if_pos cL7] at h
              exact LT.next aH (hs:=⟨[(4,[]),(6,[]),(17,[]),(18,[]),(19,[])],[⟨.tmp 4,[],none⟩,⟨.tmp 6,[],some 2⟩],false,[],[]⟩) (es:=none) [dt,.n x1.length,(A12_0 cK),dt,dt,dt,dt,.opt (some (.int .i64 uO)),dt,dt,dt,.rows (List.map aB [cK.2.2]),.n ((aR++[cK.2.2]).length),.n aR.length,dt,.rows (List.map aB (aR++[cK.2.2])),.n ((aR++[cK.2.2]).length),.rows (List.map aB (aR++[cK.2.2]))] [⟨(dZ aB (l:=(aR++[cK.2.2])) (n:=((aR++[cK.2.2]).length)) rfl)⟩,⟨(rfl:(aR++[cK.2.2]).length=(aR++[cK.2.2]).length)⟩,⟨(zle ((aR++[cK.2.2]).length))⟩,⟨(aET aB aR [cK.2.2])⟩,⟨(aBP aR.length)⟩,⟨(aK aB aR)⟩,⟨cL7⟩,⟨(by simp only[wl,List.length_map,List.map_nil,List.map_cons]<;>omega:aR.length+(List.map aB [cK.2.2]).length=(aR++[cK.2.2]).length)⟩,⟨(bA aB (l:=[cK.2.2]) (n:=1) rfl)⟩,⟨(b8 aB (Nat.le_refl 1):0+1≤(List.map aB [cK.2.2]).length)⟩,⟨cL6⟩,⟨cL3⟩,⟨cL3⟩,⟨(bU .i64 (fun y=>(aG y).headD aD) eL5)⟩,⟨cL3⟩,⟨cL3⟩,⟨cL3⟩,⟨cL3⟩,⟨(aN (e:=aA) eL2 4 0 4 (by decide))⟩,⟨cL1⟩,⟨(aK aA x1)⟩,⟨cL0⟩] (by kernel_rfl) (kN x1 x3 y k (aM .i64 cI 1) (aR++[cK.2.2]) h)
            rw[if_neg cL7] at h;replace cL7:=eqf cL7
            cases h
          rw[if_neg cL6] at h;replace cL6:=eqf cL6
          exact LT.next aH (hs:=⟨[(4,[]),(6,[]),(17,[]),(18,[]),(19,[])],[⟨.tmp 4,[],none⟩,⟨.tmp 6,[],some 2⟩],false,[],[]⟩) (es:=none) [dt,.n x1.length,(A12_0 cK),dt,dt,dt,dt,.opt (some (.int .i64 uO)),dt,dt,df,.n aR.length,.rows (List.map aB aR)] [⟨(dZ aB (l:=aR) (n:=aR.length) rfl)⟩,⟨(rfl:aR.length=aR.length)⟩,⟨(zle aR.length)⟩,⟨cL6⟩,⟨cL3⟩,⟨cL3⟩,⟨(bU .i64 (fun y=>(aG y).headD aD) eL5)⟩,⟨cL3⟩,⟨cL3⟩,⟨cL3⟩,⟨cL3⟩,⟨(aN (e:=aA) eL2 4 0 4 (by decide))⟩,⟨cL1⟩,⟨(aK aA x1)⟩,⟨cL0⟩] (by kernel_rfl) (kN x1 x3 y k (aM .i64 cI 1) aR h)
        rw[if_neg cL4] at h;replace cL4:=eqf cL4
        exact LT.next aH (hs:=⟨[(4,[]),(6,[]),(17,[]),(18,[]),(19,[])],[⟨.tmp 4,[],none⟩,⟨.tmp 6,[],some 2⟩],false,[],[]⟩) (es:=none) [dt,.n x1.length,(A12_0 cK),dt,dt,dt,dt,.opt none,dt,dt,df,.n aR.length,.rows (List.map aB aR)] [⟨(dZ aB (l:=aR) (n:=aR.length) rfl)⟩,⟨(rfl:aR.length=aR.length)⟩,⟨(zle aR.length)⟩,⟨(rfl:eqI 0 1=false)⟩,⟨cL3⟩,⟨cL3⟩,⟨(f4 .i64 (fun y=>(aG y).headD aD) cL4)⟩,⟨cL3⟩,⟨cL3⟩,⟨cL3⟩,⟨cL3⟩,⟨(aN (e:=aA) eL2 4 0 4 (by decide))⟩,⟨cL1⟩,⟨(aK aA x1)⟩,⟨cL0⟩] (by kernel_rfl) (kN x1 x3 y k (aM .i64 cI 1) aR h)
      rw[if_neg cL3] at h;replace cL3:=eqf cL3
      exact LT.next aH (hs:=⟨[(4,[]),(6,[]),(17,[]),(18,[]),(19,[])],[⟨.tmp 4,[],none⟩,⟨.tmp 6,[],some 2⟩],false,[],[]⟩) (es:=none) [dt,.n x1.length,(A12_0 cK),df,df,df,df,df,df,df,.n aR.length,.rows (List.map aB aR)] [⟨(dZ aB (l:=aR) (n:=aR.length) rfl)⟩,⟨(rfl:aR.length=aR.length)⟩,⟨(zle aR.length)⟩,⟨rF⟩,⟨cL3⟩,⟨cL3⟩,⟨cL3⟩,⟨cL3⟩,⟨cL3⟩,⟨cL3⟩,⟨(aN (e:=aA) eL2 4 0 4 (by decide))⟩,⟨cL1⟩,⟨(aK aA x1)⟩,⟨cL0⟩] (by kernel_rfl) (kN x1 x3 y k (aM .i64 cI 1) aR h)
    rw[if_neg cL1] at h;replace cL1:=eqf cL1
    cases h
  rw[if_neg cL0] at h;replace cL0:=eqf cL0
  obtain rfl:=osi h
  show LT _ _ _ _ (.st (.exit 0) (aJZ aR))
  exact LT.done aH (hs:=⟨[],[],false,[],[]⟩) (es:=(some ⟨[(6,[])],[⟨.tmp 6,[],none⟩],false,[],[]⟩)) [df] [⟨cL0⟩] (by kernel_rfl) (fun s h=>by cases h)
theorem bF (k:Nat) (x1:Ty7) (r:aL × Int) (h:lI k x1=some r):Tri Try.prog 12 [(.sl 4 (List.map aA x1))] [] (.tup [(.sl 2 (List.map aB r.1)),(.int .i64 r.2)]) []:=by
 unfold lI at h
 obtain⟨x2,e0,h⟩:=bsm h
 cases x2 with
 | inl x3 =>
  simp only[Sum.elim_inl] at h
  obtain⟨x5,e2,h⟩:=bsm h
  obtain⟨x6,e4,h⟩:=bsm h
  obtain rfl:=osi h
  exact Tri.of (x:=X12) aH aND [.call ⟨true,[]⟩ (.tup [(.mp 0),(.int .i64 0)]) [(.map (aI .i64 (fun y=>(aG y).headD aD) x3) x3.length)],df,.n x1.length,.norm 2 ⟨[(4,[]),(6,[]),(17,[]),(18,[]),(19,[])],[⟨.tmp 4,[],none⟩,⟨.tmp 6,[],some 2⟩],false,[],[]⟩,.n 0,.rows (List.map aB []),.out (.st .normal (aJZ x5)),.call ⟨true,[[(0,2)]]⟩ (.tup [(.sl 2 (List.map aB x6.1)),(.int .i64 x6.2)]) [],.rows (List.map aB x5)] [⟨(nK k [] x5 _ e4)⟩,⟨(bA aB (l:=x5) (n:=x5.length) rfl)⟩,⟨(b8 aB (Nat.le_refl x5.length):0+x5.length≤(List.map aB x5).length)⟩,⟨(LT.block (kN x1 x3 _ k 0 [] e2))⟩,⟨(dZ aB (l:=[]) (n:=0) rfl)⟩,⟨(rfl:0=0)⟩,⟨(zle 0)⟩,⟨(aK aA x1)⟩,⟨(nF (rfl:eqI 0 0=true))⟩,⟨(aP k x1 (.inl x3) e0)⟩] (by kernel_rfl)
 | inr x3 =>
  simp only[Sum.elim_inr] at h
  obtain rfl:=osi h
  exact Tri.of (x:=X12) aH aND [.call ⟨true,[]⟩ (.tup [.mapn,(.int .i64 4)]) [],dt,.norm 0 ⟨[(2,[(0,2)]),(3,[])],[],false,[],[]⟩] [⟨(nT (rfl:eqI 4 0=false))⟩,⟨(aP k x1 (.inr x3) e0)⟩] (by kernel_rfl)
end Go.Ws

namespace Go.Ws
open Go.Proofs
set_option linter.unusedSimpArgs false
set_option linter.unusedVariables false
set_option maxRecDepth 1000000
set_option maxHeartbeats 4000000
theorem yM (x1:aL):Tri Try.prog 18 [(.ps [(.mp 0),.mapn,(.mp 0)])] [(.map (aI .i64 (fun y=>(aG y).headD aD) x1) x1.length)] (.bool (qH x1)) [(.map (aI .i64 (fun y=>(aG y).headD aD) x1) x1.length)]:=aP5
end Go.Ws

namespace Go.Ws
open Go.Proofs
set_option linter.unusedSimpArgs false
set_option linter.unusedVariables false
set_option maxRecDepth 1000000
set_option maxHeartbeats 4000000
theorem aDD (x1:aL) (x2:aL):Tri Try.prog 18 [(.ps [(.mp 0),(.mp 1)])] [(.map (aI .i64 (fun y=>(aG y).headD aD) x1) x1.length),(.map (aI .i64 (fun y=>(aG y).headD aD) x2) x2.length)] (.bool (pF x1 x2)) [(.map (aI .i64 (fun y=>(aG y).headD aD) x1) x1.length),(.map (aI .i64 (fun y=>(aG y).headD aD) x2) x2.length)]:=agree_01
end Go.Ws
