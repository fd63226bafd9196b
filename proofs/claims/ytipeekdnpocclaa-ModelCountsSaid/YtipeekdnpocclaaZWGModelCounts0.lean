/-
  Walks, merged.
  Conditions: none.
-/
import Derived.Test.YtipeekdnpocclaaZPre
import Derived.Test.YtipeekdnpocclaaZPure
import Derived.Test.YtipeekdnpocclaaZIns72
import Derived.Test.YtipeekdnpocclaaZDel45
import Derived.Test.YtipeekdnpocclaaZIns44
import Derived.Test.YtipeekdnpocclaaZOppI
import Derived.Test.YtipeekdnpocclaaZAgr
set_option linter.unusedVariables false
set_option linter.unusedSimpArgs false
namespace Go.Ws
open Go.Proofs
set_option linter.unusedSimpArgs false
set_option linter.unusedVariables false
set_option maxRecDepth 1000000
set_option maxHeartbeats 4000000
noncomputable def X26:Ctx:=⟨Try.f26,[],true⟩
theorem bQ:Tri Try.prog 26 [] [] (.sl 4 (List.map aA (aC))) []:=by
 obtain⟨r,h⟩:∃r,aC=r:=⟨_,rfl⟩
 try rw[h]
 unfold aC at h
 obtain rfl:=h
 exact Tri.of (x:=X26) aH facts26 [.rows (List.map aA [(1,1,0,0),(3,1,0,5),(4,1,0,1),(5,1,0,0),(6,1,0,2)])] [⟨(bC aA (l:=[(1,1,0,0),(3,1,0,5),(4,1,0,1),(5,1,0,0),(6,1,0,2)]) (n:=5) rfl)⟩,⟨(cJ aA (Nat.le_refl 5):0+5≤(List.map aA [(1,1,0,0),(3,1,0,5),(4,1,0,1),(5,1,0,0),(6,1,0,2)]).length)⟩] (by kernel_rfl)
end Go.Ws

namespace Go.Ws
open Go.Proofs
set_option linter.unusedSimpArgs false
set_option linter.unusedVariables false
set_option maxRecDepth 1000000
set_option maxHeartbeats 4000000
noncomputable def X20:Ctx:=⟨Try.f20,[],false⟩
theorem j1:Tri Try.prog 20 [] [] (.hp 0 0) [(.row [.nils,.nils,(.mp 1),.nils]),(.map (aJ .i64 (fun y=>AV.agg (aF y)) ([]:Ty2)) ([]:Ty2).length)]:=by
 obtain⟨r,h⟩:∃r,aEV=r:=⟨_,rfl⟩
 try rw[h]
 unfold aEV at h
 obtain rfl:=h
 exact Tri.of (x:=X20) aH facts20 [.norm 0 ⟨[(0,[])],[⟨.tmp 0,[],none⟩,⟨.cell 0 2,[],none⟩],false,[],[]⟩] [] (by kernel_rfl)
end Go.Ws

namespace Go.Ws
open Go.Proofs
set_option linter.unusedSimpArgs false
set_option linter.unusedVariables false
set_option maxRecDepth 1000000
set_option maxHeartbeats 4000000
noncomputable def X67_1001:Ctx:=⟨Try.f67,[],false⟩
theorem yI (k:Nat) (x1:Ty8) (r:Unit) (h:jI k x1=some r):Tri Try.prog 67 [(.inl 3 (List.map aE x1))] [] (.ref 3 0 0 0 x1.length .virt) [(.arr 3 (List.map aE x1) 0 0 false)]:=by
 unfold jI at h
 by_cases c0:dR (x1.length*24)=true
 · rw[if_pos c0] at h
   obtain rfl:=osi h
   exact Tri.of (x:=X67_1001) aH aMC [df,.n x1.length,.norm 0 ⟨[(2,[])],[⟨.tmp 2,[],some 3⟩],false,[],[]⟩,.n x1.length,.rows (List.map aE x1)] [⟨(dW aE (l:=x1) (n:=x1.length) rfl)⟩,⟨(rfl:x1.length=x1.length)⟩,⟨(zle x1.length)⟩,⟨c0⟩,⟨(aK aE x1)⟩,⟨rF⟩] (by kernel_rfl)
 rw[if_neg c0] at h;replace c0:=eqf c0
 cases h
end Go.Ws

namespace Go.Ws
open Go.Proofs
set_option linter.unusedSimpArgs false
set_option linter.unusedVariables false
set_option maxRecDepth 1000000
set_option maxHeartbeats 4000000
noncomputable def X67_1002:Ctx:=⟨Try.f67,[],false⟩
theorem yM:Tri Try.prog 67 [.nils] [] (.ref 3 0 0 0 0 .virt) [(.arr 3 (List.map aE []) 0 0 false)]:=by
 obtain⟨r,h⟩:∃r,qL=r:=⟨_,rfl⟩
 try rw[h]
 unfold qL at h
 obtain rfl:=h
 exact Tri.of (x:=X67_1002) aH aMC [dt,.norm 0 ⟨[(2,[])],[⟨.tmp 2,[],some 3⟩],false,[],[]⟩,.n 0,.rows (List.map aE [])] [⟨(dW aE (l:=[]) (n:=0) rfl)⟩,⟨(rfl:0=0)⟩,⟨(zle 0)⟩,⟨rT⟩] (by kernel_rfl)
end Go.Ws

namespace Go.Ws
open Go.Proofs
set_option linter.unusedSimpArgs false
set_option linter.unusedVariables false
set_option maxRecDepth 1000000
set_option maxHeartbeats 4000000
theorem jN (k:Nat) (x1:Ty8) (r:Unit) (h:oF k x1=some r):Tri Try.prog 67 [(.sl 3 (List.map aE x1))] [] (.ref 3 0 0 0 x1.length .virt) [(.arr 3 (List.map aE x1) 0 0 false)]:=by
 refine Tri.slOf (yI k x1 r h) fun h0=>?_
 have hx:x1=[]:=by simpa using h0
 subst hx
 exact yM
end Go.Ws

namespace Go.Ws
open Go.Proofs
set_option linter.unusedSimpArgs false
set_option linter.unusedVariables false
set_option maxRecDepth 1000000
set_option maxHeartbeats 4000000
noncomputable def X69:Ctx:=⟨Try.f69,[],true⟩
theorem iQ (x1:Int) (x2:Int):Tri Try.prog 69 [(.int .i64 x1),(.int .u8 x2)] [] (.bool (iH x1 x2)) []:=by
 obtain⟨r,h⟩:∃r,iH x1 x2=r:=⟨_,rfl⟩
 try rw[h]
 unfold iH at h
 by_cases c0:ltI x2 64=true
 · rw[if_pos c0] at h
   by_cases c1:ltI x1 0=true
   · rw[if_pos c1] at h
     obtain rfl:=h
     exact Tri.of (x:=X69) aH aHX [dt,dt,dt,df,df,df] [⟨(nF c1)⟩,⟨(nF c1)⟩,⟨(nF c1)⟩,⟨c0⟩,⟨c0⟩,⟨c0⟩] (by kernel_rfl)
   rw[if_neg c1] at h;replace c1:=eqf c1
   obtain rfl:=h
   exact Tri.of (x:=X69) aH aHX [dt,dt,dt,dt,dt,dt] [⟨(nT c1)⟩,⟨(nT c1)⟩,⟨(nT c1)⟩,⟨c0⟩,⟨c0⟩,⟨c0⟩] (by kernel_rfl)
 rw[if_neg c0] at h;replace c0:=eqf c0
 obtain rfl:=h
 exact Tri.of (x:=X69) aH aHX [df,df,df,df,df,df] [⟨rF⟩,⟨rF⟩,⟨rF⟩,⟨c0⟩,⟨c0⟩,⟨c0⟩] (by kernel_rfl)
end Go.Ws

namespace Go.Ws
open Go.Proofs
set_option linter.unusedSimpArgs false
set_option linter.unusedVariables false
set_option maxRecDepth 1000000
set_option maxHeartbeats 4000000
noncomputable def X65:Ctx:=⟨Try.f65,[],true⟩
theorem gT (x1:Int):Tri Try.prog 65 [(.int .u8 x1)] [] (.bool (iO x1)) []:=by
 obtain⟨r,h⟩:∃r,iO x1=r:=⟨_,rfl⟩
 try rw[h]
 unfold iO at h
 obtain rfl:=h
 exact Tri.of (x:=X65) aH facts65 [] [] (by kernel_rfl)
end Go.Ws

namespace Go.Ws
open Go.Proofs
set_option linter.unusedSimpArgs false
set_option linter.unusedVariables false
set_option maxRecDepth 1000000
set_option maxHeartbeats 4000000
noncomputable def X53:Ctx:=⟨Try.f53,[],true⟩
def aGM (x1:Int):Ans:=.call ⟨true,[]⟩ (.bool (iO x1)) []
def aG7 (x2:Int):Ans:=.call ⟨true,[]⟩ (.bool (iO x2)) []
theorem yJ (x1:Int) (x2:Int):Tri Try.prog 53 [(.int .u8 x1),(.int .u8 x2)] [] (.int .i64 (bK x1 x2)) []:=by
 obtain⟨r,h⟩:∃r,bK x1 x2=r:=⟨_,rfl⟩
 try rw[h]
 unfold bK at h
 by_cases c0:(iO x1)=true
 · rw[if_pos c0] at h
   by_cases c1:(iO x2)=true
   · rw[if_pos c1] at h
     obtain rfl:=h
     exact Tri.of (x:=X53) aH yU [(aGM x1),(aG7 x2),dt,dt] [⟨c1⟩,⟨c0⟩,⟨(gT x2)⟩,⟨(gT x1)⟩] (by kernel_rfl)
   rw[if_neg c1] at h;replace c1:=eqf c1
   obtain rfl:=h
   exact Tri.of (x:=X53) aH yU [(aGM x1),(aG7 x2),dt,df] [⟨c1⟩,⟨c0⟩,⟨(gT x2)⟩,⟨(gT x1)⟩] (by kernel_rfl)
 rw[if_neg c0] at h;replace c0:=eqf c0
 by_cases c1:(iO x2)=true
 · rw[if_pos c1] at h
   obtain rfl:=h
   exact Tri.of (x:=X53) aH yU [(aGM x1),(aG7 x2),df,dt] [⟨c1⟩,⟨c0⟩,⟨(gT x2)⟩,⟨(gT x1)⟩] (by kernel_rfl)
 rw[if_neg c1] at h;replace c1:=eqf c1
 by_cases c2:ltI x1 x2=true
 · rw[if_pos c2] at h
   obtain rfl:=h
   exact Tri.of (x:=X53) aH yU [(aGM x1),(aG7 x2),df,df,dt] [⟨c2⟩,⟨c1⟩,⟨c0⟩,⟨(gT x2)⟩,⟨(gT x1)⟩] (by kernel_rfl)
 rw[if_neg c2] at h;replace c2:=eqf c2
 by_cases c3:ltI x2 x1=true
 · rw[if_pos c3] at h
   obtain rfl:=h
   exact Tri.of (x:=X53) aH yU [(aGM x1),(aG7 x2),df,df,df,dt] [⟨c3⟩,⟨c2⟩,⟨c1⟩,⟨c0⟩,⟨(gT x2)⟩,⟨(gT x1)⟩] (by kernel_rfl)
 rw[if_neg c3] at h;replace c3:=eqf c3
 obtain rfl:=h
 exact Tri.of (x:=X53) aH yU [(aGM x1),(aG7 x2),df,df,df,df] [⟨c3⟩,⟨c2⟩,⟨c1⟩,⟨c0⟩,⟨(gT x2)⟩,⟨(gT x1)⟩] (by kernel_rfl)
end Go.Ws

namespace Go.Ws
open Go.Proofs
set_option linter.unusedSimpArgs false
set_option linter.unusedVariables false
set_option maxRecDepth 1000000
set_option maxHeartbeats 4000000
noncomputable def X100:Ctx:=⟨Try.f100,[],true⟩
theorem d7 (x1:Int):Tri Try.prog 100 [(.int .i64 x1)] [] (.bool (eT x1)) []:=by
 obtain⟨r,h⟩:∃r,eT x1=r:=⟨_,rfl⟩
 try rw[h]
 unfold eT at h
 obtain rfl:=h
 exact Tri.of (x:=X100) aH facts100 [] [] (by kernel_rfl)
end Go.Ws

namespace Go.Ws
open Go.Proofs
set_option linter.unusedSimpArgs false
set_option linter.unusedVariables false
set_option maxRecDepth 1000000
set_option maxHeartbeats 4000000
noncomputable def X88:Ctx:=⟨Try.f88,[],true⟩
def aG4 (x1:Int):Ans:=.call ⟨true,[]⟩ (.bool (eT x1)) []
def aGK (x2:Int):Ans:=.call ⟨true,[]⟩ (.bool (eT x2)) []
theorem aBM (x1:Int) (x2:Int):Tri Try.prog 88 [(.int .i64 x1),(.int .i64 x2)] [] (.int .i64 (dV x1 x2)) []:=by
 obtain⟨r,h⟩:∃r,dV x1 x2=r:=⟨_,rfl⟩
 try rw[h]
 unfold dV at h
 by_cases c0:(eT x1)=true
 · rw[if_pos c0] at h
   by_cases c1:(eT x2)=true
   · rw[if_pos c1] at h
     obtain rfl:=h
     exact Tri.of (x:=X88) aH yS [(aG4 x1),(aGK x2),dt,dt] [⟨c1⟩,⟨c0⟩,⟨(d7 x2)⟩,⟨(d7 x1)⟩] (by kernel_rfl)
   rw[if_neg c1] at h;replace c1:=eqf c1
   obtain rfl:=h
   exact Tri.of (x:=X88) aH yS [(aG4 x1),(aGK x2),dt,df] [⟨c1⟩,⟨c0⟩,⟨(d7 x2)⟩,⟨(d7 x1)⟩] (by kernel_rfl)
 rw[if_neg c0] at h;replace c0:=eqf c0
 by_cases c1:(eT x2)=true
 · rw[if_pos c1] at h
   obtain rfl:=h
   exact Tri.of (x:=X88) aH yS [(aG4 x1),(aGK x2),df,dt] [⟨c1⟩,⟨c0⟩,⟨(d7 x2)⟩,⟨(d7 x1)⟩] (by kernel_rfl)
 rw[if_neg c1] at h;replace c1:=eqf c1
 by_cases c2:ltI x1 x2=true
 · rw[if_pos c2] at h
   obtain rfl:=h
   exact Tri.of (x:=X88) aH yS [(aG4 x1),(aGK x2),df,df,dt] [⟨c2⟩,⟨c1⟩,⟨c0⟩,⟨(d7 x2)⟩,⟨(d7 x1)⟩] (by kernel_rfl)
 rw[if_neg c2] at h;replace c2:=eqf c2
 by_cases c3:ltI x2 x1=true
 · rw[if_pos c3] at h
   obtain rfl:=h
   exact Tri.of (x:=X88) aH yS [(aG4 x1),(aGK x2),df,df,df,dt] [⟨c3⟩,⟨c2⟩,⟨c1⟩,⟨c0⟩,⟨(d7 x2)⟩,⟨(d7 x1)⟩] (by kernel_rfl)
 rw[if_neg c3] at h;replace c3:=eqf c3
 obtain rfl:=h
 exact Tri.of (x:=X88) aH yS [(aG4 x1),(aGK x2),df,df,df,df] [⟨c3⟩,⟨c2⟩,⟨c1⟩,⟨c0⟩,⟨(d7 x2)⟩,⟨(d7 x1)⟩] (by kernel_rfl)
end Go.Ws

namespace Go.Ws
open Go.Proofs
set_option linter.unusedSimpArgs false
set_option linter.unusedVariables false
set_option maxRecDepth 1000000
set_option maxHeartbeats 4000000
noncomputable def X87:Ctx:=⟨Try.f87,[],true⟩
noncomputable def L87_0:Code:=at_ Try.f87 [1,1,0,1,4,5]
def S87_0 (x1:List Int) (dM:Int):St:=⟨mkT 18 [(3,(.int .i64 0)),(6,(.sl 1 (List.map aG x1))),(7,(.int .i64 (nI x1.length))),(8,(.int .i64 dM))],[]⟩
def aH8:St:=⟨mkT 18 [(3,(.int .i64 0))],[]⟩
def O87_0 (x1:List Int) (y:(Sum (Unit) (Int))):GX:=match y with
 | .inl y=>.st (.exit 0) (aH8)
 | .inr y=>.fin (.int .i64 y) []
theorem wK (x1:List Int) (y:(Sum (Unit) (Int))):∀(k:Nat) (dM:Int),kW k x1 dM=some y→LT Try.prog X87 L87_0 (S87_0 x1 dM) (O87_0 x1 y)
 | 0,dM,h=>by cases h
 | k+1,dM,h=>by
  rw[kW] at h
  by_cases cL0:ltI dM (nI x1.length)=true
  · rw[if_pos cL0] at h
    by_cases cL1:inI dM x1.length=true
    · rw[if_pos cL1] at h
      obtain⟨o9,eL2,h⟩:=bsm h
      by_cases cL3:eqI o9 0=true
      · rw[if_pos cL3] at h
        exact LT.next aH (hs:=⟨[(3,[]),(6,[]),(7,[]),(8,[])],[],false,[],[]⟩) (es:=none) [dt,.n x1.length,.row [(.int .i64 o9)],df] [⟨(nF cL3)⟩,⟨(aO (e:=aG) eL2 1 0 1 (by decide))⟩,⟨cL1⟩,⟨(aK aG x1)⟩,⟨cL0⟩] (by kernel_rfl) (wK x1 y k (aM .i64 dM 1) h)
      rw[if_neg cL3] at h;replace cL3:=eqf cL3
      obtain rfl:=osi h
      show LT _ _ _ _ (.fin (.int .i64 o9) [])
      exact LT.done aH (hs:=⟨[],[],false,[],[]⟩) (es:=none) [dt,.n x1.length,.row [(.int .i64 o9)],dt] [⟨(nT cL3)⟩,⟨(aO (e:=aG) eL2 1 0 1 (by decide))⟩,⟨cL1⟩,⟨(aK aG x1)⟩,⟨cL0⟩] (by kernel_rfl) (fun s h=>by cases h)
    rw[if_neg cL1] at h;replace cL1:=eqf cL1
    cases h
  rw[if_neg cL0] at h;replace cL0:=eqf cL0
  obtain rfl:=osi h
  show LT _ _ _ _ (.st (.exit 0) (aH8))
  exact LT.done aH (hs:=⟨[],[],false,[],[]⟩) (es:=(some ⟨[(3,[])],[],false,[],[]⟩)) [df] [⟨cL0⟩] (by kernel_rfl) (fun s h=>by cases h)
theorem aN9 (k:Nat) (x1:List Int) (r:Int) (h:aCB k x1=some r):Tri Try.prog 87 [(.sl 1 (List.map aG x1))] [] (.int .i64 r) []:=by
 unfold aCB at h
 obtain⟨x2,e0,h⟩:=bsm h
 cases x2 with
 | inl x3 =>
  simp only[Sum.elim_inl] at h
  obtain rfl:=osi h
  exact Tri.of (x:=X87) aH aM6 [.n x1.length,.norm 2 ⟨[(3,[]),(6,[]),(7,[]),(8,[])],[],false,[],[]⟩,.out (.st .normal (aH8))] [⟨(LT.block (wK x1 _ k 0 e0))⟩,⟨(aK aG x1)⟩] (by kernel_rfl)
 | inr x3 =>
  simp only[Sum.elim_inr] at h
  obtain rfl:=osi h
  exact Tri.of (x:=X87) aH aM6 [.n x1.length,.norm 2 ⟨[(3,[]),(6,[]),(7,[]),(8,[])],[],false,[],[]⟩,.out (.fin (.int .i64 x3) [])] [⟨(LT.blockFin (id:=0) (wK x1 _ k 0 e0))⟩,⟨(aK aG x1)⟩] (by kernel_rfl)
end Go.Ws

namespace Go.Ws
open Go.Proofs
set_option linter.unusedSimpArgs false
set_option linter.unusedVariables false
set_option maxRecDepth 1000000
set_option maxHeartbeats 4000000
noncomputable def X71:Ctx:=⟨Try.f71,[],true⟩
theorem j7 (k:Nat) (x1:Int) (x2:Int) (x3:Bool) (x4:Int) (x5:Int) (x6:Bool) (r:Int) (h:nW k x1 x2 x3 x4 x5 x6=some r):Tri Try.prog 71 [(.agg [(.int .u8 x1),(.int .i64 x2),(.bool x3)]),(.agg [(.int .u8 x4),(.int .i64 x5),(.bool x6)])] [] (.int .i64 r) []:=by
 unfold nW at h
 obtain⟨x7,e0,h⟩:=bsm h
 obtain rfl:=osi h
 exact Tri.of (x:=X71) aH facts71 [.call ⟨true,[]⟩ (.int .i64 (bK x1 x4)) [],.call ⟨true,[]⟩ (.int .i64 (dV x2 x5)) [],.call ⟨true,[]⟩ (.int .i64 x7) [],.rows (List.map aG [(bK x1 x4),(dV x2 x5)])] [⟨(aN9 k [(bK x1 x4),(dV x2 x5)] _ e0)⟩,⟨(bC aG (l:=[(bK x1 x4),(dV x2 x5)]) (n:=2) rfl)⟩,⟨(cJ aG (Nat.le_refl 2):0+2≤(List.map aG [(bK x1 x4),(dV x2 x5)]).length)⟩,⟨(aBM x2 x5)⟩,⟨(yJ x1 x4)⟩] (by kernel_rfl)
end Go.Ws

namespace Go.Ws
open Go.Proofs
set_option linter.unusedSimpArgs false
set_option linter.unusedVariables false
set_option maxRecDepth 1000000
set_option maxHeartbeats 4000000
noncomputable def X68:Ctx:=⟨Try.f68,[],true⟩
noncomputable def L68_0:Code:=at_ Try.f68 [1,0,1,4,5]
def S68_0 (x1:Ty8) (bP:Int):St:=⟨mkT 46 [(0,(.sl 3 (List.map aE x1))),(6,(.sl 3 (List.map aE x1))),(7,(.int .i64 (nI x1.length))),(8,(.int .i64 bP))],[]⟩
def aH5:St:=⟨mkT 46 [],[]⟩
def O68_0 (x1:Ty8) (y:aDF):GX:=match y with
 | .inl y=>.st (.exit 0) (aH5)
 | .inr y=>.fin (.bool y) []
def aEZ (aV:Int × Int × Bool):Ans:=.row [(.int .u8 aV.1),(.int .i64 aV.2.1),(.bool aV.2.2)]
def aFT (aV:Int × Int × Bool):Ans:=.call ⟨true,[]⟩ (.bool (iH aV.2.1 aV.1)) []
def aKH (cN:Int × Int × Bool):Ans:=.row [(.int .u8 cN.1),(.int .i64 cN.2.1),(.bool cN.2.2)]
def aKD (m5:Int):Ans:=.call ⟨true,[]⟩ (.int .i64 m5) []
theorem mC (x1:Ty8) (y:aDF):∀(k:Nat) (bP:Int),eS k x1 bP=some y→LT Try.prog X68 L68_0 (S68_0 x1 bP) (O68_0 x1 y)
 | 0,bP,h=>by cases h
 | k+1,bP,h=>by
  rw[eS] at h
  by_cases cL0:ltI bP (nI x1.length)=true
  · rw[if_pos cL0] at h
    by_cases cL1:inI bP x1.length=true
    · rw[if_pos cL1] at h
      obtain⟨aV,eL2,h⟩:=bsm h
      by_cases cL3:(iH aV.2.1 aV.1)=true
      · rw[if_pos cL3] at h
        by_cases cL4:eqI bP 0=true
        · rw[if_pos cL4] at h
          exact LT.next aH (hs:=⟨[(0,[]),(6,[]),(7,[]),(8,[])],[],false,[],[]⟩) (es:=none) [dt,.n x1.length,(aEZ aV),(aFT aV),df,dt] [⟨cL4⟩,⟨(nF cL3)⟩,⟨(iQ aV.2.1 aV.1)⟩,⟨(aO (e:=aE) eL2 3 0 3 (by decide))⟩,⟨cL1⟩,⟨(aK aE x1)⟩,⟨cL0⟩] (by kernel_rfl) (mC x1 y k (aM .i64 bP 1) h)
        rw[if_neg cL4] at h;replace cL4:=eqf cL4
        by_cases cL5:inI (rW .i64 bP 1) x1.length=true
        · rw[if_pos cL5] at h
          obtain⟨cN,eL6,h⟩:=bsm h
          obtain⟨m5,eL7,h⟩:=bsm h
          by_cases cL8:ltI m5 0=true
          · rw[if_pos cL8] at h
            by_cases cL9:eqI cN.1 aV.1=true
            · rw[if_pos cL9] at h
              by_cases cL10:cN.2.2=true
              · rw[if_pos cL10] at h
                obtain rfl:=osi h
                show LT _ _ _ _ (.fin (.bool false) [])
                exact LT.done aH (hs:=⟨[],[],false,[],[]⟩) (es:=none) [dt,.n x1.length,(aEZ aV),(aFT aV),df,df,.n x1.length,(aKH cN),(aKD m5),df,df,df,df,df,df,dt,dt,dt,dt,dt,dt,dt,df,dt,df,dt] [⟨rT⟩,⟨(nF cL8)⟩,⟨cL9⟩,⟨(nF cL8)⟩,⟨cL10⟩,⟨cL9⟩,⟨cL10⟩,⟨cL10⟩,⟨cL9⟩,⟨cL9⟩,⟨cL9⟩,⟨(nF cL8)⟩,⟨(nF cL8)⟩,⟨(nF cL8)⟩,⟨(nF cL8)⟩,⟨(nF cL8)⟩,⟨(nF cL8)⟩,⟨(j7 k cN.1 cN.2.1 cN.2.2 aV.1 aV.2.1 aV.2.2 _ eL7)⟩,⟨(aO (e:=aE) eL6 3 0 3 (by decide))⟩,⟨cL5⟩,⟨(aK aE x1)⟩,⟨cL4⟩,⟨(nF cL3)⟩,⟨(iQ aV.2.1 aV.1)⟩,⟨(aO (e:=aE) eL2 3 0 3 (by decide))⟩,⟨cL1⟩,⟨(aK aE x1)⟩,⟨cL0⟩] (by kernel_rfl) (fun s h=>by cases h)
              rw[if_neg cL10] at h;replace cL10:=eqf cL10
              by_cases cL11:aV.2.2=true
              · rw[if_pos cL11] at h
                obtain rfl:=osi h
                show LT _ _ _ _ (.fin (.bool false) [])
                exact LT.done aH (hs:=⟨[],[],false,[],[]⟩) (es:=none) [dt,.n x1.length,(aEZ aV),(aFT aV),df,df,.n x1.length,(aKH cN),(aKD m5),df,df,df,df,df,df,dt,dt,dt,df,df,dt,df,df,dt,df,dt] [⟨cL11⟩,⟨(nF cL8)⟩,⟨cL9⟩,⟨(nF cL8)⟩,⟨cL10⟩,⟨cL9⟩,⟨cL10⟩,⟨cL10⟩,⟨cL9⟩,⟨cL9⟩,⟨cL9⟩,⟨(nF cL8)⟩,⟨(nF cL8)⟩,⟨(nF cL8)⟩,⟨(nF cL8)⟩,⟨(nF cL8)⟩,⟨(nF cL8)⟩,⟨(j7 k cN.1 cN.2.1 cN.2.2 aV.1 aV.2.1 aV.2.2 _ eL7)⟩,⟨(aO (e:=aE) eL6 3 0 3 (by decide))⟩,⟨cL5⟩,⟨(aK aE x1)⟩,⟨cL4⟩,⟨(nF cL3)⟩,⟨(iQ aV.2.1 aV.1)⟩,⟨(aO (e:=aE) eL2 3 0 3 (by decide))⟩,⟨cL1⟩,⟨(aK aE x1)⟩,⟨cL0⟩] (by kernel_rfl) (fun s h=>by cases h)
              rw[if_neg cL11] at h;replace cL11:=eqf cL11
              exact LT.next aH (hs:=⟨[(0,[]),(6,[]),(7,[]),(8,[])],[],false,[],[]⟩) (es:=none) [dt,.n x1.length,(aEZ aV),(aFT aV),df,df,.n x1.length,(aKH cN),(aKD m5),df,df,df,df,df,df,dt,dt,dt,df,df,dt,df,df,dt,df,df] [⟨cL11⟩,⟨(nF cL8)⟩,⟨cL9⟩,⟨(nF cL8)⟩,⟨cL10⟩,⟨cL9⟩,⟨cL10⟩,⟨cL10⟩,⟨cL9⟩,⟨cL9⟩,⟨cL9⟩,⟨(nF cL8)⟩,⟨(nF cL8)⟩,⟨(nF cL8)⟩,⟨(nF cL8)⟩,⟨(nF cL8)⟩,⟨(nF cL8)⟩,⟨(j7 k cN.1 cN.2.1 cN.2.2 aV.1 aV.2.1 aV.2.2 _ eL7)⟩,⟨(aO (e:=aE) eL6 3 0 3 (by decide))⟩,⟨cL5⟩,⟨(aK aE x1)⟩,⟨cL4⟩,⟨(nF cL3)⟩,⟨(iQ aV.2.1 aV.1)⟩,⟨(aO (e:=aE) eL2 3 0 3 (by decide))⟩,⟨cL1⟩,⟨(aK aE x1)⟩,⟨cL0⟩] (by kernel_rfl) (mC x1 y k (aM .i64 bP 1) h)
            rw[if_neg cL9] at h;replace cL9:=eqf cL9
            exact LT.next aH (hs:=⟨[(0,[]),(6,[]),(7,[]),(8,[])],[],false,[],[]⟩) (es:=none) [dt,.n x1.length,(aEZ aV),(aFT aV),df,df,.n x1.length,(aKH cN),(aKD m5),df,df,df,df,df,df,df,df,df,df,df,df,df,df] [⟨rF⟩,⟨(nF cL8)⟩,⟨cL9⟩,⟨(nF cL8)⟩,⟨cL9⟩,⟨cL9⟩,⟨cL9⟩,⟨cL9⟩,⟨(nF cL8)⟩,⟨(nF cL8)⟩,⟨(nF cL8)⟩,⟨(nF cL8)⟩,⟨(nF cL8)⟩,⟨(nF cL8)⟩,⟨(j7 k cN.1 cN.2.1 cN.2.2 aV.1 aV.2.1 aV.2.2 _ eL7)⟩,⟨(aO (e:=aE) eL6 3 0 3 (by decide))⟩,⟨cL5⟩,⟨(aK aE x1)⟩,⟨cL4⟩,⟨(nF cL3)⟩,⟨(iQ aV.2.1 aV.1)⟩,⟨(aO (e:=aE) eL2 3 0 3 (by decide))⟩,⟨cL1⟩,⟨(aK aE x1)⟩,⟨cL0⟩] (by kernel_rfl) (mC x1 y k (aM .i64 bP 1) h)
          rw[if_neg cL8] at h;replace cL8:=eqf cL8
          obtain rfl:=osi h
          show LT _ _ _ _ (.fin (.bool false) [])
          exact LT.done aH (hs:=⟨[],[],false,[],[]⟩) (es:=none) [dt,.n x1.length,(aEZ aV),(aFT aV),df,df,.n x1.length,(aKH cN),(aKD m5),dt,dt,dt,dt,dt,dt,dt,dt,dt] [⟨rT⟩,⟨(nT cL8)⟩,⟨(nT cL8)⟩,⟨(nT cL8)⟩,⟨(nT cL8)⟩,⟨(nT cL8)⟩,⟨(nT cL8)⟩,⟨(nT cL8)⟩,⟨(nT cL8)⟩,⟨(j7 k cN.1 cN.2.1 cN.2.2 aV.1 aV.2.1 aV.2.2 _ eL7)⟩,⟨(aO (e:=aE) eL6 3 0 3 (by decide))⟩,⟨cL5⟩,⟨(aK aE x1)⟩,⟨cL4⟩,⟨(nF cL3)⟩,⟨(iQ aV.2.1 aV.1)⟩,⟨(aO (e:=aE) eL2 3 0 3 (by decide))⟩,⟨cL1⟩,⟨(aK aE x1)⟩,⟨cL0⟩] (by kernel_rfl) (fun s h=>by cases h)
        rw[if_neg cL5] at h;replace cL5:=eqf cL5
        cases h
      rw[if_neg cL3] at h;replace cL3:=eqf cL3
      obtain rfl:=osi h
      show LT _ _ _ _ (.fin (.bool false) [])
      exact LT.done aH (hs:=⟨[],[],false,[],[]⟩) (es:=none) [dt,.n x1.length,(aEZ aV),(aFT aV),dt] [⟨(nT cL3)⟩,⟨(iQ aV.2.1 aV.1)⟩,⟨(aO (e:=aE) eL2 3 0 3 (by decide))⟩,⟨cL1⟩,⟨(aK aE x1)⟩,⟨cL0⟩] (by kernel_rfl) (fun s h=>by cases h)
    rw[if_neg cL1] at h;replace cL1:=eqf cL1
    cases h
  rw[if_neg cL0] at h;replace cL0:=eqf cL0
  obtain rfl:=osi h
  show LT _ _ _ _ (.st (.exit 0) (aH5))
  exact LT.done aH (hs:=⟨[],[],false,[],[]⟩) (es:=(some ⟨[],[],false,[],[]⟩)) [df] [⟨cL0⟩] (by kernel_rfl) (fun s h=>by cases h)
theorem m7 (k:Nat) (x1:Ty8) (r:Bool) (h:qZ k x1=some r):Tri Try.prog 68 [(.sl 3 (List.map aE x1))] [] (.bool r) []:=by
 unfold qZ at h
 obtain⟨x2,e0,h⟩:=bsm h
 cases x2 with
 | inl x3 =>
  simp only[Sum.elim_inl] at h
  obtain rfl:=osi h
  exact Tri.of (x:=X68) aH aNE [.n x1.length,.norm 2 ⟨[(0,[]),(6,[]),(7,[]),(8,[])],[],false,[],[]⟩,.out (.st .normal (aH5))] [⟨(LT.block (mC x1 _ k 0 e0))⟩,⟨(aK aE x1)⟩] (by kernel_rfl)
 | inr x3 =>
  simp only[Sum.elim_inr] at h
  obtain rfl:=osi h
  exact Tri.of (x:=X68) aH aNE [.n x1.length,.norm 2 ⟨[(0,[]),(6,[]),(7,[]),(8,[])],[],false,[],[]⟩,.out (.fin (.bool x3) [])] [⟨(LT.blockFin (id:=0) (mC x1 _ k 0 e0))⟩,⟨(aK aE x1)⟩] (by kernel_rfl)
end Go.Ws

namespace Go.Ws
open Go.Proofs
set_option linter.unusedSimpArgs false
set_option linter.unusedVariables false
set_option maxRecDepth 1000000
set_option maxHeartbeats 4000000
noncomputable def X70:Ctx:=⟨Try.f70,[],true⟩
noncomputable def L70_0:Code:=at_ Try.f70 [1,1,1,0,4,5]
def S70_0 (x1:Ty8) (x2:Int) (x3:Int) (x4:Bool) (b9:Int) (cO:Int):St:=⟨mkT 49 [(0,(.sl 3 (List.map aE x1))),(2,(.fn 71 [])),(4,(.hp 0 0)),(8,(.int .i64 (nI x1.length))),(9,(.int .i64 b9)),(10,(.int .i64 cO))],[(.row [(.int .u8 x2),(.int .i64 x3),(.bool x4)])]⟩
def aD0 (x1:Ty8) (x2:Int) (x3:Int) (x4:Bool) (v70002_1:Int):St:=⟨mkT 49 [(0,(.sl 3 (List.map aE x1))),(2,(.fn 71 [])),(4,(.hp 0 0)),(8,(.int .i64 (nI x1.length))),(9,(.int .i64 v70002_1))],[(.row [(.int .u8 x2),(.int .i64 x3),(.bool x4)])]⟩
def O70_0 (x1:Ty8) (x2:Int) (x3:Int) (x4:Bool) (y:(Int)):GX:=.st (.exit 0) (aD0 x1 x2 x3 x4 y)
def A70_0:Ans:=.norm 2 ⟨[(0,[]),(2,[]),(4,[]),(8,[]),(9,[]),(10,[])],[⟨.tmp 4,[],none⟩],false,[],[]⟩
theorem gK (x1:Ty8) (x2:Int) (x3:Int) (x4:Bool) (y:(Int)):∀(k:Nat) (b9:Int) (cO:Int),bG k x1 x2 x3 x4 b9 cO=some y→LT Try.prog X70 L70_0 (S70_0 x1 x2 x3 x4 b9 cO) (O70_0 x1 x2 x3 x4 y)
 | 0,b9,cO,h=>by cases h
 | k+1,b9,cO,h=>by
  rw[bG] at h
  by_cases cL0:ltI b9 cO=true
  · rw[if_pos cL0] at h
    by_cases cL1:inI (conv .i64 (sA .u64 (conv .u64 (aM .i64 b9 cO)) 1)) x1.length=true
    · rw[if_pos cL1] at h
      obtain⟨g9,eL2,h⟩:=bsm h
      obtain⟨tZ,eL3,h⟩:=bsm h
      by_cases cL4:ltI tZ 0=true
      · rw[if_pos cL4] at h
        exact LT.next aH (hs:=⟨[(0,[]),(2,[]),(4,[]),(8,[]),(9,[]),(10,[])],[⟨.tmp 4,[],none⟩],false,[],[]⟩) (es:=none) [dt,.n x1.length,.row [(.int .u8 g9.1),(.int .i64 g9.2.1),(.bool g9.2.2)],.call ⟨true,[]⟩ (.int .i64 tZ) [],dt] [⟨cL4⟩,⟨(j7 k g9.1 g9.2.1 g9.2.2 x2 x3 x4 _ eL3)⟩,⟨(aO (e:=aE) eL2 3 0 3 (by decide))⟩,⟨cL1⟩,⟨(aK aE x1)⟩,⟨cL0⟩] (by kernel_rfl) (gK x1 x2 x3 x4 y k (aM .i64 (conv .i64 (sA .u64 (conv .u64 (aM .i64 b9 cO)) 1)) 1) cO h)
      rw[if_neg cL4] at h;replace cL4:=eqf cL4
      exact LT.next aH (hs:=⟨[(0,[]),(2,[]),(4,[]),(8,[]),(9,[]),(10,[])],[⟨.tmp 4,[],none⟩],false,[],[]⟩) (es:=none) [dt,.n x1.length,.row [(.int .u8 g9.1),(.int .i64 g9.2.1),(.bool g9.2.2)],.call ⟨true,[]⟩ (.int .i64 tZ) [],df] [⟨cL4⟩,⟨(j7 k g9.1 g9.2.1 g9.2.2 x2 x3 x4 _ eL3)⟩,⟨(aO (e:=aE) eL2 3 0 3 (by decide))⟩,⟨cL1⟩,⟨(aK aE x1)⟩,⟨cL0⟩] (by kernel_rfl) (gK x1 x2 x3 x4 y k b9 (conv .i64 (sA .u64 (conv .u64 (aM .i64 b9 cO)) 1)) h)
    rw[if_neg cL1] at h;replace cL1:=eqf cL1
    cases h
  rw[if_neg cL0] at h;replace cL0:=eqf cL0
  obtain rfl:=osi h
  show LT _ _ _ _ (.st (.exit 0) (aD0 x1 x2 x3 x4 b9))
  exact LT.done aH (hs:=⟨[],[],false,[],[]⟩) (es:=(some ⟨[(0,[]),(2,[]),(4,[]),(8,[]),(9,[])],[⟨.tmp 4,[],none⟩],false,[],[]⟩)) [df] [⟨cL0⟩] (by kernel_rfl) (fun s h=>by cases h)
theorem kH (k:Nat) (x1:Ty8) (x2:Int) (x3:Int) (x4:Bool) (r:Int × Bool) (h:fS k x1 x2 x3 x4=some r):Tri Try.prog 70 [(.sl 3 (List.map aE x1)),(.agg [(.int .u8 x2),(.int .i64 x3),(.bool x4)]),(.fn 71 [])] [] (.tup [(.int .i64 r.1),(.bool r.2)]) []:=by
 unfold fS at h
 obtain⟨x6,e0,h⟩:=bsm h
 by_cases c2:ltI x6 (nI x1.length)=true
 · rw[if_pos c2] at h
   by_cases c3:inI x6 x1.length=true
   · rw[if_pos c3] at h
     obtain⟨x7,e4,h⟩:=bsm h
     obtain⟨x8,e5,h⟩:=bsm h
     obtain rfl:=osi h
     exact Tri.of (x:=X70) aH aNM [.n x1.length,A70_0,.out (.st .normal (aD0 x1 x2 x3 x4 x6)),dt,dt,dt,dt,.n x1.length,dt,.row [(.int .u8 x7.1),(.int .i64 x7.2.1),(.bool x7.2.2)],dt,dt,.call ⟨true,[]⟩ (.int .i64 x8) [],dt,dt] [⟨c2⟩,⟨c2⟩,⟨(j7 k x7.1 x7.2.1 x7.2.2 x2 x3 x4 _ e5)⟩,⟨c2⟩,⟨c2⟩,⟨(aO (e:=aE) e4 3 0 3 (by decide))⟩,⟨c2⟩,⟨c3⟩,⟨(aK aE x1)⟩,⟨c2⟩,⟨c2⟩,⟨c2⟩,⟨c2⟩,⟨(LT.block (gK x1 x2 x3 x4 _ k 0 (nI x1.length) e0))⟩,⟨(aK aE x1)⟩] (by kernel_rfl)
   rw[if_neg c3] at h;replace c3:=eqf c3
   cases h
 rw[if_neg c2] at h;replace c2:=eqf c2
 obtain rfl:=osi h
 exact Tri.of (x:=X70) aH aNM [.n x1.length,A70_0,.out (.st .normal (aD0 x1 x2 x3 x4 x6)),df,df,df,df,df,df,df,df,df] [⟨c2⟩,⟨c2⟩,⟨c2⟩,⟨c2⟩,⟨c2⟩,⟨c2⟩,⟨c2⟩,⟨c2⟩,⟨c2⟩,⟨(LT.block (gK x1 x2 x3 x4 _ k 0 (nI x1.length) e0))⟩,⟨(aK aE x1)⟩] (by kernel_rfl)
end Go.Ws

namespace Go.Ws
open Go.Proofs
set_option linter.unusedSimpArgs false
set_option linter.unusedVariables false
set_option maxRecDepth 1000000
set_option maxHeartbeats 4000000
theorem aC3 (k:Nat) (x1:Int) (x2:Ty8) (x3:Ty8) (r:Ty8) (h:o7 k x1 x2 x3=some r):Tri Try.prog 72 [(.ref 3 0 0 0 x2.length .virt),(.int .i64 x1),(.ref 3 1 0 0 x3.length .full)] [(.arr 3 (List.map aE x2) 0 0 false),(.arr 3 (List.map aE x3) 0 0 false)] (.ref 3 0 1 0 r.length .full) [(.arr 3 (List.map aE r) 1 1 false),(.arr 3 (List.map aE x3) 0 0 false)]:=ins_ok72 _ h rfl
end Go.Ws

namespace Go.Ws
open Go.Proofs
set_option linter.unusedSimpArgs false
set_option linter.unusedVariables false
set_option maxRecDepth 1000000
set_option maxHeartbeats 4000000
noncomputable def X56:Ctx:=⟨Try.f56,[],true⟩
noncomputable def L56_0:Code:=at_ Try.f56 [1,1,1,0,1,4,5]
def S56_0 (x1:Ty8) (x2:Int) (x3:Int) (x4:Bool) (cP:Int):St:=⟨mkT 82 [(0,(.ref 3 0 0 0 x1.length .virt)),(1,(.int .i64 x2)),(2,(.int .u8 x3)),(3,(.bool x4)),(27,(.ref 3 0 0 0 x1.length .virt)),(28,(.int .i64 (nI x1.length))),(29,(.int .i64 cP))],[(.arr 3 (List.map aE x1) 0 0 false)]⟩
def aAM (x1:Ty8) (x2:Int) (x3:Int) (x4:Bool):St:=⟨mkT 82 [(0,(.ref 3 0 0 0 x1.length .virt)),(1,(.int .i64 x2)),(2,(.int .u8 x3)),(3,(.bool x4))],[(.arr 3 (List.map aE x1) 0 0 false)]⟩
def O56_0 (x1:Ty8) (x2:Int) (x3:Int) (x4:Bool) (y:(Sum (Unit) (Ty8 × Int))):GX:=match y with
 | .inl y=>.st (.exit 0) (aAM x1 x2 x3 x4)
 | .inr y=>.fin (.tup [(.sl 3 (List.map aE y.1)),(.int .i64 y.2)]) []
def aKT (hH:Int × Int × Bool):Ans:=.row [(.int .u8 hH.1),(.int .i64 hH.2.1),(.bool hH.2.2)]
def aGJ (x1:Ty8):Ans:=.call ⟨true,[]⟩ (.ref 3 0 0 0 x1.length .virt) [(.arr 3 (List.map aE x1) 0 0 false)]
def aJO (x2:Int) (x3:Int):Ans:=.call ⟨true,[]⟩ (.bool (iH x2 x3)) []
def A56_3:Ans:=.norm 2 ⟨[(0,[]),(1,[]),(2,[]),(3,[]),(27,[]),(28,[]),(29,[])],[⟨.tmp 0,[],none⟩],false,[],[]⟩
def A56_4 (x9:Int × Bool):Ans:=.call ⟨true,[]⟩ (.tup [(.int .i64 x9.1),(.bool x9.2)]) []
theorem jO (x1:Ty8) (x2:Int) (x3:Int) (x4:Bool) (y:(Sum (Unit) (Ty8 × Int))):∀(k:Nat) (cP:Int),fM k x1 x2 x3 x4 cP=some y→LT Try.prog X56 L56_0 (S56_0 x1 x2 x3 x4 cP) (O56_0 x1 x2 x3 x4 y)
 | 0,cP,h=>by cases h
 | k+1,cP,h=>by
  rw[fM] at h
  by_cases cL0:ltI cP (nI x1.length)=true
  · rw[if_pos cL0] at h
    by_cases cL1:inI cP x1.length=true
    · rw[if_pos cL1] at h
      obtain⟨hH,eL2,h⟩:=bsm h
      by_cases cL3:eqI hH.1 x3=true
      · rw[if_pos cL3] at h
        by_cases cL4:eqI hH.2.1 x2=true
        · rw[if_pos cL4] at h
          exact LT.next aH (hs:=⟨[(0,[]),(1,[]),(2,[]),(3,[]),(27,[]),(28,[]),(29,[])],[⟨.tmp 0,[],none⟩],false,[],[]⟩) (es:=none) [dt,(aKT hH),dt,dt,dt,dt,dt,df,df,df,df,df] [⟨rF⟩,⟨(nF cL4)⟩,⟨(nF cL4)⟩,⟨(nF cL4)⟩,⟨(nF cL4)⟩,⟨cL3⟩,⟨cL3⟩,⟨cL3⟩,⟨cL3⟩,⟨cL3⟩,⟨(aO (e:=aE) eL2 3 0 3 (by decide))⟩,⟨cL1⟩,⟨cL0⟩] (by kernel_rfl) (jO x1 x2 x3 x4 y k (aM .i64 cP 1) h)
        rw[if_neg cL4] at h;replace cL4:=eqf cL4
        by_cases cL5:x4=true
        · rw[if_pos cL5] at h
          obtain rfl:=osi h
          show LT _ _ _ _ (.fin (.tup [(.sl 3 (List.map aE ((x1,9).1))),(.int .i64 ((x1,9).2))]) [])
          exact LT.done aH (hs:=⟨[],[],false,[],[]⟩) (es:=none) [dt,(aKT hH),dt,dt,dt,dt,dt,dt,dt,dt,dt,dt,dt,dt,dt,.rows (List.map aE x1)] [⟨(bC aE (l:=x1) (n:=x1.length) rfl)⟩,⟨(cJ aE (Nat.le_refl x1.length):0+x1.length≤(List.map aE x1).length)⟩,⟨rT⟩,⟨(nT cL4)⟩,⟨cL5⟩,⟨(nT cL4)⟩,⟨cL5⟩,⟨cL5⟩,⟨(nT cL4)⟩,⟨(nT cL4)⟩,⟨cL3⟩,⟨cL3⟩,⟨cL3⟩,⟨cL3⟩,⟨cL3⟩,⟨(aO (e:=aE) eL2 3 0 3 (by decide))⟩,⟨cL1⟩,⟨cL0⟩] (by kernel_rfl) (fun s h=>by cases h)
        rw[if_neg cL5] at h;replace cL5:=eqf cL5
        by_cases cL6:hH.2.2=true
        · rw[if_pos cL6] at h
          obtain rfl:=osi h
          show LT _ _ _ _ (.fin (.tup [(.sl 3 (List.map aE ((x1,9).1))),(.int .i64 ((x1,9).2))]) [])
          exact LT.done aH (hs:=⟨[],[],false,[],[]⟩) (es:=none) [dt,(aKT hH),dt,dt,dt,dt,dt,dt,dt,df,df,dt,df,dt,dt,.rows (List.map aE x1)] [⟨(bC aE (l:=x1) (n:=x1.length) rfl)⟩,⟨(cJ aE (Nat.le_refl x1.length):0+x1.length≤(List.map aE x1).length)⟩,⟨cL6⟩,⟨(nT cL4)⟩,⟨cL5⟩,⟨(nT cL4)⟩,⟨cL5⟩,⟨cL5⟩,⟨(nT cL4)⟩,⟨(nT cL4)⟩,⟨cL3⟩,⟨cL3⟩,⟨cL3⟩,⟨cL3⟩,⟨cL3⟩,⟨(aO (e:=aE) eL2 3 0 3 (by decide))⟩,⟨cL1⟩,⟨cL0⟩] (by kernel_rfl) (fun s h=>by cases h)
        rw[if_neg cL6] at h;replace cL6:=eqf cL6
        exact LT.next aH (hs:=⟨[(0,[]),(1,[]),(2,[]),(3,[]),(27,[]),(28,[]),(29,[])],[⟨.tmp 0,[],none⟩],false,[],[]⟩) (es:=none) [dt,(aKT hH),dt,dt,dt,dt,dt,dt,dt,df,df,dt,df,dt,df] [⟨cL6⟩,⟨(nT cL4)⟩,⟨cL5⟩,⟨(nT cL4)⟩,⟨cL5⟩,⟨cL5⟩,⟨(nT cL4)⟩,⟨(nT cL4)⟩,⟨cL3⟩,⟨cL3⟩,⟨cL3⟩,⟨cL3⟩,⟨cL3⟩,⟨(aO (e:=aE) eL2 3 0 3 (by decide))⟩,⟨cL1⟩,⟨cL0⟩] (by kernel_rfl) (jO x1 x2 x3 x4 y k (aM .i64 cP 1) h)
      rw[if_neg cL3] at h;replace cL3:=eqf cL3
      exact LT.next aH (hs:=⟨[(0,[]),(1,[]),(2,[]),(3,[]),(27,[]),(28,[]),(29,[])],[⟨.tmp 0,[],none⟩],false,[],[]⟩) (es:=none) [dt,(aKT hH),df,df,df,df,df,df,df,df,df,df] [⟨rF⟩,⟨rF⟩,⟨rF⟩,⟨rF⟩,⟨rF⟩,⟨cL3⟩,⟨cL3⟩,⟨cL3⟩,⟨cL3⟩,⟨cL3⟩,⟨(aO (e:=aE) eL2 3 0 3 (by decide))⟩,⟨cL1⟩,⟨cL0⟩] (by kernel_rfl) (jO x1 x2 x3 x4 y k (aM .i64 cP 1) h)
    rw[if_neg cL1] at h;replace cL1:=eqf cL1
    cases h
  rw[if_neg cL0] at h;replace cL0:=eqf cL0
  obtain rfl:=osi h
  show LT _ _ _ _ (.st (.exit 0) (aAM x1 x2 x3 x4))
  exact LT.done aH (hs:=⟨[],[],false,[],[]⟩) (es:=(some ⟨[(0,[]),(1,[]),(2,[]),(3,[])],[⟨.tmp 0,[],none⟩],false,[],[]⟩)) [df] [⟨cL0⟩] (by kernel_rfl) (fun s h=>by cases h)
theorem qI (k:Nat) (x1:Ty8) (x2:Int) (x3:Int) (x4:Bool) (r:Ty8 × Int) (h:s5 k x1 x2 x3 x4=some r):Tri Try.prog 56 [(.sl 3 (List.map aE x1)),(.int .i64 x2),(.int .u8 x3),(.bool x4)] [] (.tup [(.sl 3 (List.map aE r.1)),(.int .i64 r.2)]) []:=by
 unfold s5 at h
 obtain⟨x5,e0,h⟩:=bsm h
 obtain⟨x6,e1,h⟩:=bsm h
 by_cases c2:x6=true
 · rw[if_pos c2] at h
   by_cases c3:(iH x2 x3)=true
   · rw[if_pos c3] at h
     obtain⟨x7,e4,h⟩:=bsm h
     cases x7 with
     | inl x8 =>
      simp only[Sum.elim_inl] at h
      obtain⟨x9,e6,h⟩:=bsm h
      by_cases c7:x9.2=true
      · rw[if_pos c7] at h
        by_cases c8:inI x9.1 x1.length=true
        · rw[if_pos c8] at h
          obtain⟨x10,e9,h⟩:=bsm h
          by_cases c10:x10.2.2=true
          · rw[if_pos c10] at h
            obtain rfl:=osi h
            exact Tri.of (x:=X56) aH yY [(aGJ x1),.call ⟨true,[]⟩ (.bool x6) [],.rows (List.map aE x1),df,df,df,(aJO x2 x3),df,df,df,A56_3,.out (.st .normal (aAM x1 x2 x3 x4)),(A56_4 x9),.rows (List.map aE x1),df,.row [(.bool x10.2.2)],dt,dt,.rows (List.map aE (List.set x1 (tN x9.1) (x10.1,x10.2.1,true))),.rows (List.map aE (List.set x1 (tN x9.1) (x10.1,x10.2.1,true)))] [⟨(bC aE (l:=(List.set x1 (tN x9.1) (x10.1,x10.2.1,true))) (n:=x1.length) (by simp:x1.length=List.length (α:=Int × Int × Bool) (List.set x1 (tN x9.1) (x10.1,x10.2.1,true))))⟩,⟨(cJ aE (Nat.le_of_eq (by simp:x1.length=List.length (α:=Int × Int × Bool) (List.set x1 (tN x9.1) (x10.1,x10.2.1,true)))))⟩,⟨(rB (e:=aE) e9 2 [(.bool true)] (x10.1,x10.2.1,true) rfl)⟩,⟨c8⟩,⟨c10⟩,⟨c10⟩,⟨(aO (e:=aE) e9 3 2 1 (by decide))⟩,⟨c8⟩,⟨(nF c7)⟩,⟨(kH k x1 x3 x2 x4 _ e6)⟩,⟨(bC aE (l:=x1) (n:=x1.length) rfl)⟩,⟨(cJ aE (Nat.le_refl x1.length):0+x1.length≤(List.map aE x1).length)⟩,⟨(LT.block (jO x1 x2 x3 x4 _ k 0 e4))⟩,⟨(nF c3)⟩,⟨(nF c2)⟩,⟨(nF c2)⟩,⟨(iQ x2 x3)⟩,⟨(nF c2)⟩,⟨(nF c2)⟩,⟨(nF c2)⟩,⟨(m7 k x1 _ e1)⟩,⟨(bC aE (l:=x1) (n:=x1.length) rfl)⟩,⟨(cJ aE (Nat.le_refl x1.length):0+x1.length≤(List.map aE x1).length)⟩,⟨(jN k x1 _ e0)⟩] (by kernel_rfl)
          rw[if_neg c10] at h;replace c10:=eqf c10
          obtain rfl:=osi h
          exact Tri.of (x:=X56) aH yY [(aGJ x1),.call ⟨true,[]⟩ (.bool x6) [],.rows (List.map aE x1),df,df,df,(aJO x2 x3),df,df,df,A56_3,.out (.st .normal (aAM x1 x2 x3 x4)),(A56_4 x9),.rows (List.map aE x1),df,.row [(.bool x10.2.2)],df,df,.rows (List.map aE (List.set x1 (tN x9.1) (x10.1,x10.2.1,x4))),.rows (List.map aE (List.set x1 (tN x9.1) (x10.1,x10.2.1,x4)))] [⟨(bC aE (l:=(List.set x1 (tN x9.1) (x10.1,x10.2.1,x4))) (n:=x1.length) (by simp:x1.length=List.length (α:=Int × Int × Bool) (List.set x1 (tN x9.1) (x10.1,x10.2.1,x4))))⟩,⟨(cJ aE (Nat.le_of_eq (by simp:x1.length=List.length (α:=Int × Int × Bool) (List.set x1 (tN x9.1) (x10.1,x10.2.1,x4)))))⟩,⟨(rB (e:=aE) e9 2 [(.bool x4)] (x10.1,x10.2.1,x4) rfl)⟩,⟨c8⟩,⟨c10⟩,⟨c10⟩,⟨(aO (e:=aE) e9 3 2 1 (by decide))⟩,⟨c8⟩,⟨(nF c7)⟩,⟨(kH k x1 x3 x2 x4 _ e6)⟩,⟨(bC aE (l:=x1) (n:=x1.length) rfl)⟩,⟨(cJ aE (Nat.le_refl x1.length):0+x1.length≤(List.map aE x1).length)⟩,⟨(LT.block (jO x1 x2 x3 x4 _ k 0 e4))⟩,⟨(nF c3)⟩,⟨(nF c2)⟩,⟨(nF c2)⟩,⟨(iQ x2 x3)⟩,⟨(nF c2)⟩,⟨(nF c2)⟩,⟨(nF c2)⟩,⟨(m7 k x1 _ e1)⟩,⟨(bC aE (l:=x1) (n:=x1.length) rfl)⟩,⟨(cJ aE (Nat.le_refl x1.length):0+x1.length≤(List.map aE x1).length)⟩,⟨(jN k x1 _ e0)⟩] (by kernel_rfl)
        rw[if_neg c8] at h;replace c8:=eqf c8
        cases h
      rw[if_neg c7] at h;replace c7:=eqf c7
      obtain⟨x10,e8,h⟩:=bsm h
      obtain rfl:=osi h
      exact Tri.of (x:=X56) aH yY [(aGJ x1),.call ⟨true,[]⟩ (.bool x6) [],.rows (List.map aE x1),df,df,df,(aJO x2 x3),df,df,df,A56_3,.out (.st .normal (aAM x1 x2 x3 x4)),(A56_4 x9),.rows (List.map aE x1),dt,.call ⟨false,[]⟩ (.ref 3 0 1 0 x10.length .full) [(.arr 3 (List.map aE x10) 1 1 false),(.arr 3 (List.map aE [(x3,x2,x4)]) 0 0 false)],.rows (List.map aE x10)] [⟨(bC aE (l:=x10) (n:=x10.length) rfl)⟩,⟨(cJ aE (Nat.le_refl x10.length):0+x10.length≤(List.map aE x10).length)⟩,⟨(aC3 k x9.1 x1 [(x3,x2,x4)] _ e8)⟩,⟨(nT c7)⟩,⟨(kH k x1 x3 x2 x4 _ e6)⟩,⟨(bC aE (l:=x1) (n:=x1.length) rfl)⟩,⟨(cJ aE (Nat.le_refl x1.length):0+x1.length≤(List.map aE x1).length)⟩,⟨(LT.block (jO x1 x2 x3 x4 _ k 0 e4))⟩,⟨(nF c3)⟩,⟨(nF c2)⟩,⟨(nF c2)⟩,⟨(iQ x2 x3)⟩,⟨(nF c2)⟩,⟨(nF c2)⟩,⟨(nF c2)⟩,⟨(m7 k x1 _ e1)⟩,⟨(bC aE (l:=x1) (n:=x1.length) rfl)⟩,⟨(cJ aE (Nat.le_refl x1.length):0+x1.length≤(List.map aE x1).length)⟩,⟨(jN k x1 _ e0)⟩] (by kernel_rfl)
     | inr x8 =>
      simp only[Sum.elim_inr] at h
      obtain rfl:=osi h
      exact Tri.of (x:=X56) aH yY [(aGJ x1),.call ⟨true,[]⟩ (.bool x6) [],.rows (List.map aE x1),df,df,df,(aJO x2 x3),df,df,df,A56_3,.out (.fin (.tup [(.sl 3 (List.map aE x8.1)),(.int .i64 x8.2)]) [])] [⟨(LT.blockFin (id:=0) (jO x1 x2 x3 x4 _ k 0 e4))⟩,⟨(nF c3)⟩,⟨(nF c2)⟩,⟨(nF c2)⟩,⟨(iQ x2 x3)⟩,⟨(nF c2)⟩,⟨(nF c2)⟩,⟨(nF c2)⟩,⟨(m7 k x1 _ e1)⟩,⟨(bC aE (l:=x1) (n:=x1.length) rfl)⟩,⟨(cJ aE (Nat.le_refl x1.length):0+x1.length≤(List.map aE x1).length)⟩,⟨(jN k x1 _ e0)⟩] (by kernel_rfl)
   rw[if_neg c3] at h;replace c3:=eqf c3
   obtain rfl:=osi h
   exact Tri.of (x:=X56) aH yY [(aGJ x1),.call ⟨true,[]⟩ (.bool x6) [],.rows (List.map aE x1),df,df,df,(aJO x2 x3),df,df,dt,.rows (List.map aE x1)] [⟨(bC aE (l:=x1) (n:=x1.length) rfl)⟩,⟨(cJ aE (Nat.le_refl x1.length):0+x1.length≤(List.map aE x1).length)⟩,⟨(nT c3)⟩,⟨(nF c2)⟩,⟨(nF c2)⟩,⟨(iQ x2 x3)⟩,⟨(nF c2)⟩,⟨(nF c2)⟩,⟨(nF c2)⟩,⟨(m7 k x1 _ e1)⟩,⟨(bC aE (l:=x1) (n:=x1.length) rfl)⟩,⟨(cJ aE (Nat.le_refl x1.length):0+x1.length≤(List.map aE x1).length)⟩,⟨(jN k x1 _ e0)⟩] (by kernel_rfl)
 rw[if_neg c2] at h;replace c2:=eqf c2
 obtain rfl:=osi h
 exact Tri.of (x:=X56) aH yY [(aGJ x1),.call ⟨true,[]⟩ (.bool x6) [],.rows (List.map aE x1),dt,dt,dt,dt,dt,dt,.rows (List.map aE x1)] [⟨(bC aE (l:=x1) (n:=x1.length) rfl)⟩,⟨(cJ aE (Nat.le_refl x1.length):0+x1.length≤(List.map aE x1).length)⟩,⟨rT⟩,⟨(nT c2)⟩,⟨(nT c2)⟩,⟨(nT c2)⟩,⟨(nT c2)⟩,⟨(nT c2)⟩,⟨(m7 k x1 _ e1)⟩,⟨(bC aE (l:=x1) (n:=x1.length) rfl)⟩,⟨(cJ aE (Nat.le_refl x1.length):0+x1.length≤(List.map aE x1).length)⟩,⟨(jN k x1 _ e0)⟩] (by kernel_rfl)
end Go.Ws

namespace Go.Ws
open Go.Proofs
set_option linter.unusedSimpArgs false
set_option linter.unusedVariables false
set_option maxRecDepth 1000000
set_option maxHeartbeats 4000000
noncomputable def X36_1001:Ctx:=⟨Try.f36,[],false⟩
theorem vS (k:Nat) (x1:aL) (r:Unit) (h:g7 k x1=some r):Tri Try.prog 36 [(.inl 2 (List.map aB x1))] [] (.ref 2 0 0 0 x1.length .virt) [(.arr 2 (List.map aB x1) 0 0 false)]:=by
 unfold g7 at h
 by_cases c0:dR (x1.length*16)=true
 · rw[if_pos c0] at h
   obtain rfl:=osi h
   exact Tri.of (x:=X36_1001) aH aMX [df,.n x1.length,.norm 0 ⟨[(2,[])],[⟨.tmp 2,[],some 2⟩],false,[],[]⟩,.n x1.length,.rows (List.map aB x1)] [⟨(dW aB (l:=x1) (n:=x1.length) rfl)⟩,⟨(rfl:x1.length=x1.length)⟩,⟨(zle x1.length)⟩,⟨c0⟩,⟨(aK aB x1)⟩,⟨rF⟩] (by kernel_rfl)
 rw[if_neg c0] at h;replace c0:=eqf c0
 cases h
end Go.Ws

namespace Go.Ws
open Go.Proofs
set_option linter.unusedSimpArgs false
set_option linter.unusedVariables false
set_option maxRecDepth 1000000
set_option maxHeartbeats 4000000
noncomputable def X36_1002:Ctx:=⟨Try.f36,[],false⟩
theorem vC:Tri Try.prog 36 [.nils] [] (.ref 2 0 0 0 0 .virt) [(.arr 2 (List.map aB []) 0 0 false)]:=by
 obtain⟨r,h⟩:∃r,nM=r:=⟨_,rfl⟩
 try rw[h]
 unfold nM at h
 obtain rfl:=h
 exact Tri.of (x:=X36_1002) aH aMX [dt,.norm 0 ⟨[(2,[])],[⟨.tmp 2,[],some 2⟩],false,[],[]⟩,.n 0,.rows (List.map aB [])] [⟨(dW aB (l:=[]) (n:=0) rfl)⟩,⟨(rfl:0=0)⟩,⟨(zle 0)⟩,⟨rT⟩] (by kernel_rfl)
end Go.Ws

namespace Go.Ws
open Go.Proofs
set_option linter.unusedSimpArgs false
set_option linter.unusedVariables false
set_option maxRecDepth 1000000
set_option maxHeartbeats 4000000
theorem kJ (k:Nat) (x1:aL) (r:Unit) (h:gS k x1=some r):Tri Try.prog 36 [(.sl 2 (List.map aB x1))] [] (.ref 2 0 0 0 x1.length .virt) [(.arr 2 (List.map aB x1) 0 0 false)]:=by
 refine Tri.slOf (vS k x1 r h) fun h0=>?_
 have hx:x1=[]:=by simpa using h0
 subst hx
 exact vC
end Go.Ws

namespace Go.Ws
open Go.Proofs
set_option linter.unusedSimpArgs false
set_option linter.unusedVariables false
set_option maxRecDepth 1000000
set_option maxHeartbeats 4000000
noncomputable def X73:Ctx:=⟨Try.f73,[],false⟩
theorem lZ (k:Nat) (x1:Int) (x2:aL) (x3:Bool) (x4:Int) (r:Unit) (h:nB k x1 x2 x3 x4=some r):Tri Try.prog 73 [(.agg [(.int .i64 x1),(.sl 2 (List.map aB x2)),(.bool x3),(.int .i64 x4)])] [] (.agg [(.int .i64 x1),(.ref 2 0 0 0 x2.length .virt),(.bool x3),(.int .i64 x4)]) [(.arr 2 (List.map aB x2) 0 0 false)]:=by
 unfold nB at h
 obtain⟨x5,e0,h⟩:=bsm h
 obtain rfl:=osi h
 exact Tri.of (x:=X73) aH aMV [.call ⟨true,[]⟩ (.ref 2 0 0 0 x2.length .virt) [(.arr 2 (List.map aB x2) 0 0 false)],.norm 0 ⟨[(2,[])],[⟨.tmp 2,[],none⟩,⟨.cell 0 1,[],none⟩],false,[],[]⟩] [⟨(kJ k x2 _ e0)⟩] (by kernel_rfl)
end Go.Ws

namespace Go.Ws
open Go.Proofs
set_option linter.unusedSimpArgs false
set_option linter.unusedVariables false
set_option maxRecDepth 1000000
set_option maxHeartbeats 4000000
noncomputable def X75:Ctx:=⟨Try.f75,[],true⟩
theorem oD (x1:Int) (x2:Int):Tri Try.prog 75 [(.agg [(.int .u8 x1),(.int .i64 x2)])] [] (.bool (g4 x1 x2)) []:=by
 obtain⟨r,h⟩:∃r,g4 x1 x2=r:=⟨_,rfl⟩
 try rw[h]
 unfold g4 at h
 obtain rfl:=h
 exact Tri.of (x:=X75) aH facts75 [] [] (by kernel_rfl)
end Go.Ws

namespace Go.Ws
open Go.Proofs
set_option linter.unusedSimpArgs false
set_option linter.unusedVariables false
set_option maxRecDepth 1000000
set_option maxHeartbeats 4000000
noncomputable def X50:Ctx:=⟨Try.f50,[],true⟩
noncomputable def L50_0:Code:=at_ Try.f50 [1,0,1,4,5]
def S50_0 (x1:aL) (cX:Int):St:=⟨mkT 19 [(0,(.sl 2 (List.map aB x1))),(1,(.fn 75 [])),(7,(.int .i64 (nI x1.length))),(8,(.int .i64 cX))],[]⟩
def aIV:St:=⟨mkT 19 [],[]⟩
def O50_0 (x1:aL) (y:(Sum (Unit) (Int))):GX:=match y with
 | .inl y=>.st (.exit 0) (aIV)
 | .inr y=>.fin (.int .i64 y) []
theorem mP (x1:aL) (y:(Sum (Unit) (Int))):∀(k:Nat) (cX:Int),cU k x1 cX=some y→LT Try.prog X50 L50_0 (S50_0 x1 cX) (O50_0 x1 y)
 | 0,cX,h=>by cases h
 | k+1,cX,h=>by
  rw[cU] at h
  by_cases cL0:ltI cX (nI x1.length)=true
  · rw[if_pos cL0] at h
    by_cases cL1:inI cX x1.length=true
    · rw[if_pos cL1] at h
      obtain⟨hI,eL2,h⟩:=bsm h
      by_cases cL3:(g4 hI.1 hI.2)=true
      · rw[if_pos cL3] at h
        obtain rfl:=osi h
        show LT _ _ _ _ (.fin (.int .i64 cX) [])
        exact LT.done aH (hs:=⟨[],[],false,[],[]⟩) (es:=none) [dt,.n x1.length,.row [(.int .u8 hI.1),(.int .i64 hI.2)],.call ⟨true,[]⟩ (.bool (g4 hI.1 hI.2)) [],dt] [⟨cL3⟩,⟨(oD hI.1 hI.2)⟩,⟨(aO (e:=aB) eL2 2 0 2 (by decide))⟩,⟨cL1⟩,⟨(aK aB x1)⟩,⟨cL0⟩] (by kernel_rfl) (fun s h=>by cases h)
      rw[if_neg cL3] at h;replace cL3:=eqf cL3
      exact LT.next aH (hs:=⟨[(0,[]),(1,[]),(7,[]),(8,[])],[],false,[],[]⟩) (es:=none) [dt,.n x1.length,.row [(.int .u8 hI.1),(.int .i64 hI.2)],.call ⟨true,[]⟩ (.bool (g4 hI.1 hI.2)) [],df] [⟨cL3⟩,⟨(oD hI.1 hI.2)⟩,⟨(aO (e:=aB) eL2 2 0 2 (by decide))⟩,⟨cL1⟩,⟨(aK aB x1)⟩,⟨cL0⟩] (by kernel_rfl) (mP x1 y k (aM .i64 cX 1) h)
    rw[if_neg cL1] at h;replace cL1:=eqf cL1
    cases h
  rw[if_neg cL0] at h;replace cL0:=eqf cL0
  obtain rfl:=osi h
  show LT _ _ _ _ (.st (.exit 0) (aIV))
  exact LT.done aH (hs:=⟨[],[],false,[],[]⟩) (es:=(some ⟨[],[],false,[],[]⟩)) [df] [⟨cL0⟩] (by kernel_rfl) (fun s h=>by cases h)
theorem zK (k:Nat) (x1:aL) (r:Int) (h:j8 k x1=some r):Tri Try.prog 50 [(.sl 2 (List.map aB x1)),(.fn 75 [])] [] (.int .i64 r) []:=by
 unfold j8 at h
 obtain⟨x2,e0,h⟩:=bsm h
 cases x2 with
 | inl x3 =>
  simp only[Sum.elim_inl] at h
  obtain rfl:=osi h
  exact Tri.of (x:=X50) aH aDQ [.n x1.length,.norm 2 ⟨[(0,[]),(1,[]),(7,[]),(8,[])],[],false,[],[]⟩,.out (.st .normal (aIV))] [⟨(LT.block (mP x1 _ k 0 e0))⟩,⟨(aK aB x1)⟩] (by kernel_rfl)
 | inr x3 =>
  simp only[Sum.elim_inr] at h
  obtain rfl:=osi h
  exact Tri.of (x:=X50) aH aDQ [.n x1.length,.norm 2 ⟨[(0,[]),(1,[]),(7,[]),(8,[])],[],false,[],[]⟩,.out (.fin (.int .i64 x3) [])] [⟨(LT.blockFin (id:=0) (mP x1 _ k 0 e0))⟩,⟨(aK aB x1)⟩] (by kernel_rfl)
end Go.Ws

namespace Go.Ws
open Go.Proofs
set_option linter.unusedSimpArgs false
set_option linter.unusedVariables false
set_option maxRecDepth 1000000
set_option maxHeartbeats 4000000
noncomputable def X42:Ctx:=⟨Try.f42,[],true⟩
theorem dK (k:Nat) (x1:aL) (r:Bool) (h:iP k x1=some r):Tri Try.prog 42 [(.sl 2 (List.map aB x1)),(.fn 75 [])] [] (.bool r) []:=by
 unfold iP at h
 obtain⟨x2,e0,h⟩:=bsm h
 obtain rfl:=osi h
 exact Tri.of (x:=X42) aH aNS [.call ⟨true,[]⟩ (.int .i64 x2) []] [⟨(zK k x1 _ e0)⟩] (by kernel_rfl)
end Go.Ws

namespace Go.Ws
open Go.Proofs
set_option linter.unusedSimpArgs false
set_option linter.unusedVariables false
set_option maxRecDepth 1000000
set_option maxHeartbeats 4000000
noncomputable def X74:Ctx:=⟨Try.f74,[],true⟩
theorem bM (k:Nat) (x1:Int) (x2:aL) (x3:Bool) (x4:Int) (r:Bool) (h:mL k x1 x2 x3 x4=some r):Tri Try.prog 74 [(.agg [(.int .i64 x1),(.sl 2 (List.map aB x2)),(.bool x3),(.int .i64 x4)])] [] (.bool r) []:=by
 unfold mL at h
 by_cases c0:ltI x1 0=true
 · rw[if_pos c0] at h
   obtain rfl:=osi h
   exact Tri.of (x:=X74) aH pD [dt,dt,dt,dt,dt,dt,dt,dt,dt,dt,dt,dt,dt,dt] [⟨rT⟩,⟨rT⟩,⟨rT⟩,⟨rT⟩,⟨rT⟩,⟨rT⟩,⟨rT⟩,⟨rT⟩,⟨rT⟩,⟨rT⟩,⟨c0⟩,⟨c0⟩,⟨c0⟩,⟨c0⟩] (by kernel_rfl)
 rw[if_neg c0] at h;replace c0:=eqf c0
 by_cases c1:ltI 3 x1=true
 · rw[if_pos c1] at h
   obtain rfl:=osi h
   exact Tri.of (x:=X74) aH pD [df,df,df,df,dt,dt,dt,dt,dt,dt,dt,dt,dt,dt] [⟨rT⟩,⟨rT⟩,⟨rT⟩,⟨rT⟩,⟨rT⟩,⟨c1⟩,⟨c1⟩,⟨c1⟩,⟨c1⟩,⟨c1⟩,⟨c0⟩,⟨c0⟩,⟨c0⟩,⟨c0⟩] (by kernel_rfl)
 rw[if_neg c1] at h;replace c1:=eqf c1
 by_cases c2:ltI 50 (nI x2.length)=true
 · rw[if_pos c2] at h
   obtain rfl:=osi h
   exact Tri.of (x:=X74) aH pD [df,df,df,df,df,df,df,.n x2.length,df,df,dt,dt,dt,dt,dt] [⟨rT⟩,⟨c2⟩,⟨c2⟩,⟨c2⟩,⟨c2⟩,⟨c1⟩,⟨c1⟩,⟨(aK aB x2)⟩,⟨c1⟩,⟨c1⟩,⟨c1⟩,⟨c0⟩,⟨c0⟩,⟨c0⟩,⟨c0⟩] (by kernel_rfl)
 rw[if_neg c2] at h;replace c2:=eqf c2
 obtain⟨x5,e3,h⟩:=bsm h
 by_cases c4:x5=true
 · rw[if_pos c4] at h
   obtain rfl:=osi h
   exact Tri.of (x:=X74) aH pD [df,df,df,df,df,df,df,.n x2.length,df,df,df,df,df,.call ⟨true,[]⟩ (.bool x5) [],df,dt] [⟨c4⟩,⟨c2⟩,⟨(dK k x2 _ e3)⟩,⟨c2⟩,⟨c2⟩,⟨c2⟩,⟨c1⟩,⟨c1⟩,⟨(aK aB x2)⟩,⟨c1⟩,⟨c1⟩,⟨c1⟩,⟨c0⟩,⟨c0⟩,⟨c0⟩,⟨c0⟩] (by kernel_rfl)
 rw[if_neg c4] at h;replace c4:=eqf c4
 by_cases c5:eqI x4 1=true
 · rw[if_pos c5] at h
   by_cases c6:eqI x1 3=true
   · rw[if_pos c6] at h
     obtain rfl:=osi h
     exact Tri.of (x:=X74) aH pD [df,df,df,df,df,df,df,.n x2.length,df,df,df,df,df,.call ⟨true,[]⟩ (.bool x5) [],df,df,dt,dt,dt,dt,dt] [⟨c6⟩,⟨c5⟩,⟨c5⟩,⟨c5⟩,⟨c5⟩,⟨c4⟩,⟨c2⟩,⟨(dK k x2 _ e3)⟩,⟨c2⟩,⟨c2⟩,⟨c2⟩,⟨c1⟩,⟨c1⟩,⟨(aK aB x2)⟩,⟨c1⟩,⟨c1⟩,⟨c1⟩,⟨c0⟩,⟨c0⟩,⟨c0⟩,⟨c0⟩] (by kernel_rfl)
   rw[if_neg c6] at h;replace c6:=eqf c6
   by_cases c7:eqI x4 0=true
   · rw[if_pos c7] at h
     by_cases c8:x3=true
     · rw[if_pos c8] at h
       obtain rfl:=osi h
       exact Tri.of (x:=X74) aH pD [df,df,df,df,df,df,df,.n x2.length,df,df,df,df,df,.call ⟨true,[]⟩ (.bool x5) [],df,df,dt,dt,dt,dt,df,dt,dt,dt,dt,df,df,df,dt,df,dt] [⟨c7⟩,⟨(nF c8)⟩,⟨c7⟩,⟨(nF c8)⟩,⟨(nF c8)⟩,⟨(nF c8)⟩,⟨c7⟩,⟨c7⟩,⟨c7⟩,⟨c7⟩,⟨c6⟩,⟨c5⟩,⟨c5⟩,⟨c5⟩,⟨c5⟩,⟨c4⟩,⟨c2⟩,⟨(dK k x2 _ e3)⟩,⟨c2⟩,⟨c2⟩,⟨c2⟩,⟨c1⟩,⟨c1⟩,⟨(aK aB x2)⟩,⟨c1⟩,⟨c1⟩,⟨c1⟩,⟨c0⟩,⟨c0⟩,⟨c0⟩,⟨c0⟩] (by kernel_rfl)
     rw[if_neg c8] at h;replace c8:=eqf c8
     obtain rfl:=osi h
     exact Tri.of (x:=X74) aH pD [df,df,df,df,df,df,df,.n x2.length,df,df,df,df,df,.call ⟨true,[]⟩ (.bool x5) [],df,df,dt,dt,dt,dt,df,dt,dt,dt,dt,dt,dt,dt,dt,dt,dt] [⟨c7⟩,⟨(nT c8)⟩,⟨c7⟩,⟨(nT c8)⟩,⟨(nT c8)⟩,⟨(nT c8)⟩,⟨c7⟩,⟨c7⟩,⟨c7⟩,⟨c7⟩,⟨c6⟩,⟨c5⟩,⟨c5⟩,⟨c5⟩,⟨c5⟩,⟨c4⟩,⟨c2⟩,⟨(dK k x2 _ e3)⟩,⟨c2⟩,⟨c2⟩,⟨c2⟩,⟨c1⟩,⟨c1⟩,⟨(aK aB x2)⟩,⟨c1⟩,⟨c1⟩,⟨c1⟩,⟨c0⟩,⟨c0⟩,⟨c0⟩,⟨c0⟩] (by kernel_rfl)
   rw[if_neg c7] at h;replace c7:=eqf c7
   obtain rfl:=osi h
   exact Tri.of (x:=X74) aH pD [df,df,df,df,df,df,df,.n x2.length,df,df,df,df,df,.call ⟨true,[]⟩ (.bool x5) [],df,df,dt,dt,dt,dt,df,df,df,df,df,df,df] [⟨c7⟩,⟨c7⟩,⟨c7⟩,⟨c7⟩,⟨c7⟩,⟨c7⟩,⟨c6⟩,⟨c5⟩,⟨c5⟩,⟨c5⟩,⟨c5⟩,⟨c4⟩,⟨c2⟩,⟨(dK k x2 _ e3)⟩,⟨c2⟩,⟨c2⟩,⟨c2⟩,⟨c1⟩,⟨c1⟩,⟨(aK aB x2)⟩,⟨c1⟩,⟨c1⟩,⟨c1⟩,⟨c0⟩,⟨c0⟩,⟨c0⟩,⟨c0⟩] (by kernel_rfl)
 rw[if_neg c5] at h;replace c5:=eqf c5
 by_cases c6:eqI x1 3=true
 · rw[if_pos c6] at h
   obtain rfl:=osi h
   exact Tri.of (x:=X74) aH pD [df,df,df,df,df,df,df,.n x2.length,df,df,df,df,df,.call ⟨true,[]⟩ (.bool x5) [],df,df,df,df,df,df,dt] [⟨c6⟩,⟨c5⟩,⟨c5⟩,⟨c5⟩,⟨c5⟩,⟨c4⟩,⟨c2⟩,⟨(dK k x2 _ e3)⟩,⟨c2⟩,⟨c2⟩,⟨c2⟩,⟨c1⟩,⟨c1⟩,⟨(aK aB x2)⟩,⟨c1⟩,⟨c1⟩,⟨c1⟩,⟨c0⟩,⟨c0⟩,⟨c0⟩,⟨c0⟩] (by kernel_rfl)
 rw[if_neg c6] at h;replace c6:=eqf c6
 by_cases c7:eqI x4 0=true
 · rw[if_pos c7] at h
   by_cases c8:x3=true
   · rw[if_pos c8] at h
     obtain rfl:=osi h
     exact Tri.of (x:=X74) aH pD [df,df,df,df,df,df,df,.n x2.length,df,df,df,df,df,.call ⟨true,[]⟩ (.bool x5) [],df,df,df,df,df,df,df,dt,dt,dt,dt,df,df,df,dt,df,dt] [⟨c7⟩,⟨(nF c8)⟩,⟨c7⟩,⟨(nF c8)⟩,⟨(nF c8)⟩,⟨(nF c8)⟩,⟨c7⟩,⟨c7⟩,⟨c7⟩,⟨c7⟩,⟨c6⟩,⟨c5⟩,⟨c5⟩,⟨c5⟩,⟨c5⟩,⟨c4⟩,⟨c2⟩,⟨(dK k x2 _ e3)⟩,⟨c2⟩,⟨c2⟩,⟨c2⟩,⟨c1⟩,⟨c1⟩,⟨(aK aB x2)⟩,⟨c1⟩,⟨c1⟩,⟨c1⟩,⟨c0⟩,⟨c0⟩,⟨c0⟩,⟨c0⟩] (by kernel_rfl)
   rw[if_neg c8] at h;replace c8:=eqf c8
   obtain rfl:=osi h
   exact Tri.of (x:=X74) aH pD [df,df,df,df,df,df,df,.n x2.length,df,df,df,df,df,.call ⟨true,[]⟩ (.bool x5) [],df,df,df,df,df,df,df,dt,dt,dt,dt,dt,dt,dt,dt,dt,dt] [⟨c7⟩,⟨(nT c8)⟩,⟨c7⟩,⟨(nT c8)⟩,⟨(nT c8)⟩,⟨(nT c8)⟩,⟨c7⟩,⟨c7⟩,⟨c7⟩,⟨c7⟩,⟨c6⟩,⟨c5⟩,⟨c5⟩,⟨c5⟩,⟨c5⟩,⟨c4⟩,⟨c2⟩,⟨(dK k x2 _ e3)⟩,⟨c2⟩,⟨c2⟩,⟨c2⟩,⟨c1⟩,⟨c1⟩,⟨(aK aB x2)⟩,⟨c1⟩,⟨c1⟩,⟨c1⟩,⟨c0⟩,⟨c0⟩,⟨c0⟩,⟨c0⟩] (by kernel_rfl)
 rw[if_neg c7] at h;replace c7:=eqf c7
 obtain rfl:=osi h
 exact Tri.of (x:=X74) aH pD [df,df,df,df,df,df,df,.n x2.length,df,df,df,df,df,.call ⟨true,[]⟩ (.bool x5) [],df,df,df,df,df,df,df,df,df,df,df,df,df] [⟨c7⟩,⟨c7⟩,⟨c7⟩,⟨c7⟩,⟨c7⟩,⟨c7⟩,⟨c6⟩,⟨c5⟩,⟨c5⟩,⟨c5⟩,⟨c5⟩,⟨c4⟩,⟨c2⟩,⟨(dK k x2 _ e3)⟩,⟨c2⟩,⟨c2⟩,⟨c2⟩,⟨c1⟩,⟨c1⟩,⟨(aK aB x2)⟩,⟨c1⟩,⟨c1⟩,⟨c1⟩,⟨c0⟩,⟨c0⟩,⟨c0⟩,⟨c0⟩] (by kernel_rfl)
end Go.Ws

namespace Go.Ws
open Go.Proofs
set_option linter.unusedSimpArgs false
set_option linter.unusedVariables false
set_option maxRecDepth 1000000
set_option maxHeartbeats 4000000
noncomputable def X57:Ctx:=⟨Try.f57,[],true⟩
def aI6 (x1:Int) (x2:aL) (x3:Bool) (x4:Int):Ans:=.call ⟨true,[]⟩ (.agg [(.int .i64 x1),(.ref 2 0 0 0 x2.length .virt),(.bool x3),(.int .i64 x4)]) [(.arr 2 (List.map aB x2) 0 0 false)]
def A57_1 (x5:Int) (x6:Int):Ans:=.call ⟨true,[]⟩ (.bool (g4 x5 x6)) []
theorem xQ (k:Nat) (x1:Int) (x2:aL) (x3:Bool) (x4:Int) (x5:Int) (x6:Int) (r:Int × aL × Bool × Int × Int) (h:vL k x1 x2 x3 x4 x5 x6=some r):Tri Try.prog 57 [(.agg [(.int .i64 x1),(.sl 2 (List.map aB x2)),(.bool x3),(.int .i64 x4)]),(.agg [(.int .u8 x5),(.int .i64 x6)])] [] (.tup [(.agg [(.int .i64 r.1),(.sl 2 (List.map aB r.2.1)),(.bool r.2.2.1),(.int .i64 r.2.2.2.1)]),(.int .i64 r.2.2.2.2)]) []:=by
 unfold vL at h
 obtain⟨x7,e0,h⟩:=bsm h
 obtain⟨x8,e1,h⟩:=bsm h
 by_cases c2:x8=true
 · rw[if_pos c2] at h
   by_cases c3:(g4 x5 x6)=true
   · rw[if_pos c3] at h
     obtain rfl:=osi h
     exact Tri.of (x:=X57) aH aAS [(aI6 x1 x2 x3 x4),.call ⟨true,[]⟩ (.bool x8) [],.rows (List.map aB x2),df,df,(A57_1 x5 x6),df,dt,.rows (List.map aB x2)] [⟨(bC aB (l:=x2) (n:=x2.length) rfl)⟩,⟨(cJ aB (Nat.le_refl x2.length):0+x2.length≤(List.map aB x2).length)⟩,⟨c3⟩,⟨(nF c2)⟩,⟨(oD x5 x6)⟩,⟨(nF c2)⟩,⟨(nF c2)⟩,⟨(bM k x1 x2 x3 x4 _ e1)⟩,⟨(bC aB (l:=x2) (n:=x2.length) rfl)⟩,⟨(cJ aB (Nat.le_refl x2.length):0+x2.length≤(List.map aB x2).length)⟩,⟨(lZ k x1 x2 x3 x4 _ e0)⟩] (by kernel_rfl)
   rw[if_neg c3] at h;replace c3:=eqf c3
   by_cases c4:eqI x1 0=true
   · rw[if_pos c4] at h
     by_cases c5:ltI (nI x2.length) 50=true
     · rw[if_pos c5] at h
       by_cases c6:dR (((x2++[(x5,x6)]).length)*16)=true
       · rw[if_pos c6] at h
         obtain rfl:=osi h
         exact Tri.of (x:=X57) aH aAS [(aI6 x1 x2 x3 x4),.call ⟨true,[]⟩ (.bool x8) [],.rows (List.map aB x2),df,df,(A57_1 x5 x6),df,df,df,df,.rows (List.map aB [(x5,x6)]),.n ((x2++[(x5,x6)]).length),.n x2.length,dt,.rows (List.map aB (x2++[(x5,x6)])),.rows (List.map aB (x2++[(x5,x6)]))] [⟨(bC aB (l:=(x2++[(x5,x6)])) (n:=((x2++[(x5,x6)]).length)) rfl)⟩,⟨(cJ aB (Nat.le_refl ((x2++[(x5,x6)]).length)):0+(x2++[(x5,x6)]).length≤(List.map aB (x2++[(x5,x6)])).length)⟩,⟨(aDS aB x2 [(x5,x6)])⟩,⟨(aAW x2.length)⟩,⟨(aK aB x2)⟩,⟨c6⟩,⟨(by simp only[wl,List.length_map,List.map_nil,List.map_cons]<;>omega:x2.length+(List.map aB [(x5,x6)]).length=(x2++[(x5,x6)]).length)⟩,⟨(bC aB (l:=[(x5,x6)]) (n:=1) rfl)⟩,⟨(cJ aB (Nat.le_refl 1):0+1≤(List.map aB [(x5,x6)]).length)⟩,⟨(nF c5)⟩,⟨(nF c4)⟩,⟨c3⟩,⟨(nF c2)⟩,⟨(oD x5 x6)⟩,⟨(nF c2)⟩,⟨(nF c2)⟩,⟨(bM k x1 x2 x3 x4 _ e1)⟩,⟨(bC aB (l:=x2) (n:=x2.length) rfl)⟩,⟨(cJ aB (Nat.le_refl x2.length):0+x2.length≤(List.map aB x2).length)⟩,⟨(lZ k x1 x2 x3 x4 _ e0)⟩] (by kernel_rfl)
       rw[if_neg c6] at h;replace c6:=eqf c6
       cases h
     rw[if_neg c5] at h;replace c5:=eqf c5
     obtain rfl:=osi h
     exact Tri.of (x:=X57) aH aAS [(aI6 x1 x2 x3 x4),.call ⟨true,[]⟩ (.bool x8) [],.rows (List.map aB x2),df,df,(A57_1 x5 x6),df,df,df,dt,.rows (List.map aB x2)] [⟨(bC aB (l:=x2) (n:=x2.length) rfl)⟩,⟨(cJ aB (Nat.le_refl x2.length):0+x2.length≤(List.map aB x2).length)⟩,⟨(nT c5)⟩,⟨(nF c4)⟩,⟨c3⟩,⟨(nF c2)⟩,⟨(oD x5 x6)⟩,⟨(nF c2)⟩,⟨(nF c2)⟩,⟨(bM k x1 x2 x3 x4 _ e1)⟩,⟨(bC aB (l:=x2) (n:=x2.length) rfl)⟩,⟨(cJ aB (Nat.le_refl x2.length):0+x2.length≤(List.map aB x2).length)⟩,⟨(lZ k x1 x2 x3 x4 _ e0)⟩] (by kernel_rfl)
   rw[if_neg c4] at h;replace c4:=eqf c4
   obtain rfl:=osi h
   exact Tri.of (x:=X57) aH aAS [(aI6 x1 x2 x3 x4),.call ⟨true,[]⟩ (.bool x8) [],.rows (List.map aB x2),df,df,(A57_1 x5 x6),df,df,dt,.rows (List.map aB x2)] [⟨(bC aB (l:=x2) (n:=x2.length) rfl)⟩,⟨(cJ aB (Nat.le_refl x2.length):0+x2.length≤(List.map aB x2).length)⟩,⟨(nT c4)⟩,⟨c3⟩,⟨(nF c2)⟩,⟨(oD x5 x6)⟩,⟨(nF c2)⟩,⟨(nF c2)⟩,⟨(bM k x1 x2 x3 x4 _ e1)⟩,⟨(bC aB (l:=x2) (n:=x2.length) rfl)⟩,⟨(cJ aB (Nat.le_refl x2.length):0+x2.length≤(List.map aB x2).length)⟩,⟨(lZ k x1 x2 x3 x4 _ e0)⟩] (by kernel_rfl)
 rw[if_neg c2] at h;replace c2:=eqf c2
 obtain rfl:=osi h
 exact Tri.of (x:=X57) aH aAS [(aI6 x1 x2 x3 x4),.call ⟨true,[]⟩ (.bool x8) [],.rows (List.map aB x2),dt,dt,dt,dt,.rows (List.map aB x2)] [⟨(bC aB (l:=x2) (n:=x2.length) rfl)⟩,⟨(cJ aB (Nat.le_refl x2.length):0+x2.length≤(List.map aB x2).length)⟩,⟨rT⟩,⟨(nT c2)⟩,⟨(nT c2)⟩,⟨(nT c2)⟩,⟨(bM k x1 x2 x3 x4 _ e1)⟩,⟨(bC aB (l:=x2) (n:=x2.length) rfl)⟩,⟨(cJ aB (Nat.le_refl x2.length):0+x2.length≤(List.map aB x2).length)⟩,⟨(lZ k x1 x2 x3 x4 _ e0)⟩] (by kernel_rfl)
end Go.Ws

namespace Go.Ws
open Go.Proofs
set_option linter.unusedSimpArgs false
set_option linter.unusedVariables false
set_option maxRecDepth 1000000
set_option maxHeartbeats 4000000
noncomputable def X37:Ctx:=⟨Try.f37,[],true⟩
noncomputable def L37_0:Code:=at_ Try.f37 [1,0,1,4,5]
def S37_0 (x1:aL) (x2:Int) (dN:Int):St:=⟨mkT 20 [(1,(.int .u8 x2)),(7,(.sl 2 (List.map aB x1))),(8,(.int .i64 (nI x1.length))),(9,(.int .i64 dN))],[]⟩
def aH1:St:=⟨mkT 20 [],[]⟩
def O37_0 (x1:aL) (x2:Int) (y:(Sum (Unit) (Int))):GX:=match y with
 | .inl y=>.st (.exit 0) (aH1)
 | .inr y=>.fin (.int .i64 y) []
theorem qX (x1:aL) (x2:Int) (y:(Sum (Unit) (Int))):∀(k:Nat) (dN:Int),f7 k x1 x2 dN=some y→LT Try.prog X37 L37_0 (S37_0 x1 x2 dN) (O37_0 x1 x2 y)
 | 0,dN,h=>by cases h
 | k+1,dN,h=>by
  rw[f7] at h
  by_cases cL0:ltI dN (nI x1.length)=true
  · rw[if_pos cL0] at h
    by_cases cL1:inI dN x1.length=true
    · rw[if_pos cL1] at h
      obtain⟨m6,eL2,h⟩:=bsm h
      by_cases cL3:eqI m6.1 x2=true
      · rw[if_pos cL3] at h
        obtain rfl:=osi h
        show LT _ _ _ _ (.fin (.int .i64 m6.2) [])
        exact LT.done aH (hs:=⟨[],[],false,[],[]⟩) (es:=none) [dt,.n x1.length,.row [(.int .u8 m6.1),(.int .i64 m6.2)],dt] [⟨cL3⟩,⟨(aO (e:=aB) eL2 2 0 2 (by decide))⟩,⟨cL1⟩,⟨(aK aB x1)⟩,⟨cL0⟩] (by kernel_rfl) (fun s h=>by cases h)
      rw[if_neg cL3] at h;replace cL3:=eqf cL3
      exact LT.next aH (hs:=⟨[(1,[]),(7,[]),(8,[]),(9,[])],[],false,[],[]⟩) (es:=none) [dt,.n x1.length,.row [(.int .u8 m6.1),(.int .i64 m6.2)],df] [⟨cL3⟩,⟨(aO (e:=aB) eL2 2 0 2 (by decide))⟩,⟨cL1⟩,⟨(aK aB x1)⟩,⟨cL0⟩] (by kernel_rfl) (qX x1 x2 y k (aM .i64 dN 1) h)
    rw[if_neg cL1] at h;replace cL1:=eqf cL1
    cases h
  rw[if_neg cL0] at h;replace cL0:=eqf cL0
  obtain rfl:=osi h
  show LT _ _ _ _ (.st (.exit 0) (aH1))
  exact LT.done aH (hs:=⟨[],[],false,[],[]⟩) (es:=(some ⟨[],[],false,[],[]⟩)) [df] [⟨cL0⟩] (by kernel_rfl) (fun s h=>by cases h)
theorem aF7 (k:Nat) (x1:aL) (x2:Int) (r:Int) (h:q8 k x1 x2=some r):Tri Try.prog 37 [(.sl 2 (List.map aB x1)),(.int .u8 x2)] [] (.int .i64 r) []:=by
 unfold q8 at h
 obtain⟨x3,e0,h⟩:=bsm h
 cases x3 with
 | inl x4 =>
  simp only[Sum.elim_inl] at h
  obtain rfl:=osi h
  exact Tri.of (x:=X37) aH aNG [.n x1.length,.norm 2 ⟨[(1,[]),(7,[]),(8,[]),(9,[])],[],false,[],[]⟩,.out (.st .normal (aH1))] [⟨(LT.block (qX x1 x2 _ k 0 e0))⟩,⟨(aK aB x1)⟩] (by kernel_rfl)
 | inr x4 =>
  simp only[Sum.elim_inr] at h
  obtain rfl:=osi h
  exact Tri.of (x:=X37) aH aNG [.n x1.length,.norm 2 ⟨[(1,[]),(7,[]),(8,[]),(9,[])],[],false,[],[]⟩,.out (.fin (.int .i64 x4) [])] [⟨(LT.blockFin (id:=0) (qX x1 x2 _ k 0 e0))⟩,⟨(aK aB x1)⟩] (by kernel_rfl)
end Go.Ws

namespace Go.Ws
open Go.Proofs
set_option linter.unusedSimpArgs false
set_option linter.unusedVariables false
set_option maxRecDepth 1000000
set_option maxHeartbeats 4000000
noncomputable def X73_1:Ctx:=⟨Try.f73,[],true⟩
theorem bD (k:Nat) (x1:Int) (x2:aL) (x3:Bool) (x4:Int) (r:Int × aL × Bool × Int) (h:iR k x1 x2 x3 x4=some r):Tri Try.prog 73 [(.agg [(.int .i64 x1),(.sl 2 (List.map aB x2)),(.bool x3),(.int .i64 x4)])] [] (.agg [(.int .i64 r.1),(.sl 2 (List.map aB r.2.1)),(.bool r.2.2.1),(.int .i64 r.2.2.2)]) []:=by
 unfold iR at h
 obtain⟨x5,e0,h⟩:=bsm h
 obtain rfl:=osi h
 exact Tri.of (x:=X73_1) aH aMV [.call ⟨true,[]⟩ (.ref 2 0 0 0 x2.length .virt) [(.arr 2 (List.map aB x2) 0 0 false)],.rows (List.map aB x2)] [⟨(bC aB (l:=x2) (n:=x2.length) rfl)⟩,⟨(cJ aB (Nat.le_refl x2.length):0+x2.length≤(List.map aB x2).length)⟩,⟨(kJ k x2 _ e0)⟩] (by kernel_rfl)
end Go.Ws

namespace Go.Ws
open Go.Proofs
set_option linter.unusedSimpArgs false
set_option linter.unusedVariables false
set_option maxRecDepth 1000000
set_option maxHeartbeats 4000000
noncomputable def X58:Ctx:=⟨Try.f58,[],true⟩
def A58_0 (x6:Int × aL × Bool × Int):Ans:=.call ⟨true,[]⟩ (.agg [(.int .i64 x6.1),(.sl 2 (List.map aB x6.2.1)),(.bool x6.2.2.1),(.int .i64 x6.2.2.2)]) []
theorem vZ (k:Nat) (x1:Int) (x2:aL) (x3:Bool) (x4:Int) (x5:Bool) (r:Int × aL × Bool × Int × Int) (h:s4 k x1 x2 x3 x4 x5=some r):Tri Try.prog 58 [(.agg [(.int .i64 x1),(.sl 2 (List.map aB x2)),(.bool x3),(.int .i64 x4)]),(.bool x5)] [] (.tup [(.agg [(.int .i64 r.1),(.sl 2 (List.map aB r.2.1)),(.bool r.2.2.1),(.int .i64 r.2.2.2.1)]),(.int .i64 r.2.2.2.2)]) []:=by
 unfold s4 at h
 obtain⟨x6,e0,h⟩:=bsm h
 obtain⟨x7,e1,h⟩:=bsm h
 by_cases c2:x7=true
 · rw[if_pos c2] at h
   by_cases c3:eqI x6.1 0=true
   · rw[if_pos c3] at h
     by_cases c4:x5=true
     · rw[if_pos c4] at h
       obtain rfl:=osi h
       exact Tri.of (x:=X58) aH aDR [(A58_0 x6),.call ⟨true,[]⟩ (.bool x7) [],df,df,dt] [⟨c4⟩,⟨(nF c3)⟩,⟨(nF c2)⟩,⟨(bM k x6.1 x6.2.1 x6.2.2.1 x6.2.2.2 _ e1)⟩,⟨(bD k x1 x2 x3 x4 _ e0)⟩] (by kernel_rfl)
     rw[if_neg c4] at h;replace c4:=eqf c4
     obtain rfl:=osi h
     exact Tri.of (x:=X58) aH aDR [(A58_0 x6),.call ⟨true,[]⟩ (.bool x7) [],df,df,df] [⟨c4⟩,⟨(nF c3)⟩,⟨(nF c2)⟩,⟨(bM k x6.1 x6.2.1 x6.2.2.1 x6.2.2.2 _ e1)⟩,⟨(bD k x1 x2 x3 x4 _ e0)⟩] (by kernel_rfl)
   rw[if_neg c3] at h;replace c3:=eqf c3
   obtain rfl:=osi h
   exact Tri.of (x:=X58) aH aDR [(A58_0 x6),.call ⟨true,[]⟩ (.bool x7) [],df,dt] [⟨(nT c3)⟩,⟨(nF c2)⟩,⟨(bM k x6.1 x6.2.1 x6.2.2.1 x6.2.2.2 _ e1)⟩,⟨(bD k x1 x2 x3 x4 _ e0)⟩] (by kernel_rfl)
 rw[if_neg c2] at h;replace c2:=eqf c2
 obtain rfl:=osi h
 exact Tri.of (x:=X58) aH aDR [(A58_0 x6),.call ⟨true,[]⟩ (.bool x7) [],dt] [⟨(nT c2)⟩,⟨(bM k x6.1 x6.2.1 x6.2.2.1 x6.2.2.2 _ e1)⟩,⟨(bD k x1 x2 x3 x4 _ e0)⟩] (by kernel_rfl)
end Go.Ws

namespace Go.Ws
open Go.Proofs
set_option linter.unusedSimpArgs false
set_option linter.unusedVariables false
set_option maxRecDepth 1000000
set_option maxHeartbeats 4000000
noncomputable def X40_1001:Ctx:=⟨Try.f40,[],false⟩
theorem vG (k:Nat) (x1:aL) (r:Unit) (h:g8 k x1=some r):Tri Try.prog 40 [(.inl 2 (List.map aB x1))] [] (.ref 2 0 0 0 x1.length .virt) [(.arr 2 (List.map aB x1) 0 0 false)]:=by
 unfold g8 at h
 by_cases c0:dR (x1.length*16)=true
 · rw[if_pos c0] at h
   obtain rfl:=osi h
   exact Tri.of (x:=X40_1001) aH aMI [df,.n x1.length,.norm 0 ⟨[(2,[])],[⟨.tmp 2,[],some 2⟩],false,[],[]⟩,.n x1.length,.rows (List.map aB x1)] [⟨(dW aB (l:=x1) (n:=x1.length) rfl)⟩,⟨(rfl:x1.length=x1.length)⟩,⟨(zle x1.length)⟩,⟨c0⟩,⟨(aK aB x1)⟩,⟨rF⟩] (by kernel_rfl)
 rw[if_neg c0] at h;replace c0:=eqf c0
 cases h
end Go.Ws

namespace Go.Ws
open Go.Proofs
set_option linter.unusedSimpArgs false
set_option linter.unusedVariables false
set_option maxRecDepth 1000000
set_option maxHeartbeats 4000000
noncomputable def X40_1002:Ctx:=⟨Try.f40,[],false⟩
theorem vQ:Tri Try.prog 40 [.nils] [] (.ref 2 0 0 0 0 .virt) [(.arr 2 (List.map aB []) 0 0 false)]:=by
 obtain⟨r,h⟩:∃r,oA=r:=⟨_,rfl⟩
 try rw[h]
 unfold oA at h
 obtain rfl:=h
 exact Tri.of (x:=X40_1002) aH aMI [dt,.norm 0 ⟨[(2,[])],[⟨.tmp 2,[],some 2⟩],false,[],[]⟩,.n 0,.rows (List.map aB [])] [⟨(dW aB (l:=[]) (n:=0) rfl)⟩,⟨(rfl:0=0)⟩,⟨(zle 0)⟩,⟨rT⟩] (by kernel_rfl)
end Go.Ws

namespace Go.Ws
open Go.Proofs
set_option linter.unusedSimpArgs false
set_option linter.unusedVariables false
set_option maxRecDepth 1000000
set_option maxHeartbeats 4000000
theorem pK (k:Nat) (x1:aL) (r:Unit) (h:mW k x1=some r):Tri Try.prog 40 [(.sl 2 (List.map aB x1))] [] (.ref 2 0 0 0 x1.length .virt) [(.arr 2 (List.map aB x1) 0 0 false)]:=by
 refine Tri.slOf (vG k x1 r h) fun h0=>?_
 have hx:x1=[]:=by simpa using h0
 subst hx
 exact vQ
end Go.Ws

namespace Go.Ws
open Go.Proofs
set_option linter.unusedSimpArgs false
set_option linter.unusedVariables false
set_option maxRecDepth 1000000
set_option maxHeartbeats 4000000
noncomputable def X41:Ctx:=⟨Try.f41,[],true⟩
noncomputable def L41_0:Code:=at_ Try.f41 [1,0,1,4,5]
def S41_0 (x1:aL) (bW:Int):St:=⟨mkT 36 [(0,(.sl 2 (List.map aB x1))),(5,(.sl 2 (List.map aB x1))),(6,(.int .i64 (nI x1.length))),(7,(.int .i64 bW))],[]⟩
def aID:St:=⟨mkT 36 [],[]⟩
def O41_0 (x1:aL) (y:aDF):GX:=match y with
 | .inl y=>.st (.exit 0) (aID)
 | .inr y=>.fin (.bool y) []
def aJU (iK:Int × Int):Ans:=.row [(.int .u8 iK.1),(.int .i64 iK.2)]
theorem mG (x1:aL) (y:aDF):∀(k:Nat) (bW:Int),d8 k x1 bW=some y→LT Try.prog X41 L41_0 (S41_0 x1 bW) (O41_0 x1 y)
 | 0,bW,h=>by cases h
 | k+1,bW,h=>by
  rw[d8] at h
  by_cases cL0:ltI bW (nI x1.length)=true
  · rw[if_pos cL0] at h
    by_cases cL1:inI bW x1.length=true
    · rw[if_pos cL1] at h
      obtain⟨iK,eL2,h⟩:=bsm h
      by_cases cL3:ltI iK.1 64=true
      · rw[if_pos cL3] at h
        by_cases cL4:eqI iK.2 0=true
        · rw[if_pos cL4] at h
          obtain rfl:=osi h
          show LT _ _ _ _ (.fin (.bool false) [])
          exact LT.done aH (hs:=⟨[],[],false,[],[]⟩) (es:=none) [dt,.n x1.length,(aJU iK),df,df,df,df,dt,dt,dt,dt,dt,dt] [⟨rT⟩,⟨cL4⟩,⟨cL4⟩,⟨cL4⟩,⟨cL4⟩,⟨cL4⟩,⟨(nF cL3)⟩,⟨(nF cL3)⟩,⟨(nF cL3)⟩,⟨(nF cL3)⟩,⟨(aO (e:=aB) eL2 2 0 2 (by decide))⟩,⟨cL1⟩,⟨(aK aB x1)⟩,⟨cL0⟩] (by kernel_rfl) (fun s h=>by cases h)
        rw[if_neg cL4] at h;replace cL4:=eqf cL4
        by_cases cL5:ltI 0 bW=true
        · rw[if_pos cL5] at h
          by_cases cL6:inI (rW .i64 bW 1) x1.length=true
          · rw[if_pos cL6] at h
            obtain⟨t4,eL7,h⟩:=bsm h
            by_cases cL8:ltI t4.1 iK.1=true
            · rw[if_pos cL8] at h
              exact LT.next aH (hs:=⟨[(0,[]),(5,[]),(6,[]),(7,[])],[],false,[],[]⟩) (es:=none) [dt,.n x1.length,(aJU iK),df,df,df,df,df,df,df,dt,dt,dt,dt,.n x1.length,dt,dt,.row [(.int .u8 t4.1)],dt,dt,dt,df,dt,df,df] [⟨(nF cL8)⟩,⟨cL4⟩,⟨cL5⟩,⟨cL4⟩,⟨cL5⟩,⟨cL5⟩,⟨cL5⟩,⟨(aO (e:=aB) eL7 2 0 1 (by decide))⟩,⟨cL5⟩,⟨cL5⟩,⟨cL6⟩,⟨(aK aB x1)⟩,⟨cL5⟩,⟨cL5⟩,⟨cL5⟩,⟨cL5⟩,⟨cL4⟩,⟨cL4⟩,⟨cL4⟩,⟨(nF cL3)⟩,⟨(nF cL3)⟩,⟨(nF cL3)⟩,⟨(nF cL3)⟩,⟨(aO (e:=aB) eL2 2 0 2 (by decide))⟩,⟨cL1⟩,⟨(aK aB x1)⟩,⟨cL0⟩] (by kernel_rfl) (mG x1 y k (aM .i64 bW 1) h)
            rw[if_neg cL8] at h;replace cL8:=eqf cL8
            obtain rfl:=osi h
            show LT _ _ _ _ (.fin (.bool false) [])
            exact LT.done aH (hs:=⟨[],[],false,[],[]⟩) (es:=none) [dt,.n x1.length,(aJU iK),df,df,df,df,df,df,df,dt,dt,dt,dt,.n x1.length,dt,dt,.row [(.int .u8 t4.1)],dt,dt,dt,df,dt,df,dt] [⟨(nT cL8)⟩,⟨cL4⟩,⟨cL5⟩,⟨cL4⟩,⟨cL5⟩,⟨cL5⟩,⟨cL5⟩,⟨(aO (e:=aB) eL7 2 0 1 (by decide))⟩,⟨cL5⟩,⟨cL5⟩,⟨cL6⟩,⟨(aK aB x1)⟩,⟨cL5⟩,⟨cL5⟩,⟨cL5⟩,⟨cL5⟩,⟨cL4⟩,⟨cL4⟩,⟨cL4⟩,⟨(nF cL3)⟩,⟨(nF cL3)⟩,⟨(nF cL3)⟩,⟨(nF cL3)⟩,⟨(aO (e:=aB) eL2 2 0 2 (by decide))⟩,⟨cL1⟩,⟨(aK aB x1)⟩,⟨cL0⟩] (by kernel_rfl) (fun s h=>by cases h)
          rw[if_neg cL6] at h;replace cL6:=eqf cL6
          cases h
        rw[if_neg cL5] at h;replace cL5:=eqf cL5
        exact LT.next aH (hs:=⟨[(0,[]),(5,[]),(6,[]),(7,[])],[],false,[],[]⟩) (es:=none) [dt,.n x1.length,(aJU iK),df,df,df,df,df,df,df,df,df,df,df,df,df,df,df,df,df,df,df,df] [⟨rF⟩,⟨cL4⟩,⟨cL5⟩,⟨cL4⟩,⟨cL5⟩,⟨cL5⟩,⟨cL5⟩,⟨cL5⟩,⟨cL5⟩,⟨cL5⟩,⟨cL5⟩,⟨cL5⟩,⟨cL5⟩,⟨cL4⟩,⟨cL4⟩,⟨cL4⟩,⟨(nF cL3)⟩,⟨(nF cL3)⟩,⟨(nF cL3)⟩,⟨(nF cL3)⟩,⟨(aO (e:=aB) eL2 2 0 2 (by decide))⟩,⟨cL1⟩,⟨(aK aB x1)⟩,⟨cL0⟩] (by kernel_rfl) (mG x1 y k (aM .i64 bW 1) h)
      rw[if_neg cL3] at h;replace cL3:=eqf cL3
      obtain rfl:=osi h
      show LT _ _ _ _ (.fin (.bool false) [])
      exact LT.done aH (hs:=⟨[],[],false,[],[]⟩) (es:=none) [dt,.n x1.length,(aJU iK),dt,dt,dt,dt,dt,dt,dt,dt,dt,dt] [⟨rT⟩,⟨rT⟩,⟨rT⟩,⟨rT⟩,⟨rT⟩,⟨rT⟩,⟨(nT cL3)⟩,⟨(nT cL3)⟩,⟨(nT cL3)⟩,⟨(nT cL3)⟩,⟨(aO (e:=aB) eL2 2 0 2 (by decide))⟩,⟨cL1⟩,⟨(aK aB x1)⟩,⟨cL0⟩] (by kernel_rfl) (fun s h=>by cases h)
    rw[if_neg cL1] at h;replace cL1:=eqf cL1
    cases h
  rw[if_neg cL0] at h;replace cL0:=eqf cL0
  obtain rfl:=osi h
  show LT _ _ _ _ (.st (.exit 0) (aID))
  exact LT.done aH (hs:=⟨[],[],false,[],[]⟩) (es:=(some ⟨[],[],false,[],[]⟩)) [df] [⟨cL0⟩] (by kernel_rfl) (fun s h=>by cases h)
theorem sE (k:Nat) (x1:aL) (r:Bool) (h:oH k x1=some r):Tri Try.prog 41 [(.sl 2 (List.map aB x1))] [] (.bool r) []:=by
 unfold oH at h
 obtain⟨x2,e0,h⟩:=bsm h
 cases x2 with
 | inl x3 =>
  simp only[Sum.elim_inl] at h
  obtain rfl:=osi h
  exact Tri.of (x:=X41) aH aNF [.n x1.length,.norm 2 ⟨[(0,[]),(5,[]),(6,[]),(7,[])],[],false,[],[]⟩,.out (.st .normal (aID))] [⟨(LT.block (mG x1 _ k 0 e0))⟩,⟨(aK aB x1)⟩] (by kernel_rfl)
 | inr x3 =>
  simp only[Sum.elim_inr] at h
  obtain rfl:=osi h
  exact Tri.of (x:=X41) aH aNF [.n x1.length,.norm 2 ⟨[(0,[]),(5,[]),(6,[]),(7,[])],[],false,[],[]⟩,.out (.fin (.bool x3) [])] [⟨(LT.blockFin (id:=0) (mG x1 _ k 0 e0))⟩,⟨(aK aB x1)⟩] (by kernel_rfl)
end Go.Ws

namespace Go.Ws
open Go.Proofs
set_option linter.unusedSimpArgs false
set_option linter.unusedVariables false
set_option maxRecDepth 1000000
set_option maxHeartbeats 4000000
noncomputable def X39:Ctx:=⟨Try.f39,[],false⟩
theorem wU (x1:Int) (x2:Int):Tri Try.prog 39 [(.agg [(.int .u8 x1),(.int .i64 x2)])] [] (.bool (!ltI x1 64)) []:=by
 obtain⟨r,h⟩:∃r,wC x1 x2=r:=⟨_,rfl⟩
 try rw[h]
 unfold wC at h
 obtain rfl:=h
 exact Tri.of (x:=X39) aH facts39 [.norm 0 ⟨[(2,[])],[],false,[],[]⟩] [] (by kernel_rfl)
end Go.Ws

namespace Go.Ws
open Go.Proofs
set_option linter.unusedSimpArgs false
set_option linter.unusedVariables false
set_option maxRecDepth 1000000
set_option maxHeartbeats 4000000
noncomputable def X50_1:Ctx:=⟨Try.f50,[],true⟩
noncomputable def L50_1_0:Code:=at_ Try.f50 [1,0,1,4,5]
def S50_1_0 (x1:aL) (cA:Int):St:=⟨mkT 19 [(0,(.sl 2 (List.map aB x1))),(1,(.fn 39 [])),(7,(.int .i64 (nI x1.length))),(8,(.int .i64 cA))],[]⟩
def aCD:St:=⟨mkT 19 [],[]⟩
def O50_1_0 (x1:aL) (y:(Sum (Unit) (Int))):GX:=match y with
 | .inl y=>.st (.exit 0) (aCD)
 | .inr y=>.fin (.int .i64 y) []
theorem lM (x1:aL) (y:(Sum (Unit) (Int))):∀(k:Nat) (cA:Int),cH k x1 cA=some y→LT Try.prog X50_1 L50_1_0 (S50_1_0 x1 cA) (O50_1_0 x1 y)
 | 0,cA,h=>by cases h
 | k+1,cA,h=>by
  rw[cH] at h
  by_cases cL0:ltI cA (nI x1.length)=true
  · rw[if_pos cL0] at h
    by_cases cL1:inI cA x1.length=true
    · rw[if_pos cL1] at h
      obtain⟨i5,eL2,h⟩:=bsm h
      by_cases cL3:ltI i5.1 64=true
      · rw[if_pos cL3] at h
        exact LT.next aH (hs:=⟨[(0,[]),(1,[]),(7,[]),(8,[])],[],false,[],[]⟩) (es:=none) [dt,.n x1.length,.row [(.int .u8 i5.1),(.int .i64 i5.2)],.call ⟨false,[]⟩ (.bool (!ltI i5.1 64)) [],df] [⟨(nF cL3)⟩,⟨(wU i5.1 i5.2)⟩,⟨(aO (e:=aB) eL2 2 0 2 (by decide))⟩,⟨cL1⟩,⟨(aK aB x1)⟩,⟨cL0⟩] (by kernel_rfl) (lM x1 y k (aM .i64 cA 1) h)
      rw[if_neg cL3] at h;replace cL3:=eqf cL3
      obtain rfl:=osi h
      show LT _ _ _ _ (.fin (.int .i64 cA) [])
      exact LT.done aH (hs:=⟨[],[],false,[],[]⟩) (es:=none) [dt,.n x1.length,.row [(.int .u8 i5.1),(.int .i64 i5.2)],.call ⟨false,[]⟩ (.bool (!ltI i5.1 64)) [],dt] [⟨(nT cL3)⟩,⟨(wU i5.1 i5.2)⟩,⟨(aO (e:=aB) eL2 2 0 2 (by decide))⟩,⟨cL1⟩,⟨(aK aB x1)⟩,⟨cL0⟩] (by kernel_rfl) (fun s h=>by cases h)
    rw[if_neg cL1] at h;replace cL1:=eqf cL1
    cases h
  rw[if_neg cL0] at h;replace cL0:=eqf cL0
  obtain rfl:=osi h
  show LT _ _ _ _ (.st (.exit 0) (aCD))
  exact LT.done aH (hs:=⟨[],[],false,[],[]⟩) (es:=(some ⟨[],[],false,[],[]⟩)) [df] [⟨cL0⟩] (by kernel_rfl) (fun s h=>by cases h)
theorem xA (k:Nat) (x1:aL) (r:Int) (h:iW k x1=some r):Tri Try.prog 50 [(.sl 2 (List.map aB x1)),(.fn 39 [])] [] (.int .i64 r) []:=by
 unfold iW at h
 obtain⟨x2,e0,h⟩:=bsm h
 cases x2 with
 | inl x3 =>
  simp only[Sum.elim_inl] at h
  obtain rfl:=osi h
  exact Tri.of (x:=X50_1) aH aDQ [.n x1.length,.norm 2 ⟨[(0,[]),(1,[]),(7,[]),(8,[])],[],false,[],[]⟩,.out (.st .normal (aCD))] [⟨(LT.block (lM x1 _ k 0 e0))⟩,⟨(aK aB x1)⟩] (by kernel_rfl)
 | inr x3 =>
  simp only[Sum.elim_inr] at h
  obtain rfl:=osi h
  exact Tri.of (x:=X50_1) aH aDQ [.n x1.length,.norm 2 ⟨[(0,[]),(1,[]),(7,[]),(8,[])],[],false,[],[]⟩,.out (.fin (.int .i64 x3) [])] [⟨(LT.blockFin (id:=0) (lM x1 _ k 0 e0))⟩,⟨(aK aB x1)⟩] (by kernel_rfl)
end Go.Ws

namespace Go.Ws
open Go.Proofs
set_option linter.unusedSimpArgs false
set_option linter.unusedVariables false
set_option maxRecDepth 1000000
set_option maxHeartbeats 4000000
noncomputable def X42_1:Ctx:=⟨Try.f42,[],true⟩
theorem oT (k:Nat) (x1:aL) (r:Bool) (h:gO k x1=some r):Tri Try.prog 42 [(.sl 2 (List.map aB x1)),(.fn 39 [])] [] (.bool r) []:=by
 unfold gO at h
 obtain⟨x2,e0,h⟩:=bsm h
 obtain rfl:=osi h
 exact Tri.of (x:=X42_1) aH aNS [.call ⟨true,[]⟩ (.int .i64 x2) []] [⟨(xA k x1 _ e0)⟩] (by kernel_rfl)
end Go.Ws

namespace Go.Ws
open Go.Proofs
set_option linter.unusedSimpArgs false
set_option linter.unusedVariables false
set_option maxRecDepth 1000000
set_option maxHeartbeats 4000000
noncomputable def X52:Ctx:=⟨Try.f52,[],false⟩
theorem qY (x1:Int) (x2:Int) (x3:Int):Tri Try.prog 52 [(.agg [(.int .u8 x1),(.int .i64 x2)]),(.int .u8 x3)] [] (.int .i64 (bK x1 x3)) []:=by
 obtain⟨r,h⟩:∃r,uS x1 x2 x3=r:=⟨_,rfl⟩
 try rw[h]
 unfold uS at h
 obtain rfl:=h
 exact Tri.of (x:=X52) aH facts52 [.call ⟨true,[]⟩ (.int .i64 (bK x1 x3)) [],.norm 0 ⟨[(4,[])],[],false,[],[]⟩] [⟨(yJ x1 x3)⟩] (by kernel_rfl)
end Go.Ws

namespace Go.Ws
open Go.Proofs
set_option linter.unusedSimpArgs false
set_option linter.unusedVariables false
set_option maxRecDepth 1000000
set_option maxHeartbeats 4000000
noncomputable def X51:Ctx:=⟨Try.f51,[],true⟩
noncomputable def L51_0:Code:=at_ Try.f51 [1,1,1,0,4,5]
def S51_0 (x1:aL) (x2:Int) (cC:Int) (cQ:Int):St:=⟨mkT 49 [(0,(.sl 2 (List.map aB x1))),(1,(.int .u8 x2)),(2,(.fn 52 [])),(8,(.int .i64 (nI x1.length))),(9,(.int .i64 cC)),(10,(.int .i64 cQ))],[]⟩
def aDW (x1:aL) (x2:Int) (v51002_1:Int):St:=⟨mkT 49 [(0,(.sl 2 (List.map aB x1))),(1,(.int .u8 x2)),(2,(.fn 52 [])),(8,(.int .i64 (nI x1.length))),(9,(.int .i64 v51002_1))],[]⟩
def O51_0 (x1:aL) (x2:Int) (y:(Int)):GX:=.st (.exit 0) (aDW x1 x2 y)
def A51_0:Ans:=.norm 2 ⟨[(0,[]),(1,[]),(2,[]),(8,[]),(9,[]),(10,[])],[],false,[],[]⟩
theorem fJ (x1:aL) (x2:Int) (y:(Int)):∀(k:Nat) (cC:Int) (cQ:Int),aZ k x1 x2 cC cQ=some y→LT Try.prog X51 L51_0 (S51_0 x1 x2 cC cQ) (O51_0 x1 x2 y)
 | 0,cC,cQ,h=>by cases h
 | k+1,cC,cQ,h=>by
  rw[aZ] at h
  by_cases cL0:ltI cC cQ=true
  · rw[if_pos cL0] at h
    by_cases cL1:inI (conv .i64 (sA .u64 (conv .u64 (aM .i64 cC cQ)) 1)) x1.length=true
    · rw[if_pos cL1] at h
      obtain⟨kP,eL2,h⟩:=bsm h
      by_cases cL3:ltI (bK kP.1 x2) 0=true
      · rw[if_pos cL3] at h
        exact LT.next aH (hs:=⟨[(0,[]),(1,[]),(2,[]),(8,[]),(9,[]),(10,[])],[],false,[],[]⟩) (es:=none) [dt,.n x1.length,.row [(.int .u8 kP.1),(.int .i64 kP.2)],.call ⟨false,[]⟩ (.int .i64 (bK kP.1 x2)) [],dt] [⟨cL3⟩,⟨(qY kP.1 kP.2 x2)⟩,⟨(aO (e:=aB) eL2 2 0 2 (by decide))⟩,⟨cL1⟩,⟨(aK aB x1)⟩,⟨cL0⟩] (by kernel_rfl) (fJ x1 x2 y k (aM .i64 (conv .i64 (sA .u64 (conv .u64 (aM .i64 cC cQ)) 1)) 1) cQ h)
      rw[if_neg cL3] at h;replace cL3:=eqf cL3
      exact LT.next aH (hs:=⟨[(0,[]),(1,[]),(2,[]),(8,[]),(9,[]),(10,[])],[],false,[],[]⟩) (es:=none) [dt,.n x1.length,.row [(.int .u8 kP.1),(.int .i64 kP.2)],.call ⟨false,[]⟩ (.int .i64 (bK kP.1 x2)) [],df] [⟨cL3⟩,⟨(qY kP.1 kP.2 x2)⟩,⟨(aO (e:=aB) eL2 2 0 2 (by decide))⟩,⟨cL1⟩,⟨(aK aB x1)⟩,⟨cL0⟩] (by kernel_rfl) (fJ x1 x2 y k cC (conv .i64 (sA .u64 (conv .u64 (aM .i64 cC cQ)) 1)) h)
    rw[if_neg cL1] at h;replace cL1:=eqf cL1
    cases h
  rw[if_neg cL0] at h;replace cL0:=eqf cL0
  obtain rfl:=osi h
  show LT _ _ _ _ (.st (.exit 0) (aDW x1 x2 cC))
  exact LT.done aH (hs:=⟨[],[],false,[],[]⟩) (es:=(some ⟨[(0,[]),(1,[]),(2,[]),(8,[]),(9,[])],[],false,[],[]⟩)) [df] [⟨cL0⟩] (by kernel_rfl) (fun s h=>by cases h)
theorem rU (k:Nat) (x1:aL) (x2:Int) (r:Int × Bool) (h:eQ k x1 x2=some r):Tri Try.prog 51 [(.sl 2 (List.map aB x1)),(.int .u8 x2),(.fn 52 [])] [] (.tup [(.int .i64 r.1),(.bool r.2)]) []:=by
 unfold eQ at h
 obtain⟨x4,e0,h⟩:=bsm h
 by_cases c2:ltI x4 (nI x1.length)=true
 · rw[if_pos c2] at h
   by_cases c3:inI x4 x1.length=true
   · rw[if_pos c3] at h
     obtain⟨x5,e4,h⟩:=bsm h
     obtain rfl:=osi h
     exact Tri.of (x:=X51) aH aM0 [.n x1.length,A51_0,.out (.st .normal (aDW x1 x2 x4)),dt,dt,dt,dt,.n x1.length,dt,.row [(.int .u8 x5.1),(.int .i64 x5.2)],dt,dt,.call ⟨false,[]⟩ (.int .i64 (bK x5.1 x2)) [],dt,dt] [⟨c2⟩,⟨c2⟩,⟨(qY x5.1 x5.2 x2)⟩,⟨c2⟩,⟨c2⟩,⟨(aO (e:=aB) e4 2 0 2 (by decide))⟩,⟨c2⟩,⟨c3⟩,⟨(aK aB x1)⟩,⟨c2⟩,⟨c2⟩,⟨c2⟩,⟨c2⟩,⟨(LT.block (fJ x1 x2 _ k 0 (nI x1.length) e0))⟩,⟨(aK aB x1)⟩] (by kernel_rfl)
   rw[if_neg c3] at h;replace c3:=eqf c3
   cases h
 rw[if_neg c2] at h;replace c2:=eqf c2
 obtain rfl:=osi h
 exact Tri.of (x:=X51) aH aM0 [.n x1.length,A51_0,.out (.st .normal (aDW x1 x2 x4)),df,df,df,df,df,df,df,df,df] [⟨c2⟩,⟨c2⟩,⟨c2⟩,⟨c2⟩,⟨c2⟩,⟨c2⟩,⟨c2⟩,⟨c2⟩,⟨c2⟩,⟨(LT.block (fJ x1 x2 _ k 0 (nI x1.length) e0))⟩,⟨(aK aB x1)⟩] (by kernel_rfl)
end Go.Ws

namespace Go.Ws
open Go.Proofs
set_option linter.unusedSimpArgs false
set_option linter.unusedVariables false
set_option maxRecDepth 1000000
set_option maxHeartbeats 4000000
noncomputable def X43:Ctx:=⟨Try.f43,[],true⟩
theorem qQ (k:Nat) (x1:aL) (x2:Int) (r:Int × Bool) (h:pO k x1 x2=some r):Tri Try.prog 43 [(.sl 2 (List.map aB x1)),(.int .u8 x2)] [] (.tup [(.int .i64 r.1),(.bool r.2)]) []:=by
 unfold pO at h
 obtain⟨x3,e0,h⟩:=bsm h
 obtain rfl:=osi h
 exact Tri.of (x:=X43) aH facts43 [.call ⟨true,[]⟩ (.tup [(.int .i64 x3.1),(.bool x3.2)]) []] [⟨(rU k x1 x2 _ e0)⟩] (by kernel_rfl)
end Go.Ws

namespace Go.Ws
open Go.Proofs
set_option linter.unusedSimpArgs false
set_option linter.unusedVariables false
set_option maxRecDepth 1000000
set_option maxHeartbeats 4000000
theorem aC0 (k:Nat) (x1:Int) (x2:Int) (x3:aL) (r:aL) (h:o8 k x1 x2 x3=some r):Tri Try.prog 45 [(.ref 2 0 0 0 x3.length .virt),(.int .i64 x1),(.int .i64 x2)] [(.arr 2 (List.map aB x3) 0 0 false)] (.ref 2 0 1 0 r.length .full) [(.arr 2 (List.map aB r) 1 1 false)]:=aJM _ h
end Go.Ws

namespace Go.Ws
open Go.Proofs
set_option linter.unusedSimpArgs false
set_option linter.unusedVariables false
set_option maxRecDepth 1000000
set_option maxHeartbeats 4000000
theorem sM (k:Nat) (x1:Int) (x2:aL) (x3:aL) (r:aL) (h:mB k x1 x2 x3=some r):Tri Try.prog 44 [(.ref 2 0 0 0 x2.length .virt),(.int .i64 x1),(.ref 2 1 0 0 x3.length .full)] [(.arr 2 (List.map aB x2) 0 0 false),(.arr 2 (List.map aB x3) 0 0 false)] (.ref 2 0 1 0 r.length .full) [(.arr 2 (List.map aB r) 1 1 false),(.arr 2 (List.map aB x3) 0 0 false)]:=ins_ok44 _ h rfl
end Go.Ws

namespace Go.Ws
open Go.Proofs
set_option linter.unusedSimpArgs false
set_option linter.unusedVariables false
set_option maxRecDepth 1000000
set_option maxHeartbeats 4000000
theorem z4 (k:Nat) (x1:Int) (x2:Int) (x3:aL) (r:aL) (h:mZ k x1 x2 x3=some r):Tri Try.prog 45 [(.ref 2 0 1 0 x3.length .full),(.int .i64 x1),(.int .i64 x2)] [(.arr 2 (List.map aB x3) 1 1 false)] (.ref 2 0 2 0 r.length .full) [(.arr 2 (List.map aB r) 2 2 false)]:=aJM _ h
end Go.Ws

namespace Go.Ws
open Go.Proofs
set_option linter.unusedSimpArgs false
set_option linter.unusedVariables false
set_option maxRecDepth 1000000
set_option maxHeartbeats 4000000
noncomputable def X30:Ctx:=⟨Try.f30,[],true⟩
noncomputable def L30_0:Code:=at_ Try.f30 [1,1,1,1,0,1,4,5]
def S30_0 (x2:aL) (cD:Int) (aP:aL):St:=⟨mkT 67 [(0,(.ref 2 0 0 0 aP.length .virt)),(22,(.sl 2 (List.map aB x2))),(23,(.int .i64 (nI x2.length))),(24,(.int .i64 cD))],[(.arr 2 (List.map aB aP) 0 0 false)]⟩
def aIS (aKW:aL):St:=⟨mkT 67 [(0,(.ref 2 0 0 0 aKW.length .virt))],[(.arr 2 (List.map aB aKW) 0 0 false)]⟩
def O30_0 (x2:aL) (y:(aL)):GX:=.st (.exit 0) (aIS y)
def A30_0 (bA:Int × Int):Ans:=.row [(.int .u8 bA.1),(.int .i64 bA.2)]
def A30_1 (aT:Int × Bool):Ans:=.call ⟨true,[]⟩ (.tup [(.int .i64 aT.1),(.bool aT.2)]) []
def A30_2 (x1:aL):Ans:=.call ⟨true,[]⟩ (.ref 2 0 0 0 x1.length .virt) [(.arr 2 (List.map aB x1) 0 0 false)]
theorem mA (x2:aL) (y:(aL)):∀(k:Nat) (cD:Int) (aP:aL),eH k x2 cD aP=some y→LT Try.prog X30 L30_0 (S30_0 x2 cD aP) (O30_0 x2 y)
 | 0,cD,aP,h=>by cases h
 | k+1,cD,aP,h=>by
  rw[eH] at h
  by_cases cL0:ltI cD (nI x2.length)=true
  · rw[if_pos cL0] at h
    by_cases cL1:inI cD x2.length=true
    · rw[if_pos cL1] at h
      obtain⟨bA,eL2,h⟩:=bsm h
      obtain⟨aT,eL3,h⟩:=bsm h
      by_cases cL4:aT.2=true
      · rw[if_pos cL4] at h
        by_cases cL5:inI aT.1 aP.length=true
        · rw[if_pos cL5] at h
          obtain⟨aS,eL6,h⟩:=bsm h
          obtain⟨bL,eL7,h⟩:=bsm h
          by_cases cL8:eqI bL.2 0=true
          · rw[if_pos cL8] at h
            obtain⟨gE,eL9,h⟩:=bsm h
            exact LT.next aH (hs:=⟨[(0,[]),(22,[]),(23,[]),(24,[])],[⟨.tmp 0,[],some 2⟩],false,[],[]⟩) (es:=none) [dt,.n x2.length,(A30_0 bA),(A30_1 aT),.rows (List.map aB aP),df,.row [(.int .i64 aS.2)],.rows (List.map aB (List.set aP (tN aT.1) (aS.1,aM .i64 aS.2 bA.2))),.row [(.int .i64 bL.2)],dt,.call ⟨false,[]⟩ (.ref 2 0 1 0 gE.length .full) [(.arr 2 (List.map aB gE) 1 1 false)],.n gE.length,.rows (List.map aB gE)] [⟨(dW aB (l:=gE) (n:=gE.length) rfl)⟩,⟨(rfl:gE.length=gE.length)⟩,⟨(zle gE.length)⟩,⟨(by have hh:=(aC0 k aT.1 (aM .i64 aT.1 1) (List.set aP (tN aT.1) (aS.1,aM .i64 aS.2 bA.2)) _ eL9);simp only[List.length_set] at hh;exact hh)⟩,⟨cL8⟩,⟨(aO (e:=aB) eL7 2 1 1 (by decide))⟩,⟨cL5⟩,⟨(rB (e:=aB) eL6 1 [(.int .i64 (aM .i64 aS.2 bA.2))] (aS.1,aM .i64 aS.2 bA.2) rfl)⟩,⟨cL5⟩,⟨(aO (e:=aB) eL6 2 1 1 (by decide))⟩,⟨cL5⟩,⟨(nF cL4)⟩,⟨(qQ k aP bA.1 _ eL3)⟩,⟨(bC aB (l:=aP) (n:=aP.length) rfl)⟩,⟨(cJ aB (Nat.le_refl aP.length):0+aP.length≤(List.map aB aP).length)⟩,⟨(aO (e:=aB) eL2 2 0 2 (by decide))⟩,⟨cL1⟩,⟨(aK aB x2)⟩,⟨cL0⟩] (by kernel_rfl) (mA x2 y k (aM .i64 cD 1) gE h)
          rw[if_neg cL8] at h;replace cL8:=eqf cL8
          exact LT.next aH (hs:=⟨[(0,[]),(22,[]),(23,[]),(24,[])],[⟨.tmp 0,[],some 2⟩],false,[],[]⟩) (es:=none) [dt,.n x2.length,(A30_0 bA),(A30_1 aT),.rows (List.map aB aP),df,.row [(.int .i64 aS.2)],.rows (List.map aB (List.set aP (tN aT.1) (aS.1,aM .i64 aS.2 bA.2))),.row [(.int .i64 bL.2)],df,.n ((List.set aP (tN aT.1) (aS.1,aM .i64 aS.2 bA.2)).length),.rows (List.map aB (List.set aP (tN aT.1) (aS.1,aM .i64 aS.2 bA.2)))] [⟨(dW aB (l:=(List.set aP (tN aT.1) (aS.1,aM .i64 aS.2 bA.2))) (n:=aP.length) (by simp:aP.length=(List.set aP (tN aT.1) (aS.1,aM .i64 aS.2 bA.2)).length))⟩,⟨((by simp:aP.length=List.length (α:=Int × Int) (List.set aP (tN aT.1) (aS.1,aM .i64 aS.2 bA.2))):aP.length=(List.set aP (tN aT.1) (aS.1,aM .i64 aS.2 bA.2)).length)⟩,⟨(zle aP.length)⟩,⟨cL8⟩,⟨(aO (e:=aB) eL7 2 1 1 (by decide))⟩,⟨cL5⟩,⟨(rB (e:=aB) eL6 1 [(.int .i64 (aM .i64 aS.2 bA.2))] (aS.1,aM .i64 aS.2 bA.2) rfl)⟩,⟨cL5⟩,⟨(aO (e:=aB) eL6 2 1 1 (by decide))⟩,⟨cL5⟩,⟨(nF cL4)⟩,⟨(qQ k aP bA.1 _ eL3)⟩,⟨(bC aB (l:=aP) (n:=aP.length) rfl)⟩,⟨(cJ aB (Nat.le_refl aP.length):0+aP.length≤(List.map aB aP).length)⟩,⟨(aO (e:=aB) eL2 2 0 2 (by decide))⟩,⟨cL1⟩,⟨(aK aB x2)⟩,⟨cL0⟩] (by kernel_rfl) (mA x2 y k (aM .i64 cD 1) (List.set aP (tN aT.1) (aS.1,aM .i64 aS.2 bA.2)) h)
        rw[if_neg cL5] at h;replace cL5:=eqf cL5
        cases h
      rw[if_neg cL4] at h;replace cL4:=eqf cL4
      obtain⟨aS,eL5,h⟩:=bsm h
      by_cases cL6:inI aT.1 aS.length=true
      · rw[if_pos cL6] at h
        obtain⟨bL,eL7,h⟩:=bsm h
        obtain⟨gE,eL8,h⟩:=bsm h
        by_cases cL9:eqI gE.2 0=true
        · rw[if_pos cL9] at h
          obtain⟨lH,eL10,h⟩:=bsm h
          exact LT.next aH (hs:=⟨[(0,[]),(22,[]),(23,[]),(24,[])],[⟨.tmp 0,[],some 2⟩],false,[],[]⟩) (es:=none) [dt,.n x2.length,(A30_0 bA),(A30_1 aT),.rows (List.map aB aP),dt,.call ⟨false,[]⟩ (.ref 2 0 1 0 aS.length .full) [(.arr 2 (List.map aB aS) 1 1 false),(.arr 2 (List.map aB [(bA.1,0)]) 0 0 false)],.row [(.int .i64 bL.2)],.rows (List.map aB (List.set aS (tN aT.1) (bL.1,aM .i64 bL.2 bA.2))),.row [(.int .i64 gE.2)],dt,.call ⟨false,[]⟩ (.ref 2 0 2 0 lH.length .full) [(.arr 2 (List.map aB lH) 2 2 false)],.n lH.length,.rows (List.map aB lH)] [⟨(dW aB (l:=lH) (n:=lH.length) rfl)⟩,⟨(rfl:lH.length=lH.length)⟩,⟨(zle lH.length)⟩,⟨(by have hh:=(z4 k aT.1 (aM .i64 aT.1 1) (List.set aS (tN aT.1) (bL.1,aM .i64 bL.2 bA.2)) _ eL10);simp only[List.length_set] at hh;exact hh)⟩,⟨cL9⟩,⟨(aO (e:=aB) eL8 2 1 1 (by decide))⟩,⟨cL6⟩,⟨(rB (e:=aB) eL7 1 [(.int .i64 (aM .i64 bL.2 bA.2))] (bL.1,aM .i64 bL.2 bA.2) rfl)⟩,⟨cL6⟩,⟨(aO (e:=aB) eL7 2 1 1 (by decide))⟩,⟨cL6⟩,⟨(sM k aT.1 aP [(bA.1,0)] _ eL5)⟩,⟨(nT cL4)⟩,⟨(qQ k aP bA.1 _ eL3)⟩,⟨(bC aB (l:=aP) (n:=aP.length) rfl)⟩,⟨(cJ aB (Nat.le_refl aP.length):0+aP.length≤(List.map aB aP).length)⟩,⟨(aO (e:=aB) eL2 2 0 2 (by decide))⟩,⟨cL1⟩,⟨(aK aB x2)⟩,⟨cL0⟩] (by kernel_rfl) (mA x2 y k (aM .i64 cD 1) lH h)
        rw[if_neg cL9] at h;replace cL9:=eqf cL9
        exact LT.next aH (hs:=⟨[(0,[]),(22,[]),(23,[]),(24,[])],[⟨.tmp 0,[],some 2⟩],false,[],[]⟩) (es:=none) [dt,.n x2.length,(A30_0 bA),(A30_1 aT),.rows (List.map aB aP),dt,.call ⟨false,[]⟩ (.ref 2 0 1 0 aS.length .full) [(.arr 2 (List.map aB aS) 1 1 false),(.arr 2 (List.map aB [(bA.1,0)]) 0 0 false)],.row [(.int .i64 bL.2)],.rows (List.map aB (List.set aS (tN aT.1) (bL.1,aM .i64 bL.2 bA.2))),.row [(.int .i64 gE.2)],df,.n ((List.set aS (tN aT.1) (bL.1,aM .i64 bL.2 bA.2)).length),.rows (List.map aB (List.set aS (tN aT.1) (bL.1,aM .i64 bL.2 bA.2)))] [⟨(dW aB (l:=(List.set aS (tN aT.1) (bL.1,aM .i64 bL.2 bA.2))) (n:=aS.length) (by simp:aS.length=(List.set aS (tN aT.1) (bL.1,aM .i64 bL.2 bA.2)).length))⟩,⟨((by simp:aS.length=List.length (α:=Int × Int) (List.set aS (tN aT.1) (bL.1,aM .i64 bL.2 bA.2))):aS.length=(List.set aS (tN aT.1) (bL.1,aM .i64 bL.2 bA.2)).length)⟩,⟨(zle aS.length)⟩,⟨cL9⟩,⟨(aO (e:=aB) eL8 2 1 1 (by decide))⟩,⟨cL6⟩,⟨(rB (e:=aB) eL7 1 [(.int .i64 (aM .i64 bL.2 bA.2))] (bL.1,aM .i64 bL.2 bA.2) rfl)⟩,⟨cL6⟩,⟨(aO (e:=aB) eL7 2 1 1 (by decide))⟩,⟨cL6⟩,⟨(sM k aT.1 aP [(bA.1,0)] _ eL5)⟩,⟨(nT cL4)⟩,⟨(qQ k aP bA.1 _ eL3)⟩,⟨(bC aB (l:=aP) (n:=aP.length) rfl)⟩,⟨(cJ aB (Nat.le_refl aP.length):0+aP.length≤(List.map aB aP).length)⟩,⟨(aO (e:=aB) eL2 2 0 2 (by decide))⟩,⟨cL1⟩,⟨(aK aB x2)⟩,⟨cL0⟩] (by kernel_rfl) (mA x2 y k (aM .i64 cD 1) (List.set aS (tN aT.1) (bL.1,aM .i64 bL.2 bA.2)) h)
      rw[if_neg cL6] at h;replace cL6:=eqf cL6
      cases h
    rw[if_neg cL1] at h;replace cL1:=eqf cL1
    cases h
  rw[if_neg cL0] at h;replace cL0:=eqf cL0
  obtain rfl:=osi h
  show LT _ _ _ _ (.st (.exit 0) (aIS aP))
  exact LT.done aH (hs:=⟨[],[],false,[],[]⟩) (es:=(some ⟨[(0,[])],[⟨.tmp 0,[],none⟩],false,[],[]⟩)) [df] [⟨cL0⟩] (by kernel_rfl) (fun s h=>by cases h)
theorem nA (k:Nat) (x1:aL) (x2:aL) (r:aL × Int) (h:lI k x1 x2=some r):Tri Try.prog 30 [(.sl 2 (List.map aB x1)),(.sl 2 (List.map aB x2))] [] (.tup [(.sl 2 (List.map aB r.1)),(.int .i64 r.2)]) []:=by
 unfold lI at h
 obtain⟨x3,e0,h⟩:=bsm h
 obtain⟨x4,e1,h⟩:=bsm h
 by_cases c2:x4=true
 · rw[if_pos c2] at h
   obtain⟨x5,e3,h⟩:=bsm h
   by_cases c4:x5=true
   · rw[if_pos c4] at h
     obtain rfl:=osi h
     exact Tri.of (x:=X30) aH aIJ [(A30_2 x1),.call ⟨true,[]⟩ (.bool x4) [],.rows (List.map aB x1),df,df,df,.call ⟨true,[]⟩ (.bool x5) [],df,dt,.rows (List.map aB x1)] [⟨(bC aB (l:=x1) (n:=x1.length) rfl)⟩,⟨(cJ aB (Nat.le_refl x1.length):0+x1.length≤(List.map aB x1).length)⟩,⟨c4⟩,⟨(nF c2)⟩,⟨(oT k x2 _ e3)⟩,⟨(nF c2)⟩,⟨(nF c2)⟩,⟨(nF c2)⟩,⟨(sE k x1 _ e1)⟩,⟨(bC aB (l:=x1) (n:=x1.length) rfl)⟩,⟨(cJ aB (Nat.le_refl x1.length):0+x1.length≤(List.map aB x1).length)⟩,⟨(pK k x1 _ e0)⟩] (by kernel_rfl)
   rw[if_neg c4] at h;replace c4:=eqf c4
   obtain⟨x7,e5,h⟩:=bsm h
   obtain rfl:=osi h
   exact Tri.of (x:=X30) aH aIJ [(A30_2 x1),.call ⟨true,[]⟩ (.bool x4) [],.rows (List.map aB x1),df,df,df,.call ⟨true,[]⟩ (.bool x5) [],df,df,.n x2.length,.norm 2 ⟨[(0,[]),(22,[]),(23,[]),(24,[])],[⟨.tmp 0,[],some 2⟩],false,[],[]⟩,.n x1.length,.rows (List.map aB x1),.out (.st .normal (aIS x7)),.rows (List.map aB x7)] [⟨(bC aB (l:=x7) (n:=x7.length) rfl)⟩,⟨(cJ aB (Nat.le_refl x7.length):0+x7.length≤(List.map aB x7).length)⟩,⟨(LT.block (mA x2 _ k 0 x1 e5))⟩,⟨(dW aB (l:=x1) (n:=x1.length) rfl)⟩,⟨(rfl:x1.length=x1.length)⟩,⟨(zle x1.length)⟩,⟨(aK aB x2)⟩,⟨c4⟩,⟨(nF c2)⟩,⟨(oT k x2 _ e3)⟩,⟨(nF c2)⟩,⟨(nF c2)⟩,⟨(nF c2)⟩,⟨(sE k x1 _ e1)⟩,⟨(bC aB (l:=x1) (n:=x1.length) rfl)⟩,⟨(cJ aB (Nat.le_refl x1.length):0+x1.length≤(List.map aB x1).length)⟩,⟨(pK k x1 _ e0)⟩] (by kernel_rfl)
 rw[if_neg c2] at h;replace c2:=eqf c2
 obtain rfl:=osi h
 exact Tri.of (x:=X30) aH aIJ [(A30_2 x1),.call ⟨true,[]⟩ (.bool x4) [],.rows (List.map aB x1),dt,dt,dt,dt,dt,.rows (List.map aB x1)] [⟨(bC aB (l:=x1) (n:=x1.length) rfl)⟩,⟨(cJ aB (Nat.le_refl x1.length):0+x1.length≤(List.map aB x1).length)⟩,⟨rT⟩,⟨(nT c2)⟩,⟨(nT c2)⟩,⟨(nT c2)⟩,⟨(nT c2)⟩,⟨(sE k x1 _ e1)⟩,⟨(bC aB (l:=x1) (n:=x1.length) rfl)⟩,⟨(cJ aB (Nat.le_refl x1.length):0+x1.length≤(List.map aB x1).length)⟩,⟨(pK k x1 _ e0)⟩] (by kernel_rfl)
end Go.Ws

namespace Go.Ws
open Go.Proofs
set_option linter.unusedSimpArgs false
set_option linter.unusedVariables false
set_option maxRecDepth 1000000
set_option maxHeartbeats 4000000
noncomputable def X78 (x4:Int):Ctx:=⟨Try.f78,[(.row [(.int .i64 x4)])],false⟩
theorem qJ (x1:Int) (x2:Int) (x3:Bool) (x4:Int):Tri Try.prog 78 [(.agg [(.int .u8 x1),(.int .i64 x2),(.bool x3)]),(.hp 0 0)] [(.row [(.int .i64 x4)])] (.bool (eqI x2 x4)) [(.row [(.int .i64 x4)])]:=by
 obtain⟨r,h⟩:∃r,xB x1 x2 x3 x4=r:=⟨_,rfl⟩
 try rw[h]
 unfold xB at h
 obtain rfl:=h
 exact Tri.of (x:=(X78 x4)) aH facts78 [.norm 0 ⟨[(3,[])],[],false,[],[]⟩] [] (by kernel_rfl)
end Go.Ws

namespace Go.Ws
open Go.Proofs
set_option linter.unusedSimpArgs false
set_option linter.unusedVariables false
set_option maxRecDepth 1000000
set_option maxHeartbeats 4000000
noncomputable def X92 (x1:Ty8) (x2:Int):Ctx:=⟨Try.f92,[(.arr 3 (List.map aE x1) 0 0 false),(.row [(.int .i64 x2)])],false⟩
noncomputable def L92_0:Code:=at_ Try.f92 [1,0,1,4,5]
def S92_0 (x1:Ty8) (x2:Int) (cY:Int):St:=⟨mkT 19 [(0,(.ref 3 0 0 0 x1.length .virt)),(1,(.fn 78 [(.hp 1 0)])),(7,(.int .i64 (nI x1.length))),(8,(.int .i64 cY))],[(.arr 3 (List.map aE x1) 0 0 false),(.row [(.int .i64 x2)])]⟩
def aHL (x1:Ty8) (x2:Int):St:=⟨mkT 19 [],[(.arr 3 (List.map aE x1) 0 0 false),(.row [(.int .i64 x2)])]⟩
def O92_0 (x1:Ty8) (x2:Int) (y:(Sum (Unit) (Int))):GX:=match y with
 | .inl y=>.st (.exit 0) (aHL x1 x2)
 | .inr y=>.fin (.int .i64 y) [(.arr 3 (List.map aE x1) 0 0 false),(.row [(.int .i64 x2)])]
theorem kT (x1:Ty8) (x2:Int) (y:(Sum (Unit) (Int))):∀(k:Nat) (cY:Int),bX k x1 x2 cY=some y→LT Try.prog (X92 x1 x2) L92_0 (S92_0 x1 x2 cY) (O92_0 x1 x2 y)
 | 0,cY,h=>by cases h
 | k+1,cY,h=>by
  rw[bX] at h
  by_cases cL0:ltI cY (nI x1.length)=true
  · rw[if_pos cL0] at h
    by_cases cL1:inI cY x1.length=true
    · rw[if_pos cL1] at h
      obtain⟨iL,eL2,h⟩:=bsm h
      by_cases cL3:eqI iL.2.1 x2=true
      · rw[if_pos cL3] at h
        obtain rfl:=osi h
        show LT _ _ _ _ (.fin (.int .i64 cY) [(.arr 3 (List.map aE x1) 0 0 false),(.row [(.int .i64 x2)])])
        exact LT.done aH (hs:=⟨[],[],false,[],[]⟩) (es:=none) [dt,.row [(.int .u8 iL.1),(.int .i64 iL.2.1),(.bool iL.2.2)],.call ⟨false,[]⟩ (.bool (eqI iL.2.1 x2)) [(.row [(.int .i64 x2)])],dt,.norm 0 ⟨[(4,[])],[],false,[],[]⟩] [⟨cL3⟩,⟨(qJ iL.1 iL.2.1 iL.2.2 x2)⟩,⟨(aO (e:=aE) eL2 3 0 3 (by decide))⟩,⟨cL1⟩,⟨cL0⟩] (by kernel_rfl) (fun s h=>by cases h)
      rw[if_neg cL3] at h;replace cL3:=eqf cL3
      exact LT.next aH (hs:=⟨[(0,[]),(1,[]),(7,[]),(8,[])],[],false,[],[]⟩) (es:=none) [dt,.row [(.int .u8 iL.1),(.int .i64 iL.2.1),(.bool iL.2.2)],.call ⟨false,[]⟩ (.bool (eqI iL.2.1 x2)) [(.row [(.int .i64 x2)])],df] [⟨cL3⟩,⟨(qJ iL.1 iL.2.1 iL.2.2 x2)⟩,⟨(aO (e:=aE) eL2 3 0 3 (by decide))⟩,⟨cL1⟩,⟨cL0⟩] (by kernel_rfl) (kT x1 x2 y k (aM .i64 cY 1) h)
    rw[if_neg cL1] at h;replace cL1:=eqf cL1
    cases h
  rw[if_neg cL0] at h;replace cL0:=eqf cL0
  obtain rfl:=osi h
  show LT _ _ _ _ (.st (.exit 0) (aHL x1 x2))
  exact LT.done aH (hs:=⟨[],[],false,[],[]⟩) (es:=(some ⟨[],[],false,[],[]⟩)) [df] [⟨cL0⟩] (by kernel_rfl) (fun s h=>by cases h)
theorem mK (k:Nat) (x1:Ty8) (x2:Int) (r:Int) (h:iN k x1 x2=some r):Tri Try.prog 92 [(.ref 3 0 0 0 x1.length .virt),(.fn 78 [(.hp 1 0)])] [(.arr 3 (List.map aE x1) 0 0 false),(.row [(.int .i64 x2)])] (.int .i64 r) [(.arr 3 (List.map aE x1) 0 0 false),(.row [(.int .i64 x2)])]:=by
 unfold iN at h
 obtain⟨x3,e0,h⟩:=bsm h
 cases x3 with
 | inl x4 =>
  simp only[Sum.elim_inl] at h
  obtain rfl:=osi h
  exact Tri.of (x:=(X92 x1 x2)) aH aM8 [.norm 2 ⟨[(0,[]),(1,[]),(7,[]),(8,[])],[],false,[],[]⟩,.out (.st .normal (aHL x1 x2)),.norm 0 ⟨[(4,[])],[],false,[],[]⟩] [⟨(LT.block (kT x1 x2 _ k 0 e0))⟩] (by kernel_rfl)
 | inr x4 =>
  simp only[Sum.elim_inr] at h
  obtain rfl:=osi h
  exact Tri.of (x:=(X92 x1 x2)) aH aM8 [.norm 2 ⟨[(0,[]),(1,[]),(7,[]),(8,[])],[],false,[],[]⟩,.out (.fin (.int .i64 x4) [(.arr 3 (List.map aE x1) 0 0 false),(.row [(.int .i64 x2)])])] [⟨(LT.blockFin (id:=0) (kT x1 x2 _ k 0 e0))⟩] (by kernel_rfl)
end Go.Ws

namespace Go.Ws
open Go.Proofs
set_option linter.unusedSimpArgs false
set_option linter.unusedVariables false
set_option maxRecDepth 1000000
set_option maxHeartbeats 4000000
noncomputable def X77 (x1:Ty8) (x2:Int):Ctx:=⟨Try.f77,[(.arr 3 (List.map aE x1) 0 0 false),(.row [(.int .i64 x2)])],false⟩
noncomputable def L77_0:Code:=at_ Try.f77 [1,1,1,0,1,4,5]
def S77_0 (x1:Ty8) (x2:Int) (cZ:Int) (cK:Int) (dA:Ty8):St:=⟨mkT 42 [(0,(.ref 3 0 0 0 x1.length .virt)),(1,(.fn 78 [(.hp 1 0)])),(5,(.int .i64 cK)),(6,(.int .i64 cZ))],[(.arr 3 (List.map aE dA) 0 0 false),(.row [(.int .i64 x2)])]⟩
def aD2 (x1:Ty8) (x2:Int) (v77002_1:Int) (v77002_2:Ty8):St:=⟨mkT 42 [(0,(.ref 3 0 0 0 x1.length .virt)),(5,(.int .i64 v77002_1))],[(.arr 3 (List.map aE v77002_2) 0 0 false),(.row [(.int .i64 x2)])]⟩
def O77_0 (x1:Ty8) (x2:Int) (y:(Int × Ty8)):GX:=.st (.exit 0) (aD2 x1 x2 y.1 y.2)
def A77_0 (x1:Ty8) (x2:Int) (x3:Int):Ans:=.call ⟨false,[]⟩ (.int .i64 x3) [(.arr 3 (List.map aE x1) 0 0 false),(.row [(.int .i64 x2)])]
theorem jK (x1:Ty8) (x2:Int) (y:(Int × Ty8)):∀(k:Nat) (cZ:Int) (cK:Int) (dA:Ty8),b8 k x1 x2 cZ cK dA=some y→LT Try.prog (X77 x1 x2) L77_0 (S77_0 x1 x2 cZ cK dA) (O77_0 x1 x2 y)
 | 0,cZ,cK,dA,h=>by cases h
 | k+1,cZ,cK,dA,h=>by
  rw[b8] at h
  by_cases cL0:ltI cZ (nI x1.length)=true
  · rw[if_pos cL0] at h
    by_cases cL1:inI cZ x1.length=true
    · rw[if_pos cL1] at h
      obtain⟨eR,eL2,h⟩:=bsm h
      by_cases cL3:eqI eR.2.1 x2=true
      · rw[if_pos cL3] at h
        exact LT.next aH (hs:=⟨[(0,[]),(1,[]),(5,[]),(6,[])],[],false,[],[]⟩) (es:=none) [dt,.row [(.int .u8 eR.1),(.int .i64 eR.2.1),(.bool eR.2.2)],.call ⟨false,[]⟩ (.bool (eqI eR.2.1 x2)) [(.row [(.int .i64 x2)])],df] [⟨(nF cL3)⟩,⟨(qJ eR.1 eR.2.1 eR.2.2 x2)⟩,⟨(aO (e:=aE) eL2 3 0 3 (by decide))⟩,⟨cL1⟩,⟨cL0⟩] (by kernel_rfl) (jK x1 x2 y k (aM .i64 cZ 1) cK dA h)
      rw[if_neg cL3] at h;replace cL3:=eqf cL3
      by_cases cL4:inI cK x1.length=true
      · rw[if_pos cL4] at h
        obtain⟨aKV,eL5,h⟩:=bsm h
        exact LT.next aH (hs:=⟨[(0,[]),(1,[]),(5,[]),(6,[])],[],false,[],[]⟩) (es:=none) [dt,.row [(.int .u8 eR.1),(.int .i64 eR.2.1),(.bool eR.2.2)],.call ⟨false,[]⟩ (.bool (eqI eR.2.1 x2)) [(.row [(.int .i64 x2)])],dt,.rows (List.map aE (List.set dA (tN cK) eR))] [⟨(rB (e:=aE) eL5 0 [(.int .u8 eR.1),(.int .i64 eR.2.1),(.bool eR.2.2)] eR rfl)⟩,⟨cL4⟩,⟨(nT cL3)⟩,⟨(qJ eR.1 eR.2.1 eR.2.2 x2)⟩,⟨(aO (e:=aE) eL2 3 0 3 (by decide))⟩,⟨cL1⟩,⟨cL0⟩] (by kernel_rfl) (jK x1 x2 y k (aM .i64 cZ 1) (aM .i64 cK 1) (List.set dA (tN cK) eR) h)
      rw[if_neg cL4] at h;replace cL4:=eqf cL4
      cases h
    rw[if_neg cL1] at h;replace cL1:=eqf cL1
    cases h
  rw[if_neg cL0] at h;replace cL0:=eqf cL0
  obtain rfl:=osi h
  show LT _ _ _ _ (.st (.exit 0) (aD2 x1 x2 cK dA))
  exact LT.done aH (hs:=⟨[],[],false,[],[]⟩) (es:=(some ⟨[(0,[]),(5,[])],[],false,[],[]⟩)) [df] [⟨cL0⟩] (by kernel_rfl) (fun s h=>by cases h)
theorem xS (k:Nat) (x1:Ty8) (x2:Int) (r:Nat × Ty8) (h:jM k x1 x2=some r):Tri Try.prog 77 [(.ref 3 0 0 0 x1.length .virt),(.fn 78 [(.hp 1 0)])] [(.arr 3 (List.map aE x1) 0 0 false),(.row [(.int .i64 x2)])] (.ref 3 0 0 0 r.1 .virt) [(.arr 3 (List.map aE r.2) 0 0 false),(.row [(.int .i64 x2)])]:=by
 unfold jM at h
 obtain⟨x3,e0,h⟩:=bsm h
 by_cases c1:eqI x3 (-1)=true
 · rw[if_pos c1] at h
   obtain rfl:=osi h
   exact Tri.of (x:=(X77 x1 x2)) aH aI5 [(A77_0 x1 x2 x3),dt,.norm 0 ⟨[(4,[])],[],false,[],[]⟩] [⟨c1⟩,⟨(mK k x1 x2 _ e0)⟩] (by kernel_rfl)
 rw[if_neg c1] at h;replace c1:=eqf c1
 obtain⟨x5,e2,h⟩:=bsm h
 by_cases c4:isZ x1.length=true
 · rw[if_pos c4] at h
   cases h
 rw[if_neg c4] at h;replace c4:=eqf c4
 by_cases c5:sG x1.length x5.2.length=true
 · rw[if_pos c5] at h
   by_cases c6:leI x5.1 x1.length=true
   · rw[if_pos c6] at h
     by_cases c7:isZ (x1.length - (tN x5.1))=true
     · rw[if_pos c7] at h
       by_cases c8:leI x5.1 x5.2.length=true
       · rw[if_pos c8] at h
         obtain rfl:=osi h
         exact Tri.of (x:=(X77 x1 x2)) aH aI5 [(A77_0 x1 x2 x3),df,.norm 2 ⟨[(0,[]),(1,[]),(5,[]),(6,[])],[],false,[],[]⟩,.out (.st .normal (aD2 x1 x2 x5.1 x5.2)),df,.n x5.2.length,.n x5.2.length,.n (tN x5.1),.n (x1.length - (tN x5.1)),dt,df,.n x5.2.length,.n x5.2.length,.n 0,.n (tN x5.1),.norm 0 ⟨[(4,[])],[],false,[],[]⟩] [⟨(rfl:(tN x5.1) - 0=tN x5.1)⟩,⟨((Nat.zero_add _):0+0=0)⟩,⟨c8⟩,⟨(rfl:x5.2.length - 0=x5.2.length)⟩,⟨(aD5 ((aCT c5):x1.length≤x5.2.length))⟩,⟨(aK aE x5.2)⟩,⟨c4⟩,⟨c7⟩,⟨(rfl:x1.length - (tN x5.1)=x1.length - (tN x5.1))⟩,⟨((Nat.zero_add _):0+(tN x5.1)=tN x5.1)⟩,⟨c6⟩,⟨(rfl:x5.2.length - 0=x5.2.length)⟩,⟨(aD5 ((aCT c5):x1.length≤x5.2.length))⟩,⟨(aK aE x5.2)⟩,⟨c4⟩,⟨(LT.block (jK x1 x2 _ k (aM .i64 x3 1) x3 x1 e2))⟩,⟨c1⟩,⟨(mK k x1 x2 _ e0)⟩] (by kernel_rfl)
       rw[if_neg c8] at h;replace c8:=eqf c8
       cases h
     rw[if_neg c7] at h;replace c7:=eqf c7
     by_cases c8:sG (tN x5.1+(x1.length - (tN x5.1))) x5.2.length=true
     · rw[if_pos c8] at h
       by_cases c9:sG (tN x5.1) x5.2.length=true
       · rw[if_pos c9] at h
         by_cases c10:sG x1.length ((((List.take (tN x5.1) x5.2)++(List.replicate (x1.length - (tN x5.1)) (0,0,false)))++(List.drop (tN x5.1+(x1.length - (tN x5.1))) x5.2)).length)=true
         · rw[if_pos c10] at h
           by_cases c11:leI x5.1 ((((List.take (tN x5.1) x5.2)++(List.replicate (x1.length - (tN x5.1)) (0,0,false)))++(List.drop (tN x5.1+(x1.length - (tN x5.1))) x5.2)).length)=true
           · rw[if_pos c11] at h
             obtain rfl:=osi h
             exact Tri.of (x:=(X77 x1 x2)) aH aI5 [(A77_0 x1 x2 x3),df,.norm 2 ⟨[(0,[]),(1,[]),(5,[]),(6,[])],[],false,[],[]⟩,.out (.st .normal (aD2 x1 x2 x5.1 x5.2)),df,.n x5.2.length,.n x5.2.length,.n (tN x5.1),.n (x1.length - (tN x5.1)),df,.rows (List.map aE (((List.take (tN x5.1) x5.2)++(List.replicate (x1.length - (tN x5.1)) (0,0,false)))++(List.drop (tN x5.1+(x1.length - (tN x5.1))) x5.2))),df,.n ((((List.take (tN x5.1) x5.2)++(List.replicate (x1.length - (tN x5.1)) (0,0,false)))++(List.drop (tN x5.1+(x1.length - (tN x5.1))) x5.2)).length),.n ((((List.take (tN x5.1) x5.2)++(List.replicate (x1.length - (tN x5.1)) (0,0,false)))++(List.drop (tN x5.1+(x1.length - (tN x5.1))) x5.2)).length),.n 0,.n (tN x5.1),.norm 0 ⟨[(4,[])],[],false,[],[]⟩] [⟨(rfl:(tN x5.1) - 0=tN x5.1)⟩,⟨((Nat.zero_add _):0+0=0)⟩,⟨c11⟩,⟨(rfl:((((List.take (tN x5.1) x5.2)++(List.replicate (x1.length - (tN x5.1)) (0,0,false)))++(List.drop (tN x5.1+(x1.length - (tN x5.1))) x5.2)).length) - 0=(((List.take (tN x5.1) x5.2)++(List.replicate (x1.length - (tN x5.1)) (0,0,false)))++(List.drop (tN x5.1+(x1.length - (tN x5.1))) x5.2)).length)⟩,⟨(aD5 ((aCT c10):x1.length≤(((List.take (tN x5.1) x5.2)++(List.replicate (x1.length - (tN x5.1)) (0,0,false)))++(List.drop (tN x5.1+(x1.length - (tN x5.1))) x5.2)).length))⟩,⟨(aK aE (((List.take (tN x5.1) x5.2)++(List.replicate (x1.length - (tN x5.1)) (0,0,false)))++(List.drop (tN x5.1+(x1.length - (tN x5.1))) x5.2)))⟩,⟨c4⟩,⟨(aO2 aE x5.2 (tN x5.1) (x1.length - (tN x5.1)) (0,0,false))⟩,⟨(le_mapI aE (aCT c8))⟩,⟨c7⟩,⟨(rfl:x1.length - (tN x5.1)=x1.length - (tN x5.1))⟩,⟨((Nat.zero_add _):0+(tN x5.1)=tN x5.1)⟩,⟨c6⟩,⟨(rfl:x5.2.length - 0=x5.2.length)⟩,⟨(aD5 ((aCT c5):x1.length≤x5.2.length))⟩,⟨(aK aE x5.2)⟩,⟨c4⟩,⟨(LT.block (jK x1 x2 _ k (aM .i64 x3 1) x3 x1 e2))⟩,⟨c1⟩,⟨(mK k x1 x2 _ e0)⟩] (by kernel_rfl)
           rw[if_neg c11] at h;replace c11:=eqf c11
           cases h
         rw[if_neg c10] at h;replace c10:=eqf c10
         cases h
       rw[if_neg c9] at h;replace c9:=eqf c9
       cases h
     rw[if_neg c8] at h;replace c8:=eqf c8
     cases h
   rw[if_neg c6] at h;replace c6:=eqf c6
   cases h
 rw[if_neg c5] at h;replace c5:=eqf c5
 cases h
end Go.Ws

namespace Go.Ws
open Go.Proofs
set_option linter.unusedSimpArgs false
set_option linter.unusedVariables false
set_option maxRecDepth 1000000
set_option maxHeartbeats 4000000
noncomputable def X61:Ctx:=⟨Try.f61,[],true⟩
theorem sV (k:Nat) (x1:Ty8) (x2:Int) (r:Ty8) (h:oC k x1 x2=some r):Tri Try.prog 61 [(.sl 3 (List.map aE x1)),(.int .i64 x2)] [] (.sl 3 (List.map aE r)) []:=by
 unfold oC at h
 obtain⟨x3,e0,h⟩:=bsm h
 obtain⟨x4,e1,h⟩:=bsm h
 by_cases c2:sG x4.1 x4.2.length=true
 · rw[if_pos c2] at h
   obtain rfl:=osi h
   exact Tri.of (x:=X61) aH facts61 [.call ⟨true,[]⟩ (.ref 3 0 0 0 x1.length .virt) [(.arr 3 (List.map aE x1) 0 0 false)],.call ⟨false,[]⟩ (.ref 3 0 0 0 x4.1 .virt) [(.arr 3 (List.map aE x4.2) 0 0 false),(.row [(.int .i64 x2)])],.rows (List.map aE (List.take x4.1 x4.2))] [⟨(aN6 aE x4.2 x4.1)⟩,⟨(cJ aE (aCT c2))⟩,⟨(xS k x1 x2 _ e1)⟩,⟨(jN k x1 _ e0)⟩] (by kernel_rfl)
 rw[if_neg c2] at h;replace c2:=eqf c2
 cases h
end Go.Ws

namespace Go.Ws
open Go.Proofs
set_option linter.unusedSimpArgs false
set_option linter.unusedVariables false
set_option maxRecDepth 1000000
set_option maxHeartbeats 4000000
noncomputable def X59:Ctx:=⟨Try.f59,[],true⟩
def A59_0 (x5:Int × aL × Bool × Int):Ans:=.call ⟨true,[]⟩ (.agg [(.int .i64 x5.1),(.sl 2 (List.map aB x5.2.1)),(.bool x5.2.2.1),(.int .i64 x5.2.2.2)]) []
def A59_1:Ans:=.norm 0 ⟨[(2,[]),(3,[(0,2)]),(4,[])],[⟨.tmp 2,[],none⟩],false,[],[]⟩
theorem zV (k:Nat) (x1:Int) (x2:aL) (x3:Bool) (x4:Int) (r:Int × aL × Bool × Int × aL × Int) (h:rC k x1 x2 x3 x4=some r):Tri Try.prog 59 [(.agg [(.int .i64 x1),(.sl 2 (List.map aB x2)),(.bool x3),(.int .i64 x4)])] [] (.tup [(.agg [(.int .i64 r.1),(.sl 2 (List.map aB r.2.1)),(.bool r.2.2.1),(.int .i64 r.2.2.2.1)]),(.sl 2 (List.map aB r.2.2.2.2.1)),(.int .i64 r.2.2.2.2.2)]) []:=by
 unfold rC at h
 obtain⟨x5,e0,h⟩:=bsm h
 obtain⟨x6,e1,h⟩:=bsm h
 by_cases c2:x6=true
 · rw[if_pos c2] at h
   by_cases c3:eqI x5.1 1=true
   · rw[if_pos c3] at h
     by_cases c4:x5.2.2.1=true
     · rw[if_pos c4] at h
       obtain rfl:=osi h
       exact Tri.of (x:=X59) aH aDO [(A59_0 x5),.call ⟨true,[]⟩ (.bool x6) [],df,df,dt,A59_1] [⟨c4⟩,⟨(nF c3)⟩,⟨(nF c2)⟩,⟨(bM k x5.1 x5.2.1 x5.2.2.1 x5.2.2.2 _ e1)⟩,⟨(bD k x1 x2 x3 x4 _ e0)⟩] (by kernel_rfl)
     rw[if_neg c4] at h;replace c4:=eqf c4
     obtain⟨x7,e5,h⟩:=bsm h
     obtain rfl:=osi h
     exact Tri.of (x:=X59) aH aDO [(A59_0 x5),.call ⟨true,[]⟩ (.bool x6) [],df,df,df,.call ⟨true,[]⟩ (.ref 2 0 0 0 x5.2.1.length .virt) [(.arr 2 (List.map aB x5.2.1) 0 0 false)],.rows (List.map aB x5.2.1)] [⟨(bC aB (l:=x5.2.1) (n:=x5.2.1.length) rfl)⟩,⟨(cJ aB (Nat.le_refl x5.2.1.length):0+x5.2.1.length≤(List.map aB x5.2.1).length)⟩,⟨(kJ k x5.2.1 _ e5)⟩,⟨c4⟩,⟨(nF c3)⟩,⟨(nF c2)⟩,⟨(bM k x5.1 x5.2.1 x5.2.2.1 x5.2.2.2 _ e1)⟩,⟨(bD k x1 x2 x3 x4 _ e0)⟩] (by kernel_rfl)
   rw[if_neg c3] at h;replace c3:=eqf c3
   obtain rfl:=osi h
   exact Tri.of (x:=X59) aH aDO [(A59_0 x5),.call ⟨true,[]⟩ (.bool x6) [],df,dt,A59_1] [⟨(nT c3)⟩,⟨(nF c2)⟩,⟨(bM k x5.1 x5.2.1 x5.2.2.1 x5.2.2.2 _ e1)⟩,⟨(bD k x1 x2 x3 x4 _ e0)⟩] (by kernel_rfl)
 rw[if_neg c2] at h;replace c2:=eqf c2
 obtain rfl:=osi h
 exact Tri.of (x:=X59) aH aDO [(A59_0 x5),.call ⟨true,[]⟩ (.bool x6) [],dt,A59_1] [⟨(nT c2)⟩,⟨(bM k x5.1 x5.2.1 x5.2.2.1 x5.2.2.2 _ e1)⟩,⟨(bD k x1 x2 x3 x4 _ e0)⟩] (by kernel_rfl)
end Go.Ws

namespace Go.Ws
open Go.Proofs
set_option linter.unusedSimpArgs false
set_option linter.unusedVariables false
set_option maxRecDepth 1000000
set_option maxHeartbeats 4000000
theorem uN (k:Nat) (x1:aL) (r:aL) (h:mD k x1=some r):Tri Try.prog 76 [(.sl 2 (List.map aB x1))] [] (.ref 2 0 0 0 r.length .virt) [(.arr 2 (List.map aB r) 0 0 false)]:=opp_tri h
end Go.Ws

namespace Go.Ws
open Go.Proofs
set_option linter.unusedSimpArgs false
set_option linter.unusedVariables false
set_option maxRecDepth 1000000
set_option maxHeartbeats 4000000
noncomputable def X60:Ctx:=⟨Try.f60,[],true⟩
def u5 (x6:Int × aL × Bool × Int):Ans:=.call ⟨true,[]⟩ (.agg [(.int .i64 x6.1),(.sl 2 (List.map aB x6.2.1)),(.bool x6.2.2.1),(.int .i64 x6.2.2.2)]) []
def aBT:Ans:=.norm 0 ⟨[(4,[]),(5,[(0,2)]),(6,[])],[⟨.tmp 4,[],none⟩],false,[],[]⟩
theorem qH (k:Nat) (x1:Int) (x2:aL) (x3:Bool) (x4:Int) (x5:Int) (r:Int × aL × Bool × Int × aL × Int) (h:nS k x1 x2 x3 x4 x5=some r):Tri Try.prog 60 [(.agg [(.int .i64 x1),(.sl 2 (List.map aB x2)),(.bool x3),(.int .i64 x4)]),(.int .i64 x5)] [] (.tup [(.agg [(.int .i64 r.1),(.sl 2 (List.map aB r.2.1)),(.bool r.2.2.1),(.int .i64 r.2.2.2.1)]),(.sl 2 (List.map aB r.2.2.2.2.1)),(.int .i64 r.2.2.2.2.2)]) []:=by
 unfold nS at h
 obtain⟨x6,e0,h⟩:=bsm h
 obtain⟨x7,e1,h⟩:=bsm h
 by_cases c2:x7=true
 · rw[if_pos c2] at h
   by_cases c3:eqI x5 1=true
   · rw[if_pos c3] at h
     by_cases c4:eqI x6.2.2.2 x5=true
     · rw[if_pos c4] at h
       obtain rfl:=osi h
       exact Tri.of (x:=X60) aH oG [(u5 x6),.call ⟨true,[]⟩ (.bool x7) [],df,df,df,df,df,df,df,df,df,dt,aBT] [⟨c4⟩,⟨rF⟩,⟨(nF c2)⟩,⟨(nF c3)⟩,⟨(nF c2)⟩,⟨(nF c3)⟩,⟨(nF c3)⟩,⟨(nF c2)⟩,⟨(nF c2)⟩,⟨(nF c2)⟩,⟨(bM k x6.1 x6.2.1 x6.2.2.1 x6.2.2.2 _ e1)⟩,⟨(bD k x1 x2 x3 x4 _ e0)⟩] (by kernel_rfl)
     rw[if_neg c4] at h;replace c4:=eqf c4
     by_cases c5:eqI x6.1 3=true
     · rw[if_pos c5] at h
       obtain rfl:=osi h
       exact Tri.of (x:=X60) aH oG [(u5 x6),.call ⟨true,[]⟩ (.bool x7) [],df,df,df,df,df,df,df,df,df,df,dt,dt,dt,dt,dt,dt,aBT] [⟨rT⟩,⟨c5⟩,⟨c5⟩,⟨c5⟩,⟨c5⟩,⟨c5⟩,⟨c4⟩,⟨rF⟩,⟨(nF c2)⟩,⟨(nF c3)⟩,⟨(nF c2)⟩,⟨(nF c3)⟩,⟨(nF c3)⟩,⟨(nF c2)⟩,⟨(nF c2)⟩,⟨(nF c2)⟩,⟨(bM k x6.1 x6.2.1 x6.2.2.1 x6.2.2.2 _ e1)⟩,⟨(bD k x1 x2 x3 x4 _ e0)⟩] (by kernel_rfl)
     rw[if_neg c5] at h;replace c5:=eqf c5
     by_cases c6:eqI x6.1 1=true
     · rw[if_pos c6] at h
       by_cases c7:eqB (eqI x5 1) x6.2.2.1=true
       · rw[if_pos c7] at h
         obtain rfl:=osi h
         exact Tri.of (x:=X60) aH oG [(u5 x6),.call ⟨true,[]⟩ (.bool x7) [],df,df,df,df,df,df,df,df,df,df,df,df,df,dt,dt,dt,df,dt,df,df,dt,aBT] [⟨c7⟩,⟨(nF c6)⟩,⟨c5⟩,⟨c3⟩,⟨c5⟩,⟨c3⟩,⟨c3⟩,⟨c3⟩,⟨c5⟩,⟨c5⟩,⟨c5⟩,⟨c4⟩,⟨rF⟩,⟨(nF c2)⟩,⟨(nF c3)⟩,⟨(nF c2)⟩,⟨(nF c3)⟩,⟨(nF c3)⟩,⟨(nF c2)⟩,⟨(nF c2)⟩,⟨(nF c2)⟩,⟨(bM k x6.1 x6.2.1 x6.2.2.1 x6.2.2.2 _ e1)⟩,⟨(bD k x1 x2 x3 x4 _ e0)⟩] (by kernel_rfl)
       rw[if_neg c7] at h;replace c7:=eqf c7
       by_cases c8:x6.2.2.1=true
       · rw[if_pos c8] at h
         obtain⟨x8,e9,h⟩:=bsm h
         obtain rfl:=osi h
         exact Tri.of (x:=X60) aH oG [(u5 x6),.call ⟨true,[]⟩ (.bool x7) [],df,df,df,df,df,df,df,df,df,df,df,df,df,dt,dt,dt,df,dt,df,df,df,dt,.call ⟨true,[]⟩ (.ref 2 0 0 0 x8.length .virt) [(.arr 2 (List.map aB x8) 0 0 false)],.rows (List.map aB x8)] [⟨(bC aB (l:=x8) (n:=x8.length) rfl)⟩,⟨(cJ aB (Nat.le_refl x8.length):0+x8.length≤(List.map aB x8).length)⟩,⟨(uN k x6.2.1 _ e9)⟩,⟨c8⟩,⟨c7⟩,⟨(nF c6)⟩,⟨c5⟩,⟨c3⟩,⟨c5⟩,⟨c3⟩,⟨c3⟩,⟨c3⟩,⟨c5⟩,⟨c5⟩,⟨c5⟩,⟨c4⟩,⟨rF⟩,⟨(nF c2)⟩,⟨(nF c3)⟩,⟨(nF c2)⟩,⟨(nF c3)⟩,⟨(nF c3)⟩,⟨(nF c2)⟩,⟨(nF c2)⟩,⟨(nF c2)⟩,⟨(bM k x6.1 x6.2.1 x6.2.2.1 x6.2.2.2 _ e1)⟩,⟨(bD k x1 x2 x3 x4 _ e0)⟩] (by kernel_rfl)
       rw[if_neg c8] at h;replace c8:=eqf c8
       obtain⟨x8,e9,h⟩:=bsm h
       obtain rfl:=osi h
       exact Tri.of (x:=X60) aH oG [(u5 x6),.call ⟨true,[]⟩ (.bool x7) [],df,df,df,df,df,df,df,df,df,df,df,df,df,dt,dt,dt,df,dt,df,df,df,df,.call ⟨true,[]⟩ (.ref 2 0 0 0 x6.2.1.length .virt) [(.arr 2 (List.map aB x6.2.1) 0 0 false)],.rows (List.map aB x6.2.1)] [⟨(bC aB (l:=x6.2.1) (n:=x6.2.1.length) rfl)⟩,⟨(cJ aB (Nat.le_refl x6.2.1.length):0+x6.2.1.length≤(List.map aB x6.2.1).length)⟩,⟨(kJ k x6.2.1 _ e9)⟩,⟨c8⟩,⟨c7⟩,⟨(nF c6)⟩,⟨c5⟩,⟨c3⟩,⟨c5⟩,⟨c3⟩,⟨c3⟩,⟨c3⟩,⟨c5⟩,⟨c5⟩,⟨c5⟩,⟨c4⟩,⟨rF⟩,⟨(nF c2)⟩,⟨(nF c3)⟩,⟨(nF c2)⟩,⟨(nF c3)⟩,⟨(nF c3)⟩,⟨(nF c2)⟩,⟨(nF c2)⟩,⟨(nF c2)⟩,⟨(bM k x6.1 x6.2.1 x6.2.2.1 x6.2.2.2 _ e1)⟩,⟨(bD k x1 x2 x3 x4 _ e0)⟩] (by kernel_rfl)
     rw[if_neg c6] at h;replace c6:=eqf c6
     obtain rfl:=osi h
     exact Tri.of (x:=X60) aH oG [(u5 x6),.call ⟨true,[]⟩ (.bool x7) [],df,df,df,df,df,df,df,df,df,df,df,df,df,dt,dt,dt,df,dt,df,dt,aBT] [⟨(nT c6)⟩,⟨c5⟩,⟨c3⟩,⟨c5⟩,⟨c3⟩,⟨c3⟩,⟨c3⟩,⟨c5⟩,⟨c5⟩,⟨c5⟩,⟨c4⟩,⟨rF⟩,⟨(nF c2)⟩,⟨(nF c3)⟩,⟨(nF c2)⟩,⟨(nF c3)⟩,⟨(nF c3)⟩,⟨(nF c2)⟩,⟨(nF c2)⟩,⟨(nF c2)⟩,⟨(bM k x6.1 x6.2.1 x6.2.2.1 x6.2.2.2 _ e1)⟩,⟨(bD k x1 x2 x3 x4 _ e0)⟩] (by kernel_rfl)
   rw[if_neg c3] at h;replace c3:=eqf c3
   by_cases c4:eqI x5 2=true
   · rw[if_pos c4] at h
     by_cases c5:eqI x6.2.2.2 x5=true
     · rw[if_pos c5] at h
       obtain rfl:=osi h
       exact Tri.of (x:=X60) aH oG [(u5 x6),.call ⟨true,[]⟩ (.bool x7) [],df,df,df,dt,dt,df,dt,df,df,dt,aBT] [⟨c5⟩,⟨(nF c4)⟩,⟨(nF c2)⟩,⟨(nT c3)⟩,⟨(nF c2)⟩,⟨(nT c3)⟩,⟨(nT c3)⟩,⟨(nF c2)⟩,⟨(nF c2)⟩,⟨(nF c2)⟩,⟨(bM k x6.1 x6.2.1 x6.2.2.1 x6.2.2.2 _ e1)⟩,⟨(bD k x1 x2 x3 x4 _ e0)⟩] (by kernel_rfl)
     rw[if_neg c5] at h;replace c5:=eqf c5
     by_cases c6:eqI x6.1 3=true
     · rw[if_pos c6] at h
       obtain rfl:=osi h
       exact Tri.of (x:=X60) aH oG [(u5 x6),.call ⟨true,[]⟩ (.bool x7) [],df,df,df,dt,dt,df,dt,df,df,df,dt,dt,dt,dt,dt,dt,aBT] [⟨rT⟩,⟨c6⟩,⟨c6⟩,⟨c6⟩,⟨c6⟩,⟨c6⟩,⟨c5⟩,⟨(nF c4)⟩,⟨(nF c2)⟩,⟨(nT c3)⟩,⟨(nF c2)⟩,⟨(nT c3)⟩,⟨(nT c3)⟩,⟨(nF c2)⟩,⟨(nF c2)⟩,⟨(nF c2)⟩,⟨(bM k x6.1 x6.2.1 x6.2.2.1 x6.2.2.2 _ e1)⟩,⟨(bD k x1 x2 x3 x4 _ e0)⟩] (by kernel_rfl)
     rw[if_neg c6] at h;replace c6:=eqf c6
     by_cases c7:eqB (eqI x5 1) x6.2.2.1=true
     · rw[if_pos c7] at h
       obtain rfl:=osi h
       exact Tri.of (x:=X60) aH oG [(u5 x6),.call ⟨true,[]⟩ (.bool x7) [],df,df,df,dt,dt,df,dt,df,df,df,df,df,df,df,df,df,df,df,df,df,dt,aBT] [⟨c7⟩,⟨rF⟩,⟨c6⟩,⟨c3⟩,⟨c6⟩,⟨c3⟩,⟨c3⟩,⟨c3⟩,⟨c6⟩,⟨c6⟩,⟨c6⟩,⟨c5⟩,⟨(nF c4)⟩,⟨(nF c2)⟩,⟨(nT c3)⟩,⟨(nF c2)⟩,⟨(nT c3)⟩,⟨(nT c3)⟩,⟨(nF c2)⟩,⟨(nF c2)⟩,⟨(nF c2)⟩,⟨(bM k x6.1 x6.2.1 x6.2.2.1 x6.2.2.2 _ e1)⟩,⟨(bD k x1 x2 x3 x4 _ e0)⟩] (by kernel_rfl)
     rw[if_neg c7] at h;replace c7:=eqf c7
     by_cases c8:x6.2.2.1=true
     · rw[if_pos c8] at h
       obtain⟨x8,e9,h⟩:=bsm h
       obtain rfl:=osi h
       exact Tri.of (x:=X60) aH oG [(u5 x6),.call ⟨true,[]⟩ (.bool x7) [],df,df,df,dt,dt,df,dt,df,df,df,df,df,df,df,df,df,df,df,df,df,df,dt,.call ⟨true,[]⟩ (.ref 2 0 0 0 x8.length .virt) [(.arr 2 (List.map aB x8) 0 0 false)],.rows (List.map aB x8)] [⟨(bC aB (l:=x8) (n:=x8.length) rfl)⟩,⟨(cJ aB (Nat.le_refl x8.length):0+x8.length≤(List.map aB x8).length)⟩,⟨(uN k x6.2.1 _ e9)⟩,⟨c8⟩,⟨c7⟩,⟨rF⟩,⟨c6⟩,⟨c3⟩,⟨c6⟩,⟨c3⟩,⟨c3⟩,⟨c3⟩,⟨c6⟩,⟨c6⟩,⟨c6⟩,⟨c5⟩,⟨(nF c4)⟩,⟨(nF c2)⟩,⟨(nT c3)⟩,⟨(nF c2)⟩,⟨(nT c3)⟩,⟨(nT c3)⟩,⟨(nF c2)⟩,⟨(nF c2)⟩,⟨(nF c2)⟩,⟨(bM k x6.1 x6.2.1 x6.2.2.1 x6.2.2.2 _ e1)⟩,⟨(bD k x1 x2 x3 x4 _ e0)⟩] (by kernel_rfl)
     rw[if_neg c8] at h;replace c8:=eqf c8
     obtain⟨x8,e9,h⟩:=bsm h
     obtain rfl:=osi h
     exact Tri.of (x:=X60) aH oG [(u5 x6),.call ⟨true,[]⟩ (.bool x7) [],df,df,df,dt,dt,df,dt,df,df,df,df,df,df,df,df,df,df,df,df,df,df,df,.call ⟨true,[]⟩ (.ref 2 0 0 0 x6.2.1.length .virt) [(.arr 2 (List.map aB x6.2.1) 0 0 false)],.rows (List.map aB x6.2.1)] [⟨(bC aB (l:=x6.2.1) (n:=x6.2.1.length) rfl)⟩,⟨(cJ aB (Nat.le_refl x6.2.1.length):0+x6.2.1.length≤(List.map aB x6.2.1).length)⟩,⟨(kJ k x6.2.1 _ e9)⟩,⟨c8⟩,⟨c7⟩,⟨rF⟩,⟨c6⟩,⟨c3⟩,⟨c6⟩,⟨c3⟩,⟨c3⟩,⟨c3⟩,⟨c6⟩,⟨c6⟩,⟨c6⟩,⟨c5⟩,⟨(nF c4)⟩,⟨(nF c2)⟩,⟨(nT c3)⟩,⟨(nF c2)⟩,⟨(nT c3)⟩,⟨(nT c3)⟩,⟨(nF c2)⟩,⟨(nF c2)⟩,⟨(nF c2)⟩,⟨(bM k x6.1 x6.2.1 x6.2.2.1 x6.2.2.2 _ e1)⟩,⟨(bD k x1 x2 x3 x4 _ e0)⟩] (by kernel_rfl)
   rw[if_neg c4] at h;replace c4:=eqf c4
   obtain rfl:=osi h
   exact Tri.of (x:=X60) aH oG [(u5 x6),.call ⟨true,[]⟩ (.bool x7) [],df,df,df,dt,dt,df,dt,df,dt,aBT] [⟨(nT c4)⟩,⟨(nF c2)⟩,⟨(nT c3)⟩,⟨(nF c2)⟩,⟨(nT c3)⟩,⟨(nT c3)⟩,⟨(nF c2)⟩,⟨(nF c2)⟩,⟨(nF c2)⟩,⟨(bM k x6.1 x6.2.1 x6.2.2.1 x6.2.2.2 _ e1)⟩,⟨(bD k x1 x2 x3 x4 _ e0)⟩] (by kernel_rfl)
 rw[if_neg c2] at h;replace c2:=eqf c2
 obtain rfl:=osi h
 exact Tri.of (x:=X60) aH oG [(u5 x6),.call ⟨true,[]⟩ (.bool x7) [],dt,dt,dt,dt,dt,dt,aBT] [⟨rT⟩,⟨(nT c2)⟩,⟨(nT c2)⟩,⟨(nT c2)⟩,⟨(nT c2)⟩,⟨(nT c2)⟩,⟨(bM k x6.1 x6.2.1 x6.2.2.1 x6.2.2.2 _ e1)⟩,⟨(bD k x1 x2 x3 x4 _ e0)⟩] (by kernel_rfl)
end Go.Ws

namespace Go.Ws
open Go.Proofs
set_option linter.unusedSimpArgs false
set_option linter.unusedVariables false
set_option maxRecDepth 1000000
set_option maxHeartbeats 4000000
noncomputable def X33_3 (x1:aL) (x2:Ty8) (x3:Ty2) (x4:Ty7):Ctx:=⟨Try.f33,[(.row [(.sl 2 (List.map aB x1)),(.sl 3 (List.map aE x2)),(.mp 1),(.ref 4 2 0 0 x4.length .virt)]),(.map (aJ .i64 (fun y=>AV.agg (aF y)) x3) x3.length),(.arr 4 (List.map aA x4) 0 0 false)],false⟩
theorem dI (x1:aL) (x2:Ty8) (x3:Ty2) (x4:Ty7):Tri Try.prog 33 [(.hp 0 0)] [(.row [(.sl 2 (List.map aB x1)),(.sl 3 (List.map aE x2)),(.mp 1),(.ref 4 2 0 0 x4.length .virt)]),(.map (aJ .i64 (fun y=>AV.agg (aF y)) x3) x3.length),(.arr 4 (List.map aA x4) 0 0 false)] (.bool (!false)) [(.row [(.sl 2 (List.map aB x1)),(.sl 3 (List.map aE x2)),(.mp 1),(.ref 4 2 0 0 x4.length .virt)]),(.map (aJ .i64 (fun y=>AV.agg (aF y)) x3) x3.length),(.arr 4 (List.map aA x4) 0 0 false)]:=by
 obtain⟨r,h⟩:∃r,rA x1 x2 x3 x4=r:=⟨_,rfl⟩
 try rw[h]
 unfold rA at h
 obtain rfl:=h
 exact Tri.of (x:=(X33_3 x1 x2 x3 x4)) aH aNQ [dt,dt,dt,dt,dt,dt,.norm 0 ⟨[(2,[])],[],false,[],[]⟩] [⟨(nT rfl)⟩,⟨(nT rfl)⟩,⟨(nT rfl)⟩,⟨(nT rfl)⟩,⟨(nT rfl)⟩,⟨(nT rfl)⟩] (by kernel_rfl)
end Go.Ws

namespace Go.Ws
open Go.Proofs
set_option linter.unusedSimpArgs false
set_option linter.unusedVariables false
set_option maxRecDepth 1000000
set_option maxHeartbeats 4000000
noncomputable def aFF (x9:aL) (x10:Ty8) (x11:Ty2) (x12:Ty7):Ctx:=⟨Try.f47,[(.row [(.sl 2 (List.map aB x9)),(.sl 3 (List.map aE x10)),(.mp 1),(.ref 4 2 0 0 x12.length .virt)]),(.map (aJ .i64 (fun y=>AV.agg (aF y)) x11) x11.length),(.arr 4 (List.map aA x12) 0 0 false)],false⟩
noncomputable def L47_3_0:Code:=at_ Try.f47 [1,1,1,1,1,1,1,0,1,4,5]
def S47_3_0 (x2:aL) (x5:Int) (x6:Int) (x7:Int) (x8:Int) (x9:aL) (x11:Ty2) (x12:Ty7) (x13:Ty8 × Int) (cW:Int) (cE:Int):St:=⟨mkT 92 [(5,(.hp 3 0)),(10,(.int .i64 cW)),(75,(.sl 2 (List.map aB x2))),(76,(.int .i64 (nI x2.length))),(77,(.int .i64 cE))],[(.row [(.sl 2 (List.map aB x9)),(.sl 3 (List.map aE x13.1)),(.mp 1),(.ref 4 2 0 0 x12.length .virt)]),(.map (aJ .i64 (fun y=>AV.agg (aF y)) x11) x11.length),(.arr 4 (List.map aA x12) 0 0 false),(.row [(.int .i64 x5),(.int .i64 x6),(.int .u8 x7),(.int .i64 x8)])]⟩
def aCH (x9:aL) (x11:Ty2) (x12:Ty7) (x13:Ty8 × Int) (aO9:Int):St:=⟨mkT 92 [(10,(.int .i64 aO9))],[(.row [(.sl 2 (List.map aB x9)),(.sl 3 (List.map aE x13.1)),(.mp 1),(.ref 4 2 0 0 x12.length .virt)]),(.map (aJ .i64 (fun y=>AV.agg (aF y)) x11) x11.length),(.arr 4 (List.map aA x12) 0 0 false)]⟩
def O47_3_0 (x2:aL) (x5:Int) (x6:Int) (x7:Int) (x8:Int) (x9:aL) (x10:Ty8) (x11:Ty2) (x12:Ty7) (x13:Ty8 × Int) (y:(Int)):GX:=.st (.exit 0) (aCH x9 x11 x12 x13 y)
def aB5 (x13:Ty8 × Int):Ans:=.call ⟨true,[]⟩ (.tup [(.sl 3 (List.map aE x13.1)),(.int .i64 x13.2)]) []
def aIC (x14:Int × aL × Bool × Int × Int):Ans:=.call ⟨true,[]⟩ (.tup [(.agg [(.int .i64 x14.1),(.sl 2 (List.map aB x14.2.1)),(.bool x14.2.2.1),(.int .i64 x14.2.2.2.1)]),(.int .i64 x14.2.2.2.2)]) []
def zC:Ans:=.norm 0 ⟨[(6,[]),(7,[])],[],false,[],[]⟩
theorem lN (x2:aL) (x5:Int) (x6:Int) (x7:Int) (x8:Int) (x9:aL) (x10:Ty8) (x11:Ty2) (x12:Ty7) (x13:Ty8 × Int) (y:(Int)):∀(k:Nat) (cW:Int) (cE:Int),bT k x2 x5 x6 x7 x8 x9 x10 x11 x12 x13 cW cE=some y→LT Try.prog (aFF x9 x10 x11 x12) L47_3_0 (S47_3_0 x2 x5 x6 x7 x8 x9 x11 x12 x13 cW cE) (O47_3_0 x2 x5 x6 x7 x8 x9 x10 x11 x12 x13 y)
 | 0,cW,cE,h=>by cases h
 | k+1,cW,cE,h=>by
  rw[bT] at h
  by_cases cL0:ltI cE (nI x2.length)=true
  · rw[if_pos cL0] at h
    by_cases cL1:inI cE x2.length=true
    · rw[if_pos cL1] at h
      obtain⟨k8,eL2,h⟩:=bsm h
      by_cases cL3:eqI k8.1 x7=true
      · rw[if_pos cL3] at h
        exact LT.next aH (hs:=⟨[(5,[]),(10,[]),(75,[]),(76,[]),(77,[])],[⟨.tmp 5,[],none⟩],false,[],[]⟩) (es:=none) [dt,.n x2.length,.row [(.int .u8 k8.1),(.int .i64 k8.2)],dt] [⟨cL3⟩,⟨(aO (e:=aB) eL2 2 0 2 (by decide))⟩,⟨cL1⟩,⟨(aK aB x2)⟩,⟨cL0⟩] (by kernel_rfl) (lN x2 x5 x6 x7 x8 x9 x10 x11 x12 x13 y k (aM .i64 cW k8.2) (aM .i64 cE 1) h)
      rw[if_neg cL3] at h;replace cL3:=eqf cL3
      exact LT.next aH (hs:=⟨[(5,[]),(10,[]),(75,[]),(76,[]),(77,[])],[⟨.tmp 5,[],none⟩],false,[],[]⟩) (es:=none) [dt,.n x2.length,.row [(.int .u8 k8.1),(.int .i64 k8.2)],df] [⟨cL3⟩,⟨(aO (e:=aB) eL2 2 0 2 (by decide))⟩,⟨cL1⟩,⟨(aK aB x2)⟩,⟨cL0⟩] (by kernel_rfl) (lN x2 x5 x6 x7 x8 x9 x10 x11 x12 x13 y k cW (aM .i64 cE 1) h)
    rw[if_neg cL1] at h;replace cL1:=eqf cL1
    cases h
  rw[if_neg cL0] at h;replace cL0:=eqf cL0
  obtain rfl:=osi h
  show LT _ _ _ _ (.st (.exit 0) (aCH x9 x11 x12 x13 cW))
  exact LT.done aH (hs:=⟨[],[],false,[],[]⟩) (es:=(some ⟨[(10,[])],[],false,[],[]⟩)) [df] [⟨cL0⟩] (by kernel_rfl) (fun s h=>by cases h)
theorem qV (k:Nat) (x1:Int) (x2:aL) (x3:Bool) (x4:Int) (x5:Int) (x6:Int) (x7:Int) (x8:Int) (x9:aL) (x10:Ty8) (x11:Ty2) (x12:Ty7) (r:Ty8 × Ty2 × Int × Int) (h:gV k x1 x2 x3 x4 x5 x6 x7 x8 x9 x10 x11 x12=some r):Tri Try.prog 47 [(.hp 0 0),(.agg [(.int .i64 x1),(.sl 2 (List.map aB x2)),(.bool x3),(.int .i64 x4)]),(.agg [(.int .i64 x5),(.int .i64 x6),(.int .u8 x7),(.int .i64 x8)])] [(.row [(.sl 2 (List.map aB x9)),(.sl 3 (List.map aE x10)),(.mp 1),(.ref 4 2 0 0 x12.length .virt)]),(.map (aJ .i64 (fun y=>AV.agg (aF y)) x11) x11.length),(.arr 4 (List.map aA x12) 0 0 false)] (.tup [(.int .i64 r.2.2.2),(.int .i64 r.2.2.1)]) [(.row [(.sl 2 (List.map aB x9)),(.sl 3 (List.map aE r.1)),(.mp 1),(.ref 4 2 0 0 x12.length .virt)]),(.map (aJ .i64 (fun y=>AV.agg (aF y)) r.2.1) r.2.1.length),(.arr 4 (List.map aA x12) 0 0 false)]:=by
 unfold gV at h
 by_cases c0:eqI x1 0=true
 · rw[if_pos c0] at h
   obtain⟨x13,e1,h⟩:=bsm h
   by_cases c2:eqI x13.2 0=true
   · rw[if_pos c2] at h
     by_cases c3:eqI x5 3=true
     · rw[if_pos c3] at h
       obtain⟨x14,e4,h⟩:=bsm h
       by_cases c5:eqI x14.2.2.2.2 0=true
       · rw[if_pos c5] at h
         by_cases c6:nL x11 x6=true
         · rw[if_pos c6] at h
           obtain⟨x15,e7,h⟩:=bsm h
           obtain rfl:=osi h
           exact Tri.of (x:=(aFF x9 x10 x11 x12)) aH zH [df,(aB5 x13),df,dt,(aIC x14),df,.opt (some (.agg [(.int .i64 x15.1),(.sl 2 (List.map aB x15.2.1)),(.bool x15.2.2.1),(.int .i64 x15.2.2.2)])),.n (mIx x11 x6),.ents (aJ .i64 (fun y=>AV.agg (aF y)) x11) x11.length,.ents (aJ .i64 (fun y=>AV.agg (aF y)) (bF x11 x6 (x14.1,x14.2.1,x14.2.2.1,x14.2.2.2.1))) (bF x11 x6 (x14.1,x14.2.1,x14.2.2.1,x14.2.2.2.1)).length,zC] [⟨(aMP .i64 (fun y=>AV.agg (aF y)) e7 (x14.1,x14.2.1,x14.2.2.1,x14.2.2.2.1))⟩,⟨(ent_some .i64 (fun y=>AV.agg (aF y)) e7 (.agg [(.int .i64 0),(.sl 2 (List.map aB [])),(.bool false),(.int .i64 0)]))⟩,⟨(aNR .i64 (fun y=>AV.agg (aF y)) x11 x6)⟩,⟨(dC .i64 (fun y=>AV.agg (aF y)) e7)⟩,⟨(nF c5)⟩,⟨(xQ k x1 x2 x3 x4 x7 x8 _ e4)⟩,⟨c3⟩,⟨(nF c2)⟩,⟨(qI k x10 x6 x7 (eqI x5 3) _ e1)⟩,⟨(nF c0)⟩] (by kernel_rfl)
         rw[if_neg c6] at h;replace c6:=eqf c6
         obtain rfl:=osi h
         exact Tri.of (x:=(aFF x9 x10 x11 x12)) aH zH [df,(aB5 x13),df,dt,(aIC x14),df,.opt none,.n (mIx x11 x6),.ents (aJ .i64 (fun y=>AV.agg (aF y)) (bF x11 x6 (0,[],false,0))) (bF x11 x6 (0,[],false,0)).length,.ents (aJ .i64 (fun y=>AV.agg (aF y)) (bF x11 x6 (x14.1,x14.2.1,x14.2.2.1,x14.2.2.2.1))) (bF x11 x6 (x14.1,x14.2.1,x14.2.2.1,x14.2.2.2.1)).length,zC] [⟨(sb_none .i64 (fun y=>AV.agg (aF y)) (l:=x11) (q:=x6) (0,[],false,0) (x14.1,x14.2.1,x14.2.2.1,x14.2.2.2.1))⟩,⟨(ent_none .i64 (fun y=>AV.agg (aF y)) c6 (0,[],false,0))⟩,⟨(aNR .i64 (fun y=>AV.agg (aF y)) x11 x6)⟩,⟨(kX .i64 (fun y=>AV.agg (aF y)) c6)⟩,⟨(nF c5)⟩,⟨(xQ k x1 x2 x3 x4 x7 x8 _ e4)⟩,⟨c3⟩,⟨(nF c2)⟩,⟨(qI k x10 x6 x7 (eqI x5 3) _ e1)⟩,⟨(nF c0)⟩] (by kernel_rfl)
       rw[if_neg c5] at h;replace c5:=eqf c5
       obtain rfl:=osi h
       exact Tri.of (x:=(aFF x9 x10 x11 x12)) aH zH [df,(aB5 x13),df,dt,(aIC x14),dt,zC] [⟨(nT c5)⟩,⟨(xQ k x1 x2 x3 x4 x7 x8 _ e4)⟩,⟨c3⟩,⟨(nF c2)⟩,⟨(qI k x10 x6 x7 (eqI x5 3) _ e1)⟩,⟨(nF c0)⟩] (by kernel_rfl)
     rw[if_neg c3] at h;replace c3:=eqf c3
     obtain⟨x14,e4,h⟩:=bsm h
     obtain⟨x16,e5,h⟩:=bsm h
     obtain rfl:=osi h
     exact Tri.of (x:=(aFF x9 x10 x11 x12)) aH zH [df,(aB5 x13),df,df,.call ⟨true,[]⟩ (.int .i64 x14) [],.n x2.length,.norm 2 ⟨[(5,[]),(10,[]),(75,[]),(76,[]),(77,[])],[⟨.tmp 5,[],none⟩],false,[],[]⟩,.out (.st .normal (aCH x9 x11 x12 x13 x16)),zC] [⟨(LT.block (lN x2 x5 x6 x7 x8 x9 x10 x11 x12 x13 _ k x14 0 e5))⟩,⟨(aK aB x2)⟩,⟨(aF7 k x9 x7 _ e4)⟩,⟨c3⟩,⟨(nF c2)⟩,⟨(qI k x10 x6 x7 (eqI x5 3) _ e1)⟩,⟨(nF c0)⟩] (by kernel_rfl)
   rw[if_neg c2] at h;replace c2:=eqf c2
   obtain rfl:=osi h
   exact Tri.of (x:=(aFF x9 x10 x11 x12)) aH zH [df,(aB5 x13),dt,zC] [⟨(nT c2)⟩,⟨(qI k x10 x6 x7 (eqI x5 3) _ e1)⟩,⟨(nF c0)⟩] (by kernel_rfl)
 rw[if_neg c0] at h;replace c0:=eqf c0
 obtain rfl:=osi h
 exact Tri.of (x:=(aFF x9 x10 x11 x12)) aH zH [dt,zC] [⟨(nT c0)⟩] (by kernel_rfl)
end Go.Ws

namespace Go.Ws
open Go.Proofs
set_option linter.unusedSimpArgs false
set_option linter.unusedVariables false
set_option maxRecDepth 1000000
set_option maxHeartbeats 4000000
noncomputable def zW (x9:aL) (x10:Ty8) (x11:Ty2) (x12:Ty7):Ctx:=⟨Try.f48,[(.row [(.sl 2 (List.map aB x9)),(.sl 3 (List.map aE x10)),(.mp 1),(.ref 4 2 0 0 x12.length .virt)]),(.map (aJ .i64 (fun y=>AV.agg (aF y)) x11) x11.length),(.arr 4 (List.map aA x12) 0 0 false)],false⟩
def aHY (x13:Int × aL × Bool × Int × Int):Ans:=.call ⟨true,[]⟩ (.tup [(.agg [(.int .i64 x13.1),(.sl 2 (List.map aB x13.2.1)),(.bool x13.2.2.1),(.int .i64 x13.2.2.2.1)]),(.int .i64 x13.2.2.2.2)]) []
def aD7 (x15:Ty8):Ans:=.call ⟨true,[]⟩ (.sl 3 (List.map aE x15)) []
def yT (x13:Int × aL × Bool × Int × aL × Int):Ans:=.call ⟨true,[]⟩ (.tup [(.agg [(.int .i64 x13.1),(.sl 2 (List.map aB x13.2.1)),(.bool x13.2.2.1),(.int .i64 x13.2.2.2.1)]),(.sl 2 (List.map aB x13.2.2.2.2.1)),(.int .i64 x13.2.2.2.2.2)]) []
def aHS (x6:Int) (x11:Ty2) (x13:Int × aL × Bool × Int × aL × Int):Ans:=.ents (aJ .i64 (fun y=>AV.agg (aF y)) (bF x11 x6 (x13.1,x13.2.1,x13.2.2.1,x13.2.2.2.1))) (bF x11 x6 (x13.1,x13.2.1,x13.2.2.1,x13.2.2.2.1)).length
def aHB (x14:aL × Int):Ans:=.call ⟨true,[]⟩ (.tup [(.sl 2 (List.map aB x14.1)),(.int .i64 x14.2)]) []
theorem zY (k:Nat) (x1:Int) (x2:aL) (x3:Bool) (x4:Int) (x5:Int) (x6:Int) (x7:Int) (x8:Int) (x9:aL) (x10:Ty8) (x11:Ty2) (x12:Ty7) (r:aL × Ty8 × Ty2 × Int) (h:kY k x1 x2 x3 x4 x5 x6 x7 x8 x9 x10 x11 x12=some r):Tri Try.prog 48 [(.hp 0 0),(.agg [(.int .i64 x1),(.sl 2 (List.map aB x2)),(.bool x3),(.int .i64 x4)]),(.agg [(.int .i64 x5),(.int .i64 x6),(.int .u8 x7),(.int .i64 x8)])] [(.row [(.sl 2 (List.map aB x9)),(.sl 3 (List.map aE x10)),(.mp 1),(.ref 4 2 0 0 x12.length .virt)]),(.map (aJ .i64 (fun y=>AV.agg (aF y)) x11) x11.length),(.arr 4 (List.map aA x12) 0 0 false)] (.int .i64 r.2.2.2) [(.row [(.sl 2 (List.map aB r.1)),(.sl 3 (List.map aE r.2.1)),(.mp 1),(.ref 4 2 0 0 x12.length .virt)]),(.map (aJ .i64 (fun y=>AV.agg (aF y)) r.2.2.1) r.2.2.1.length),(.arr 4 (List.map aA x12) 0 0 false)]:=by
 unfold kY at h
 by_cases c0:eqI x5 4=true
 · rw[if_pos c0] at h
   obtain⟨x13,e1,h⟩:=bsm h
   by_cases c2:eqI x13.2.2.2.2 0=true
   · rw[if_pos c2] at h
     obtain⟨x14,e3,h⟩:=bsm h
     by_cases c4:eqI x13.1 2=true
     · rw[if_pos c4] at h
       obtain⟨x15,e5,h⟩:=bsm h
       obtain rfl:=osi h
       exact Tri.of (x:=(zW x9 x10 x11 x12)) aH rJ [dt,(aHY x13),df,.ents (aJ .i64 (fun y=>AV.agg (aF y)) (bF x11 x6 (x13.1,x13.2.1,x13.2.2.1,x13.2.2.2.1))) (bF x11 x6 (x13.1,x13.2.1,x13.2.2.1,x13.2.2.2.1)).length,.call ⟨true,[[],[(0,2)]]⟩ (.tup [(.sl 2 (List.map aB x14.1)),(.int .i64 x14.2)]) [],df,df,df,df,dt,(aD7 x15),.norm 0 ⟨[(6,[])],[],false,[],[]⟩] [⟨(sV k x10 x6 _ e5)⟩,⟨c4⟩,⟨(nF c0)⟩,⟨(nF c0)⟩,⟨(nF c0)⟩,⟨(nF c0)⟩,⟨(nA k x9 [] _ e3)⟩,⟨(lX .i64 (fun y=>AV.agg (aF y)) x11 x6 (x13.1,x13.2.1,x13.2.2.1,x13.2.2.2.1))⟩,⟨(nF c2)⟩,⟨(vZ k x1 x2 x3 x4 (!eqI x8 0) _ e1)⟩,⟨c0⟩] (by kernel_rfl)
     rw[if_neg c4] at h;replace c4:=eqf c4
     obtain rfl:=osi h
     exact Tri.of (x:=(zW x9 x10 x11 x12)) aH rJ [dt,(aHY x13),df,.ents (aJ .i64 (fun y=>AV.agg (aF y)) (bF x11 x6 (x13.1,x13.2.1,x13.2.2.1,x13.2.2.2.1))) (bF x11 x6 (x13.1,x13.2.1,x13.2.2.1,x13.2.2.2.1)).length,.call ⟨true,[[],[(0,2)]]⟩ (.tup [(.sl 2 (List.map aB x14.1)),(.int .i64 x14.2)]) [],df,df,df,df,df,.norm 0 ⟨[(6,[])],[],false,[],[]⟩] [⟨c4⟩,⟨(nF c0)⟩,⟨(nF c0)⟩,⟨(nF c0)⟩,⟨(nF c0)⟩,⟨(nA k x9 [] _ e3)⟩,⟨(lX .i64 (fun y=>AV.agg (aF y)) x11 x6 (x13.1,x13.2.1,x13.2.2.1,x13.2.2.2.1))⟩,⟨(nF c2)⟩,⟨(vZ k x1 x2 x3 x4 (!eqI x8 0) _ e1)⟩,⟨c0⟩] (by kernel_rfl)
   rw[if_neg c2] at h;replace c2:=eqf c2
   obtain rfl:=osi h
   exact Tri.of (x:=(zW x9 x10 x11 x12)) aH rJ [dt,(aHY x13),dt,.norm 0 ⟨[(6,[])],[],false,[],[]⟩] [⟨(nT c2)⟩,⟨(vZ k x1 x2 x3 x4 (!eqI x8 0) _ e1)⟩,⟨c0⟩] (by kernel_rfl)
 rw[if_neg c0] at h;replace c0:=eqf c0
 by_cases c1:eqI x5 5=true
 · rw[if_pos c1] at h
   obtain⟨x13,e2,h⟩:=bsm h
   by_cases c3:eqI x13.2.2.2.2.2 0=true
   · rw[if_pos c3] at h
     obtain⟨x14,e4,h⟩:=bsm h
     obtain⟨x15,e5,h⟩:=bsm h
     obtain rfl:=osi h
     exact Tri.of (x:=(zW x9 x10 x11 x12)) aH rJ [df,dt,(yT x13),df,(aHS x6 x11 x13),(aHB x14),dt,dt,dt,dt,dt,(aD7 x15),.norm 0 ⟨[(6,[])],[],false,[],[]⟩] [⟨(sV k x10 x6 _ e5)⟩,⟨rT⟩,⟨(nT c0)⟩,⟨(nT c0)⟩,⟨(nT c0)⟩,⟨(nT c0)⟩,⟨(nA k x9 x13.2.2.2.2.1 _ e4)⟩,⟨(lX .i64 (fun y=>AV.agg (aF y)) x11 x6 (x13.1,x13.2.1,x13.2.2.1,x13.2.2.2.1))⟩,⟨(nF c3)⟩,⟨(zV k x1 x2 x3 x4 _ e2)⟩,⟨c1⟩,⟨c0⟩] (by kernel_rfl)
   rw[if_neg c3] at h;replace c3:=eqf c3
   obtain rfl:=osi h
   exact Tri.of (x:=(zW x9 x10 x11 x12)) aH rJ [df,dt,(yT x13),dt,.norm 0 ⟨[(6,[])],[],false,[],[]⟩] [⟨(nT c3)⟩,⟨(zV k x1 x2 x3 x4 _ e2)⟩,⟨c1⟩,⟨c0⟩] (by kernel_rfl)
 rw[if_neg c1] at h;replace c1:=eqf c1
 by_cases c2:eqI x8 1=true
 · rw[if_pos c2] at h
   obtain⟨x13,e3,h⟩:=bsm h
   by_cases c4:eqI x13.2.2.2.2.2 0=true
   · rw[if_pos c4] at h
     obtain⟨x14,e5,h⟩:=bsm h
     obtain⟨x15,e6,h⟩:=bsm h
     obtain rfl:=osi h
     exact Tri.of (x:=(zW x9 x10 x11 x12)) aH rJ [df,df,dt,dt,dt,dt,dt,(yT x13),df,(aHS x6 x11 x13),(aHB x14),dt,dt,dt,dt,dt,(aD7 x15),.norm 0 ⟨[(6,[])],[],false,[],[]⟩] [⟨(sV k x10 x6 _ e6)⟩,⟨rT⟩,⟨(nT c0)⟩,⟨(nT c0)⟩,⟨(nT c0)⟩,⟨(nT c0)⟩,⟨(nA k x9 x13.2.2.2.2.1 _ e5)⟩,⟨(lX .i64 (fun y=>AV.agg (aF y)) x11 x6 (x13.1,x13.2.1,x13.2.2.1,x13.2.2.2.1))⟩,⟨(nF c4)⟩,⟨(qH k x1 x2 x3 x4 x8 _ e3)⟩,⟨rT⟩,⟨c2⟩,⟨c2⟩,⟨c2⟩,⟨c2⟩,⟨c1⟩,⟨c0⟩] (by kernel_rfl)
   rw[if_neg c4] at h;replace c4:=eqf c4
   obtain rfl:=osi h
   exact Tri.of (x:=(zW x9 x10 x11 x12)) aH rJ [df,df,dt,dt,dt,dt,dt,(yT x13),dt,.norm 0 ⟨[(6,[])],[],false,[],[]⟩] [⟨(nT c4)⟩,⟨(qH k x1 x2 x3 x4 x8 _ e3)⟩,⟨rT⟩,⟨c2⟩,⟨c2⟩,⟨c2⟩,⟨c2⟩,⟨c1⟩,⟨c0⟩] (by kernel_rfl)
 rw[if_neg c2] at h;replace c2:=eqf c2
 by_cases c3:eqI x8 2=true
 · rw[if_pos c3] at h
   obtain⟨x13,e4,h⟩:=bsm h
   by_cases c5:eqI x13.2.2.2.2.2 0=true
   · rw[if_pos c5] at h
     obtain⟨x14,e6,h⟩:=bsm h
     obtain⟨x15,e7,h⟩:=bsm h
     obtain rfl:=osi h
     exact Tri.of (x:=(zW x9 x10 x11 x12)) aH rJ [df,df,df,df,df,df,dt,(yT x13),df,(aHS x6 x11 x13),(aHB x14),dt,dt,dt,dt,dt,(aD7 x15),.norm 0 ⟨[(6,[])],[],false,[],[]⟩] [⟨(sV k x10 x6 _ e7)⟩,⟨rT⟩,⟨(nT c0)⟩,⟨(nT c0)⟩,⟨(nT c0)⟩,⟨(nT c0)⟩,⟨(nA k x9 x13.2.2.2.2.1 _ e6)⟩,⟨(lX .i64 (fun y=>AV.agg (aF y)) x11 x6 (x13.1,x13.2.1,x13.2.2.1,x13.2.2.2.1))⟩,⟨(nF c5)⟩,⟨(qH k x1 x2 x3 x4 x8 _ e4)⟩,⟨c3⟩,⟨c2⟩,⟨c2⟩,⟨c2⟩,⟨c2⟩,⟨c1⟩,⟨c0⟩] (by kernel_rfl)
   rw[if_neg c5] at h;replace c5:=eqf c5
   obtain rfl:=osi h
   exact Tri.of (x:=(zW x9 x10 x11 x12)) aH rJ [df,df,df,df,df,df,dt,(yT x13),dt,.norm 0 ⟨[(6,[])],[],false,[],[]⟩] [⟨(nT c5)⟩,⟨(qH k x1 x2 x3 x4 x8 _ e4)⟩,⟨c3⟩,⟨c2⟩,⟨c2⟩,⟨c2⟩,⟨c2⟩,⟨c1⟩,⟨c0⟩] (by kernel_rfl)
 rw[if_neg c3] at h;replace c3:=eqf c3
 obtain rfl:=osi h
 exact Tri.of (x:=(zW x9 x10 x11 x12)) aH rJ [df,df,df,df,df,df,df,dt,.norm 0 ⟨[(6,[])],[],false,[],[]⟩] [⟨(nT (rfl:eqI 2 0=false))⟩,⟨c3⟩,⟨c2⟩,⟨c2⟩,⟨c2⟩,⟨c2⟩,⟨c1⟩,⟨c0⟩] (by kernel_rfl)
end Go.Ws

namespace Go.Ws
open Go.Proofs
set_option linter.unusedSimpArgs false
set_option linter.unusedVariables false
set_option maxRecDepth 1000000
set_option maxHeartbeats 4000000
noncomputable def X34_3 (x9:aL) (x10:Ty8) (x11:Ty2) (x12:Ty7):Ctx:=⟨Try.f34,[(.row [(.sl 2 (List.map aB x9)),(.sl 3 (List.map aE x10)),(.mp 1),(.ref 4 2 0 0 x12.length .virt)]),(.map (aJ .i64 (fun y=>AV.agg (aF y)) x11) x11.length),(.arr 4 (List.map aA x12) 0 0 false)],false⟩
def aD6:Ans:=.norm 0 ⟨[(6,[]),(7,[])],[],false,[],[]⟩
def aMG (x9:aL) (x12:Ty7) (x13:Ty8 × Ty2 × Int × Int):Ans:=.call ⟨true,[]⟩ (.tup [(.int .i64 x13.2.2.2),(.int .i64 x13.2.2.1)]) [(.row [(.sl 2 (List.map aB x9)),(.sl 3 (List.map aE x13.1)),(.mp 1),(.ref 4 2 0 0 x12.length .virt)]),(.map (aJ .i64 (fun y=>AV.agg (aF y)) x13.2.1) x13.2.1.length),(.arr 4 (List.map aA x12) 0 0 false)]
theorem lV (k:Nat) (x1:Int) (x2:aL) (x3:Bool) (x4:Int) (x5:Int) (x6:Int) (x7:Int) (x8:Int) (x9:aL) (x10:Ty8) (x11:Ty2) (x12:Ty7) (r:Int × Int × Ty8 × Ty2 × aL) (h:iY k x1 x2 x3 x4 x5 x6 x7 x8 x9 x10 x11 x12=some r):Tri Try.prog 34 [(.hp 0 0),(.agg [(.int .i64 x1),(.sl 2 (List.map aB x2)),(.bool x3),(.int .i64 x4)]),(.agg [(.int .i64 x5),(.int .i64 x6),(.int .u8 x7),(.int .i64 x8)])] [(.row [(.sl 2 (List.map aB x9)),(.sl 3 (List.map aE x10)),(.mp 1),(.ref 4 2 0 0 x12.length .virt)]),(.map (aJ .i64 (fun y=>AV.agg (aF y)) x11) x11.length),(.arr 4 (List.map aA x12) 0 0 false)] (.tup [(.int .i64 r.1),(.int .i64 r.2.1)]) [(.row [(.sl 2 (List.map aB r.2.2.2.2)),(.sl 3 (List.map aE r.2.2.1)),(.mp 1),(.ref 4 2 0 0 x12.length .virt)]),(.map (aJ .i64 (fun y=>AV.agg (aF y)) r.2.2.2.1) r.2.2.2.1.length),(.arr 4 (List.map aA x12) 0 0 false)]:=by
 unfold iY at h
 by_cases c0:eqI x5 1=true
 · rw[if_pos c0] at h
   obtain rfl:=osi h
   exact Tri.of (x:=(X34_3 x9 x10 x11 x12)) aH aD8 [dt,.ents (aJ .i64 (fun y=>AV.agg (aF y)) (bF x11 x6 (x1,x2,x3,x4))) (bF x11 x6 (x1,x2,x3,x4)).length,aD6] [⟨(lX .i64 (fun y=>AV.agg (aF y)) x11 x6 (x1,x2,x3,x4))⟩,⟨c0⟩] (by kernel_rfl)
 rw[if_neg c0] at h;replace c0:=eqf c0
 by_cases c1:eqI x5 2=true
 · rw[if_pos c1] at h
   obtain⟨x13,e2,h⟩:=bsm h
   obtain rfl:=osi h
   exact Tri.of (x:=(X34_3 x9 x10 x11 x12)) aH aD8 [df,dt,dt,(aMG x9 x12 x13),aD6] [⟨(qV k x1 x2 x3 x4 x5 x6 x7 x8 x9 x10 x11 x12 _ e2)⟩,⟨c1⟩,⟨c1⟩,⟨c0⟩] (by kernel_rfl)
 rw[if_neg c1] at h;replace c1:=eqf c1
 by_cases c2:eqI x5 3=true
 · rw[if_pos c2] at h
   obtain⟨x13,e3,h⟩:=bsm h
   obtain rfl:=osi h
   exact Tri.of (x:=(X34_3 x9 x10 x11 x12)) aH aD8 [df,df,dt,(aMG x9 x12 x13),aD6] [⟨(qV k x1 x2 x3 x4 x5 x6 x7 x8 x9 x10 x11 x12 _ e3)⟩,⟨c2⟩,⟨c1⟩,⟨c0⟩] (by kernel_rfl)
 rw[if_neg c2] at h;replace c2:=eqf c2
 obtain⟨x13,e3,h⟩:=bsm h
 obtain rfl:=osi h
 exact Tri.of (x:=(X34_3 x9 x10 x11 x12)) aH aD8 [df,df,df,.call ⟨true,[]⟩ (.int .i64 x13.2.2.2) [(.row [(.sl 2 (List.map aB x13.1)),(.sl 3 (List.map aE x13.2.1)),(.mp 1),(.ref 4 2 0 0 x12.length .virt)]),(.map (aJ .i64 (fun y=>AV.agg (aF y)) x13.2.2.1) x13.2.2.1.length),(.arr 4 (List.map aA x12) 0 0 false)],aD6] [⟨(zY k x1 x2 x3 x4 x5 x6 x7 x8 x9 x10 x11 x12 _ e3)⟩,⟨c2⟩,⟨c1⟩,⟨c0⟩] (by kernel_rfl)
end Go.Ws

namespace Go.Ws
open Go.Proofs
set_option linter.unusedSimpArgs false
set_option linter.unusedVariables false
set_option maxRecDepth 1000000
set_option maxHeartbeats 4000000
noncomputable def zU (x5:aL) (x6:Ty8) (x7:Ty2) (x8:Ty7):Ctx:=⟨Try.f21,[(.row [(.sl 2 (List.map aB x5)),(.sl 3 (List.map aE x6)),(.mp 1),(.ref 4 2 0 0 x8.length .virt)]),(.map (aJ .i64 (fun y=>AV.agg (aF y)) x7) x7.length),(.arr 4 (List.map aA x8) 0 0 false)],false⟩
def rM (x5:aL) (x6:Ty8) (x7:Ty2) (x8:Ty7):Ans:=.call ⟨true,[]⟩ (.bool (!false)) [(.row [(.sl 2 (List.map aB x5)),(.sl 3 (List.map aE x6)),(.mp 1),(.ref 4 2 0 0 x8.length .virt)]),(.map (aJ .i64 (fun y=>AV.agg (aF y)) x7) x7.length),(.arr 4 (List.map aA x8) 0 0 false)]
def rN:Ans:=.norm 0 ⟨[(4,[]),(5,[])],[],false,[],[none,none,some 1]⟩
def aHJ (x9:Int × aL × Bool × Int):Ans:=.opt (some (.agg [(.int .i64 x9.1),(.sl 2 (List.map aB x9.2.1)),(.bool x9.2.2.1),(.int .i64 x9.2.2.2)]))
def aML (x8:Ty7) (x10:Int × Int × Ty8 × Ty2 × aL):Ans:=.call ⟨true,[]⟩ (.tup [(.int .i64 x10.1),(.int .i64 x10.2.1)]) [(.row [(.sl 2 (List.map aB x10.2.2.2.2)),(.sl 3 (List.map aE x10.2.2.1)),(.mp 1),(.ref 4 2 0 0 x8.length .virt)]),(.map (aJ .i64 (fun y=>AV.agg (aF y)) x10.2.2.2.1) x10.2.2.2.1.length),(.arr 4 (List.map aA x8) 0 0 false)]
def aNJ (x8:Ty7) (x9:Int × Int × Ty8 × Ty2 × aL):Ans:=.call ⟨true,[]⟩ (.tup [(.int .i64 x9.1),(.int .i64 x9.2.1)]) [(.row [(.sl 2 (List.map aB x9.2.2.2.2)),(.sl 3 (List.map aE x9.2.2.1)),(.mp 1),(.ref 4 2 0 0 x8.length .virt)]),(.map (aJ .i64 (fun y=>AV.agg (aF y)) x9.2.2.2.1) x9.2.2.2.1.length),(.arr 4 (List.map aA x8) 0 0 false)]
theorem qP (k:Nat) (x1:Int) (x2:Int) (x3:Int) (x4:Int) (x5:aL) (x6:Ty8) (x7:Ty2) (x8:Ty7) (r:Int × Int × aL × Ty8 × Ty2 × Ty7) (h:kL k x1 x2 x3 x4 x5 x6 x7 x8=some r):Tri Try.prog 21 [(.hp 0 0),(.agg [(.int .i64 x1),(.int .i64 x2),(.int .u8 x3),(.int .i64 x4)])] [(.row [(.sl 2 (List.map aB x5)),(.sl 3 (List.map aE x6)),(.mp 1),(.ref 4 2 0 0 x8.length .virt)]),(.map (aJ .i64 (fun y=>AV.agg (aF y)) x7) x7.length),(.arr 4 (List.map aA x8) 0 0 false)] (.tup [(.int .i64 r.2.1),(.int .i64 r.1)]) [(.row [(.sl 2 (List.map aB r.2.2.1)),(.sl 3 (List.map aE r.2.2.2.1)),(.mp 1),(.ref 4 2 1 0 r.2.2.2.2.2.length .virt)]),(.map (aJ .i64 (fun y=>AV.agg (aF y)) r.2.2.2.2.1) r.2.2.2.2.1.length),(.arr 4 (List.map aA r.2.2.2.2.2) 1 1 false)]:=by
 unfold kL at h
 by_cases c0:ltI x1 1=true
 · rw[if_pos c0] at h
   obtain rfl:=osi h
   exact Tri.of (x:=(zU x5 x6 x7 x8)) aH rQ [(rM x5 x6 x7 x8),df,dt,dt,dt,dt,dt,dt,dt,dt,dt,dt,dt,dt,dt,rN] [⟨rT⟩,⟨rT⟩,⟨rT⟩,⟨rT⟩,⟨rT⟩,⟨rT⟩,⟨rT⟩,⟨rT⟩,⟨rT⟩,⟨c0⟩,⟨c0⟩,⟨c0⟩,⟨c0⟩,⟨(nF (nT rfl))⟩,⟨(dI x5 x6 x7 x8)⟩] (by kernel_rfl)
 rw[if_neg c0] at h;replace c0:=eqf c0
 by_cases c1:ltI 6 x1=true
 · rw[if_pos c1] at h
   obtain rfl:=osi h
   exact Tri.of (x:=(zU x5 x6 x7 x8)) aH rQ [(rM x5 x6 x7 x8),df,df,df,df,df,dt,dt,dt,dt,dt,dt,dt,dt,dt,rN] [⟨rT⟩,⟨rT⟩,⟨rT⟩,⟨rT⟩,⟨rT⟩,⟨c1⟩,⟨c1⟩,⟨c1⟩,⟨c1⟩,⟨c0⟩,⟨c0⟩,⟨c0⟩,⟨c0⟩,⟨(nF (nT rfl))⟩,⟨(dI x5 x6 x7 x8)⟩] (by kernel_rfl)
 rw[if_neg c1] at h;replace c1:=eqf c1
 by_cases c2:ltI x2 0=true
 · rw[if_pos c2] at h
   obtain rfl:=osi h
   exact Tri.of (x:=(zU x5 x6 x7 x8)) aH rQ [(rM x5 x6 x7 x8),df,df,df,df,df,df,df,df,df,dt,dt,dt,dt,dt,rN] [⟨rT⟩,⟨c2⟩,⟨c2⟩,⟨c2⟩,⟨c2⟩,⟨c1⟩,⟨c1⟩,⟨c1⟩,⟨c1⟩,⟨c0⟩,⟨c0⟩,⟨c0⟩,⟨c0⟩,⟨(nF (nT rfl))⟩,⟨(dI x5 x6 x7 x8)⟩] (by kernel_rfl)
 rw[if_neg c2] at h;replace c2:=eqf c2
 by_cases c3:ltI x2 1000=true
 · rw[if_pos c3] at h
   by_cases c4:nL x7 x2=true
   · rw[if_pos c4] at h
     obtain⟨x9,e5,h⟩:=bsm h
     by_cases c6:eqB true (eqI x1 1)=true
     · rw[if_pos c6] at h
       obtain rfl:=osi h
       exact Tri.of (x:=(zU x5 x6 x7 x8)) aH rQ [(rM x5 x6 x7 x8),df,df,df,df,df,df,df,df,df,df,df,df,df,df,(aHJ x9),dt,dt,rN] [⟨rT⟩,⟨c6⟩,⟨(dC .i64 (fun y=>AV.agg (aF y)) e5)⟩,⟨(nF c3)⟩,⟨c2⟩,⟨c2⟩,⟨c2⟩,⟨c2⟩,⟨c1⟩,⟨c1⟩,⟨c1⟩,⟨c1⟩,⟨c0⟩,⟨c0⟩,⟨c0⟩,⟨c0⟩,⟨(nF (nT rfl))⟩,⟨(dI x5 x6 x7 x8)⟩] (by kernel_rfl)
     rw[if_neg c6] at h;replace c6:=eqf c6
     obtain⟨x10,e7,h⟩:=bsm h
     by_cases c8:eqI x10.2.1 0=true
     · rw[if_pos c8] at h
       by_cases c9:dR (((x8++[(x1,x2,x3,x4)]).length)*32)=true
       · rw[if_pos c9] at h
         obtain rfl:=osi h
         exact Tri.of (x:=(zU x5 x6 x7 x8)) aH rQ [(rM x5 x6 x7 x8),df,df,df,df,df,df,df,df,df,df,df,df,df,df,(aHJ x9),df,(aML x8 x10),df,.rows (List.map aA [(x1,x2,x3,x4)]),.n ((x8++[(x1,x2,x3,x4)]).length),.n x8.length,dt,.rows (List.map aA (x8++[(x1,x2,x3,x4)])),rN] [⟨(aDS aA x8 [(x1,x2,x3,x4)])⟩,⟨(aAW x8.length)⟩,⟨(aK aA x8)⟩,⟨c9⟩,⟨(by simp only[wl,List.length_map,List.map_nil,List.map_cons]<;>omega:x8.length+(List.map aA [(x1,x2,x3,x4)]).length=(x8++[(x1,x2,x3,x4)]).length)⟩,⟨(bC aA (l:=[(x1,x2,x3,x4)]) (n:=1) rfl)⟩,⟨(cJ aA (Nat.le_refl 1):0+1≤(List.map aA [(x1,x2,x3,x4)]).length)⟩,⟨(nF c8)⟩,⟨(lV k x9.1 x9.2.1 x9.2.2.1 x9.2.2.2 x1 x2 x3 x4 x5 x6 x7 x8 _ e7)⟩,⟨c6⟩,⟨(dC .i64 (fun y=>AV.agg (aF y)) e5)⟩,⟨(nF c3)⟩,⟨c2⟩,⟨c2⟩,⟨c2⟩,⟨c2⟩,⟨c1⟩,⟨c1⟩,⟨c1⟩,⟨c1⟩,⟨c0⟩,⟨c0⟩,⟨c0⟩,⟨c0⟩,⟨(nF (nT rfl))⟩,⟨(dI x5 x6 x7 x8)⟩] (by kernel_rfl)
       rw[if_neg c9] at h;replace c9:=eqf c9
       cases h
     rw[if_neg c8] at h;replace c8:=eqf c8
     obtain rfl:=osi h
     exact Tri.of (x:=(zU x5 x6 x7 x8)) aH rQ [(rM x5 x6 x7 x8),df,df,df,df,df,df,df,df,df,df,df,df,df,df,(aHJ x9),df,(aML x8 x10),dt,rN] [⟨(nT c8)⟩,⟨(lV k x9.1 x9.2.1 x9.2.2.1 x9.2.2.2 x1 x2 x3 x4 x5 x6 x7 x8 _ e7)⟩,⟨c6⟩,⟨(dC .i64 (fun y=>AV.agg (aF y)) e5)⟩,⟨(nF c3)⟩,⟨c2⟩,⟨c2⟩,⟨c2⟩,⟨c2⟩,⟨c1⟩,⟨c1⟩,⟨c1⟩,⟨c1⟩,⟨c0⟩,⟨c0⟩,⟨c0⟩,⟨c0⟩,⟨(nF (nT rfl))⟩,⟨(dI x5 x6 x7 x8)⟩] (by kernel_rfl)
   rw[if_neg c4] at h;replace c4:=eqf c4
   by_cases c5:eqB false (eqI x1 1)=true
   · rw[if_pos c5] at h
     obtain rfl:=osi h
     exact Tri.of (x:=(zU x5 x6 x7 x8)) aH rQ [(rM x5 x6 x7 x8),df,df,df,df,df,df,df,df,df,df,df,df,df,df,.opt none,dt,df,rN] [⟨rF⟩,⟨c5⟩,⟨(kX .i64 (fun y=>AV.agg (aF y)) c4)⟩,⟨(nF c3)⟩,⟨c2⟩,⟨c2⟩,⟨c2⟩,⟨c2⟩,⟨c1⟩,⟨c1⟩,⟨c1⟩,⟨c1⟩,⟨c0⟩,⟨c0⟩,⟨c0⟩,⟨c0⟩,⟨(nF (nT rfl))⟩,⟨(dI x5 x6 x7 x8)⟩] (by kernel_rfl)
   rw[if_neg c5] at h;replace c5:=eqf c5
   obtain⟨x9,e6,h⟩:=bsm h
   by_cases c7:eqI x9.2.1 0=true
   · rw[if_pos c7] at h
     by_cases c8:dR (((x8++[(x1,x2,x3,x4)]).length)*32)=true
     · rw[if_pos c8] at h
       obtain rfl:=osi h
       exact Tri.of (x:=(zU x5 x6 x7 x8)) aH rQ [(rM x5 x6 x7 x8),df,df,df,df,df,df,df,df,df,df,df,df,df,df,.opt none,df,(aNJ x8 x9),df,.rows (List.map aA [(x1,x2,x3,x4)]),.n ((x8++[(x1,x2,x3,x4)]).length),.n x8.length,dt,.rows (List.map aA (x8++[(x1,x2,x3,x4)])),rN] [⟨(aDS aA x8 [(x1,x2,x3,x4)])⟩,⟨(aAW x8.length)⟩,⟨(aK aA x8)⟩,⟨c8⟩,⟨(by simp only[wl,List.length_map,List.map_nil,List.map_cons]<;>omega:x8.length+(List.map aA [(x1,x2,x3,x4)]).length=(x8++[(x1,x2,x3,x4)]).length)⟩,⟨(bC aA (l:=[(x1,x2,x3,x4)]) (n:=1) rfl)⟩,⟨(cJ aA (Nat.le_refl 1):0+1≤(List.map aA [(x1,x2,x3,x4)]).length)⟩,⟨(nF c7)⟩,⟨(lV k 0 [] false 0 x1 x2 x3 x4 x5 x6 x7 x8 _ e6)⟩,⟨c5⟩,⟨(kX .i64 (fun y=>AV.agg (aF y)) c4)⟩,⟨(nF c3)⟩,⟨c2⟩,⟨c2⟩,⟨c2⟩,⟨c2⟩,⟨c1⟩,⟨c1⟩,⟨c1⟩,⟨c1⟩,⟨c0⟩,⟨c0⟩,⟨c0⟩,⟨c0⟩,⟨(nF (nT rfl))⟩,⟨(dI x5 x6 x7 x8)⟩] (by kernel_rfl)
     rw[if_neg c8] at h;replace c8:=eqf c8
     cases h
   rw[if_neg c7] at h;replace c7:=eqf c7
   obtain rfl:=osi h
   exact Tri.of (x:=(zU x5 x6 x7 x8)) aH rQ [(rM x5 x6 x7 x8),df,df,df,df,df,df,df,df,df,df,df,df,df,df,.opt none,df,(aNJ x8 x9),dt,rN] [⟨(nT c7)⟩,⟨(lV k 0 [] false 0 x1 x2 x3 x4 x5 x6 x7 x8 _ e6)⟩,⟨c5⟩,⟨(kX .i64 (fun y=>AV.agg (aF y)) c4)⟩,⟨(nF c3)⟩,⟨c2⟩,⟨c2⟩,⟨c2⟩,⟨c2⟩,⟨c1⟩,⟨c1⟩,⟨c1⟩,⟨c1⟩,⟨c0⟩,⟨c0⟩,⟨c0⟩,⟨c0⟩,⟨(nF (nT rfl))⟩,⟨(dI x5 x6 x7 x8)⟩] (by kernel_rfl)
 rw[if_neg c3] at h;replace c3:=eqf c3
 obtain rfl:=osi h
 exact Tri.of (x:=(zU x5 x6 x7 x8)) aH rQ [(rM x5 x6 x7 x8),df,df,df,df,df,df,df,df,df,df,df,df,df,dt,rN] [⟨(nT c3)⟩,⟨c2⟩,⟨c2⟩,⟨c2⟩,⟨c2⟩,⟨c1⟩,⟨c1⟩,⟨c1⟩,⟨c1⟩,⟨c0⟩,⟨c0⟩,⟨c0⟩,⟨c0⟩,⟨(nF (nT rfl))⟩,⟨(dI x5 x6 x7 x8)⟩] (by kernel_rfl)
end Go.Ws

namespace Go.Ws
open Go.Proofs
set_option linter.unusedSimpArgs false
set_option linter.unusedVariables false
set_option maxRecDepth 1000000
set_option maxHeartbeats 4000000
noncomputable def X27:Ctx:=⟨Try.f27,[],false⟩
noncomputable def L27_0:Code:=at_ Try.f27 [1,1,0,1,4,5]
def S27_0 (x1:Ty7) (dO:Int) (eJ:aL) (eK:Ty8) (eC:Ty2) (eD:Ty7):St:=⟨mkT 26 [(4,(.hp 0 0)),(10,(.sl 4 (List.map aA x1))),(11,(.int .i64 (nI x1.length))),(12,(.int .i64 dO))],[(.row [(.sl 2 (List.map aB eJ)),(.sl 3 (List.map aE eK)),(.mp 1),(.ref 4 2 0 0 eD.length .virt)]),(.map (aJ .i64 (fun y=>AV.agg (aF y)) eC) eC.length),(.arr 4 (List.map aA eD) 0 0 false)]⟩
def aIU (v27002_1:aL) (v27002_2:Ty8) (aKX:Ty2) (aKY:Ty7):St:=⟨mkT 26 [(4,(.hp 0 0))],[(.row [(.sl 2 (List.map aB v27002_1)),(.sl 3 (List.map aE v27002_2)),(.mp 1),(.ref 4 2 0 0 aKY.length .virt)]),(.map (aJ .i64 (fun y=>AV.agg (aF y)) aKX) aKX.length),(.arr 4 (List.map aA aKY) 0 0 false)]⟩
def O27_0 (x1:Ty7) (y:Ty0):GX:=match y with
 | .inl y=>.st (.exit 0) (aIU y.1 y.2.1 y.2.2.1 y.2.2.2)
 | .inr y=>.fin (Sum.elim (fun y=>(.tup [(.hp 0 0),(.int .i64 0)])) (fun y=>(.tup [.nilp,(.int .i64 4)])) y) (Sum.elim (fun y=>[(.row [(.sl 2 (List.map aB y.1)),(.sl 3 (List.map aE y.2.1)),(.mp 1),(.ref 4 2 0 0 y.2.2.2.length .virt)]),(.map (aJ .i64 (fun y=>AV.agg (aF y)) y.2.2.1) y.2.2.1.length),(.arr 4 (List.map aA y.2.2.2) 0 0 false)]) (fun y=>[]) y)
def A27_0 (dB:Int × Int × aL × Ty8 × Ty2 × Ty7):Ans:=.call ⟨true,[]⟩ (.tup [(.int .i64 dB.2.1),(.int .i64 dB.1)]) [(.row [(.sl 2 (List.map aB dB.2.2.1)),(.sl 3 (List.map aE dB.2.2.2.1)),(.mp 1),(.ref 4 2 1 0 dB.2.2.2.2.2.length .virt)]),(.map (aJ .i64 (fun y=>AV.agg (aF y)) dB.2.2.2.2.1) dB.2.2.2.2.1.length),(.arr 4 (List.map aA dB.2.2.2.2.2) 1 1 false)]
def A27_1:Ans:=.call ⟨true,[]⟩ (.hp 0 0) [(.row [.nils,.nils,(.mp 1),.nils]),(.map (aJ .i64 (fun y=>AV.agg (aF y)) ([]:Ty2)) ([]:Ty2).length)]
def A27_2:Ans:=.norm 2 ⟨[(4,[]),(10,[]),(11,[]),(12,[])],[⟨.tmp 4,[(0,2),(1,3)],none⟩,⟨.cell 0 2,[],none⟩,⟨.cell 0 3,[],some 4⟩],false,[],[]⟩
theorem p9 (x1:Ty7) (y:Ty0):∀(k:Nat) (dO:Int) (eJ:aL) (eK:Ty8) (eC:Ty2) (eD:Ty7),fB k x1 dO eJ eK eC eD=some y→LT Try.prog X27 L27_0 (S27_0 x1 dO eJ eK eC eD) (O27_0 x1 y)
 | 0,dO,eJ,eK,eC,eD,h=>by cases h
 | k+1,dO,eJ,eK,eC,eD,h=>by
  rw[fB] at h
  by_cases cL0:ltI dO (nI x1.length)=true
  · rw[if_pos cL0] at h
    by_cases cL1:inI dO x1.length=true
    · rw[if_pos cL1] at h
      obtain⟨eX,eL2,h⟩:=bsm h
      obtain⟨dB,eL3,h⟩:=bsm h
      by_cases cL4:eqI dB.1 0=true
      · rw[if_pos cL4] at h
        exact LT.next aH (hs:=⟨[(4,[]),(10,[]),(11,[]),(12,[])],[⟨.tmp 4,[],none⟩,⟨.cell 0 2,[],none⟩,⟨.cell 0 3,[],some 4⟩],false,[],[]⟩) (es:=none) [dt,.n x1.length,.row [(.int .i64 eX.1),(.int .i64 eX.2.1),(.int .u8 eX.2.2.1),(.int .i64 eX.2.2.2)],(A27_0 dB),df,.n dB.2.2.2.2.2.length,.rows (List.map aA dB.2.2.2.2.2)] [⟨(dW aA (l:=dB.2.2.2.2.2) (n:=dB.2.2.2.2.2.length) rfl)⟩,⟨(rfl:dB.2.2.2.2.2.length=dB.2.2.2.2.2.length)⟩,⟨(zle dB.2.2.2.2.2.length)⟩,⟨(nF cL4)⟩,⟨(qP k eX.1 eX.2.1 eX.2.2.1 eX.2.2.2 eJ eK eC eD _ eL3)⟩,⟨(aO (e:=aA) eL2 4 0 4 (by decide))⟩,⟨cL1⟩,⟨(aK aA x1)⟩,⟨cL0⟩] (by kernel_rfl) (p9 x1 y k (aM .i64 dO 1) dB.2.2.1 dB.2.2.2.1 dB.2.2.2.2.1 dB.2.2.2.2.2 h)
      rw[if_neg cL4] at h;replace cL4:=eqf cL4
      obtain rfl:=osi h
      show LT _ _ _ _ (.fin (.tup [.nilp,(.int .i64 4)]) [])
      exact LT.done aH (hs:=⟨[],[],false,[],[]⟩) (es:=none) [dt,.n x1.length,.row [(.int .i64 eX.1),(.int .i64 eX.2.1),(.int .u8 eX.2.2.1),(.int .i64 eX.2.2.2)],(A27_0 dB),dt,.norm 0 ⟨[(2,[]),(3,[])],[],false,[],[]⟩] [⟨(nT cL4)⟩,⟨(qP k eX.1 eX.2.1 eX.2.2.1 eX.2.2.2 eJ eK eC eD _ eL3)⟩,⟨(aO (e:=aA) eL2 4 0 4 (by decide))⟩,⟨cL1⟩,⟨(aK aA x1)⟩,⟨cL0⟩] (by kernel_rfl) (fun s h=>by cases h)
    rw[if_neg cL1] at h;replace cL1:=eqf cL1
    cases h
  rw[if_neg cL0] at h;replace cL0:=eqf cL0
  obtain rfl:=osi h
  show LT _ _ _ _ (.st (.exit 0) (aIU eJ eK eC eD))
  exact LT.done aH (hs:=⟨[],[],false,[],[]⟩) (es:=(some ⟨[(4,[])],[⟨.tmp 4,[],none⟩,⟨.cell 0 2,[],none⟩,⟨.cell 0 3,[],none⟩],false,[],[]⟩)) [df] [⟨cL0⟩] (by kernel_rfl) (fun s h=>by cases h)
theorem xV (k:Nat) (x1:Ty7) (r:Ty1) (h:pR k x1=some r):Tri Try.prog 27 [(.sl 4 (List.map aA x1))] [] (Sum.elim (fun y=>(.tup [(.hp 0 0),(.int .i64 0)])) (fun y=>(.tup [.nilp,(.int .i64 4)])) r) (Sum.elim (fun y=>[(.row [(.sl 2 (List.map aB y.1)),(.sl 3 (List.map aE y.2.1)),(.mp 1),(.ref 4 2 0 0 y.2.2.2.length .virt)]),(.map (aJ .i64 (fun y=>AV.agg (aF y)) y.2.2.1) y.2.2.1.length),(.arr 4 (List.map aA y.2.2.2) 0 0 false)]) (fun y=>[]) r):=by
 unfold pR at h
 obtain⟨x2,e0,h⟩:=bsm h
 cases x2 with
 | inl x3 =>
  simp only[Sum.elim_inl] at h
  obtain rfl:=osi h
  exact Tri.of (x:=X27) aH aM5 [A27_1,.n x1.length,A27_2,.n 0,.rows (List.map aA []),.out (.st .normal (aIU x3.1 x3.2.1 x3.2.2.1 x3.2.2.2)),.norm 0 ⟨[(2,[]),(3,[])],[⟨.tmp 2,[],none⟩,⟨.cell 0 2,[],none⟩,⟨.cell 0 3,[],none⟩],false,[],[]⟩] [⟨(LT.block (p9 x1 _ k 0 [] [] ([]:Ty2) [] e0))⟩,⟨(dW aA (l:=[]) (n:=0) rfl)⟩,⟨(rfl:0=0)⟩,⟨(zle 0)⟩,⟨(aK aA x1)⟩,⟨(j1)⟩] (by kernel_rfl)
 | inr x3 =>
  simp only[Sum.elim_inr] at h
  obtain rfl:=osi h
  exact Tri.of (x:=X27) aH aM5 [A27_1,.n x1.length,A27_2,.n 0,.rows (List.map aA []),.out (.fin (Sum.elim (fun y=>(.tup [(.hp 0 0),(.int .i64 0)])) (fun y=>(.tup [.nilp,(.int .i64 4)])) x3) (Sum.elim (fun y=>[(.row [(.sl 2 (List.map aB y.1)),(.sl 3 (List.map aE y.2.1)),(.mp 1),(.ref 4 2 0 0 y.2.2.2.length .virt)]),(.map (aJ .i64 (fun y=>AV.agg (aF y)) y.2.2.1) y.2.2.1.length),(.arr 4 (List.map aA y.2.2.2) 0 0 false)]) (fun y=>[]) x3))] [⟨(LT.blockFin (id:=0) (p9 x1 _ k 0 [] [] ([]:Ty2) [] e0))⟩,⟨(dW aA (l:=[]) (n:=0) rfl)⟩,⟨(rfl:0=0)⟩,⟨(zle 0)⟩,⟨(aK aA x1)⟩,⟨(j1)⟩] (by kernel_rfl)
end Go.Ws

namespace Go.Ws
open Go.Proofs
set_option linter.unusedSimpArgs false
set_option linter.unusedVariables false
set_option maxRecDepth 1000000
set_option maxHeartbeats 4000000
noncomputable def X9:Ctx:=⟨Try.f9,[],false⟩
noncomputable def L9_0:Code:=at_ Try.f9 [1,1,1,0,1,4,5]
def S9_0 (x1:Ty7) (eE:Int) (eI:aL):St:=⟨mkT 33 [(6,(.mp 0)),(17,(.sl 4 (List.map aA x1))),(18,(.int .i64 (nI x1.length))),(19,(.int .i64 eE))],[(.map (aJ .i64 (fun y=>(aG y).headD aD) eI) eI.length)]⟩
def aLA (aNX:aL):St:=⟨mkT 33 [(6,(.mp 0))],[(.map (aJ .i64 (fun y=>(aG y).headD aD) aNX) aNX.length)]⟩
def O9_0 (x1:Ty7) (y:(aL)):GX:=.st (.exit 0) (aLA y)
theorem q9 (x1:Ty7) (y:(aL)):∀(k:Nat) (eE:Int) (eI:aL),fF k x1 eE eI=some y→LT Try.prog X9 L9_0 (S9_0 x1 eE eI) (O9_0 x1 y)
 | 0,eE,eI,h=>by cases h
 | k+1,eE,eI,h=>by
  rw[fF] at h
  by_cases cL0:ltI eE (nI x1.length)=true
  · rw[if_pos cL0] at h
    by_cases cL1:inI eE x1.length=true
    · rw[if_pos cL1] at h
      obtain⟨gU,eL2,h⟩:=bsm h
      by_cases cL3:eqI gU.1 6=true
      · rw[if_pos cL3] at h
        exact LT.next aH (hs:=⟨[(6,[]),(17,[]),(18,[]),(19,[])],[⟨.tmp 6,[],none⟩],false,[],[]⟩) (es:=none) [dt,.n x1.length,.row [(.int .i64 gU.1),(.int .i64 gU.2.1),(.int .u8 gU.2.2.1),(.int .i64 gU.2.2.2)],dt,.ents (aJ .i64 (fun y=>(aG y).headD aD) (bF eI gU.2.1 gU.2.2.2)) (bF eI gU.2.1 gU.2.2.2).length] [⟨(lX .i64 (fun y=>(aG y).headD aD) eI gU.2.1 gU.2.2.2)⟩,⟨cL3⟩,⟨(aO (e:=aA) eL2 4 0 4 (by decide))⟩,⟨cL1⟩,⟨(aK aA x1)⟩,⟨cL0⟩] (by kernel_rfl) (q9 x1 y k (aM .i64 eE 1) (bF eI gU.2.1 gU.2.2.2) h)
      rw[if_neg cL3] at h;replace cL3:=eqf cL3
      exact LT.next aH (hs:=⟨[(6,[]),(17,[]),(18,[]),(19,[])],[⟨.tmp 6,[],none⟩],false,[],[]⟩) (es:=none) [dt,.n x1.length,.row [(.int .i64 gU.1),(.int .i64 gU.2.1),(.int .u8 gU.2.2.1),(.int .i64 gU.2.2.2)],df] [⟨cL3⟩,⟨(aO (e:=aA) eL2 4 0 4 (by decide))⟩,⟨cL1⟩,⟨(aK aA x1)⟩,⟨cL0⟩] (by kernel_rfl) (q9 x1 y k (aM .i64 eE 1) eI h)
    rw[if_neg cL1] at h;replace cL1:=eqf cL1
    cases h
  rw[if_neg cL0] at h;replace cL0:=eqf cL0
  obtain rfl:=osi h
  show LT _ _ _ _ (.st (.exit 0) (aLA eI))
  exact LT.done aH (hs:=⟨[],[],false,[],[]⟩) (es:=(some ⟨[(6,[])],[⟨.tmp 6,[],none⟩],false,[],[]⟩)) [df] [⟨cL0⟩] (by kernel_rfl) (fun s h=>by cases h)
theorem aQ (k:Nat) (x1:Ty7) (r:(Sum (aL) (Unit))) (h:lK k x1=some r):Tri Try.prog 9 [(.sl 4 (List.map aA x1))] [] (Sum.elim (fun y=>(.tup [(.mp 0),(.int .i64 0)])) (fun y=>(.tup [.mapn,(.int .i64 4)])) r) (Sum.elim (fun y=>[(.map (aJ .i64 (fun y=>(aG y).headD aD) y) y.length)]) (fun y=>[]) r):=by
 unfold lK at h
 obtain⟨x2,e0,h⟩:=bsm h
 cases x2 with
 | inl x3 =>
  simp only[Sum.elim_inl] at h
  obtain⟨x5,e2,h⟩:=bsm h
  obtain rfl:=osi h
  exact Tri.of (x:=X9) aH facts9 [.call ⟨true,[]⟩ (.tup [(.hp 0 0),(.int .i64 0)]) [(.row [(.sl 2 (List.map aB x3.1)),(.sl 3 (List.map aE x3.2.1)),(.mp 1),(.ref 4 2 0 0 x3.2.2.2.length .virt)]),(.map (aJ .i64 (fun y=>AV.agg (aF y)) x3.2.2.1) x3.2.2.1.length),(.arr 4 (List.map aA x3.2.2.2) 0 0 false)],df,.n x1.length,.norm 2 ⟨[(6,[]),(17,[]),(18,[]),(19,[])],[⟨.tmp 6,[],none⟩],false,[],[]⟩,.out (.st .normal (aLA x5)),.norm 0 ⟨[(2,[]),(3,[])],[⟨.tmp 2,[],none⟩],false,[],[]⟩] [⟨(LT.block (q9 x1 _ k 0 ([]:aL) e2))⟩,⟨(aK aA x1)⟩,⟨(nF (rfl:eqI 0 0=true))⟩,⟨(xV k x1 (.inl x3) e0)⟩] (by kernel_rfl)
 | inr x3 =>
  simp only[Sum.elim_inr] at h
  obtain rfl:=osi h
  exact Tri.of (x:=X9) aH facts9 [.call ⟨true,[]⟩ (.tup [.nilp,(.int .i64 4)]) [],dt,.norm 0 ⟨[(2,[]),(3,[])],[],false,[],[]⟩] [⟨(nT (rfl:eqI 4 0=false))⟩,⟨(xV k x1 (.inr x3) e0)⟩] (by kernel_rfl)
end Go.Ws

namespace Go.Ws
open Go.Proofs
set_option linter.unusedSimpArgs false
set_option linter.unusedVariables false
set_option maxRecDepth 1000000
set_option maxHeartbeats 4000000
noncomputable def X14:Ctx:=⟨Try.f14,[],true⟩
noncomputable def L14_2:Code:=at_ Try.f14 [1,1,1,0,1,4,5]
def S14_2 (x1:Ty7) (fC:Int):St:=⟨mkT 39 [(4,.mapn),(5,(.int .i64 4)),(6,(.int .i64 0)),(14,(.sl 4 (List.map aA x1))),(15,(.int .i64 (nI x1.length))),(16,(.int .i64 fC))],[]⟩
def aH9:St:=⟨mkT 39 [(5,(.int .i64 4)),(6,(.int .i64 0))],[]⟩
def O14_2 (x1:Ty7) (y:(Unit)):GX:=.st (.exit 0) (aH9)
noncomputable def L14_1:Code:=at_ Try.f14 [1,1,1,0,1,4,5]
def S14_1 (x1:Ty7) (x3:aL) (cS:Int) (cF:Int):St:=⟨mkT 39 [(4,(.mp 0)),(5,(.int .i64 0)),(6,(.int .i64 cS)),(14,(.sl 4 (List.map aA x1))),(15,(.int .i64 (nI x1.length))),(16,(.int .i64 cF))],[(.map (aJ .i64 (fun y=>(aG y).headD aD) x3) x3.length)]⟩
def aI3 (v14012_1:Int):St:=⟨mkT 39 [(5,(.int .i64 0)),(6,(.int .i64 v14012_1))],[]⟩
def O14_1 (x1:Ty7) (x3:aL) (y:(Int)):GX:=.st (.exit 0) (aI3 y)
def A14_0 (iM:Int × Int × Int × Int):Ans:=.row [(.int .i64 iM.1),(.int .i64 iM.2.1),(.int .u8 iM.2.2.1),(.int .i64 iM.2.2.2)]
theorem tR (x1:Ty7) (y:(Unit)):∀(k:Nat) (fC:Int),f4 k x1 fC=some y→LT Try.prog X14 L14_2 (S14_2 x1 fC) (O14_2 x1 y)
 | 0,fC,h=>by cases h
 | k+1,fC,h=>by
  rw[f4] at h
  by_cases cL0:ltI fC (nI x1.length)=true
  · rw[if_pos cL0] at h
    by_cases cL1:inI fC x1.length=true
    · rw[if_pos cL1] at h
      obtain⟨yP,eL2,h⟩:=bsm h
      exact LT.next aH (hs:=⟨[(4,[]),(5,[]),(6,[]),(14,[]),(15,[]),(16,[])],[],false,[],[]⟩) (es:=none) [dt,.n x1.length,.row [(.int .i64 yP.1),(.int .i64 yP.2.1),(.int .u8 yP.2.2.1),(.int .i64 yP.2.2.2)],df,df,df,df,df,df,df,df,df,df,df] [⟨rF⟩,⟨rF⟩,⟨rF⟩,⟨rF⟩,⟨rF⟩,⟨rF⟩,⟨rF⟩,⟨(rfl:eqI 4 0=false)⟩,⟨(rfl:eqI 4 0=false)⟩,⟨(rfl:eqI 4 0=false)⟩,⟨(rfl:eqI 4 0=false)⟩,⟨(aO (e:=aA) eL2 4 0 4 (by decide))⟩,⟨cL1⟩,⟨(aK aA x1)⟩,⟨cL0⟩] (by kernel_rfl) (tR x1 y k (aM .i64 fC 1) h)
    rw[if_neg cL1] at h;replace cL1:=eqf cL1
    cases h
  rw[if_neg cL0] at h;replace cL0:=eqf cL0
  obtain rfl:=osi h
  show LT _ _ _ _ (.st (.exit 0) (aH9))
  exact LT.done aH (hs:=⟨[],[],false,[],[]⟩) (es:=(some ⟨[(5,[]),(6,[])],[],false,[],[]⟩)) [df] [⟨cL0⟩] (by kernel_rfl) (fun s h=>by cases h)
theorem kI (x1:Ty7) (x3:aL) (y:(Int)):∀(k:Nat) (cS:Int) (cF:Int),dG k x1 x3 cS cF=some y→LT Try.prog X14 L14_1 (S14_1 x1 x3 cS cF) (O14_1 x1 x3 y)
 | 0,cS,cF,h=>by cases h
 | k+1,cS,cF,h=>by
  rw[dG] at h
  by_cases cL0:ltI cF (nI x1.length)=true
  · rw[if_pos cL0] at h
    by_cases cL1:inI cF x1.length=true
    · rw[if_pos cL1] at h
      obtain⟨iM,eL2,h⟩:=bsm h
      by_cases cL3:eqI iM.1 5=true
      · rw[if_pos cL3] at h
        by_cases cL4:nL x3 iM.2.1=true
        · rw[if_pos cL4] at h
          obtain⟨t5,eL5,h⟩:=bsm h
          by_cases cL6:eqI t5 2=true
          · rw[if_pos cL6] at h
            exact LT.next aH (hs:=⟨[(4,[]),(5,[]),(6,[]),(14,[]),(15,[]),(16,[])],[⟨.tmp 4,[],none⟩],false,[],[]⟩) (es:=none) [dt,.n x1.length,(A14_0 iM),dt,dt,dt,dt,dt,dt,dt,dt,.opt (some (.int .i64 t5)),dt,dt,dt] [⟨cL6⟩,⟨cL3⟩,⟨cL3⟩,⟨(dC .i64 (fun y=>(aG y).headD aD) eL5)⟩,⟨cL3⟩,⟨cL3⟩,⟨cL3⟩,⟨cL3⟩,⟨(rfl:eqI 0 0=true)⟩,⟨(rfl:eqI 0 0=true)⟩,⟨(rfl:eqI 0 0=true)⟩,⟨(rfl:eqI 0 0=true)⟩,⟨(aO (e:=aA) eL2 4 0 4 (by decide))⟩,⟨cL1⟩,⟨(aK aA x1)⟩,⟨cL0⟩] (by kernel_rfl) (kI x1 x3 y k (aM .i64 cS 1) (aM .i64 cF 1) h)
          rw[if_neg cL6] at h;replace cL6:=eqf cL6
          exact LT.next aH (hs:=⟨[(4,[]),(5,[]),(6,[]),(14,[]),(15,[]),(16,[])],[⟨.tmp 4,[],none⟩],false,[],[]⟩) (es:=none) [dt,.n x1.length,(A14_0 iM),dt,dt,dt,dt,dt,dt,dt,dt,.opt (some (.int .i64 t5)),dt,dt,df] [⟨cL6⟩,⟨cL3⟩,⟨cL3⟩,⟨(dC .i64 (fun y=>(aG y).headD aD) eL5)⟩,⟨cL3⟩,⟨cL3⟩,⟨cL3⟩,⟨cL3⟩,⟨(rfl:eqI 0 0=true)⟩,⟨(rfl:eqI 0 0=true)⟩,⟨(rfl:eqI 0 0=true)⟩,⟨(rfl:eqI 0 0=true)⟩,⟨(aO (e:=aA) eL2 4 0 4 (by decide))⟩,⟨cL1⟩,⟨(aK aA x1)⟩,⟨cL0⟩] (by kernel_rfl) (kI x1 x3 y k cS (aM .i64 cF 1) h)
        rw[if_neg cL4] at h;replace cL4:=eqf cL4
        exact LT.next aH (hs:=⟨[(4,[]),(5,[]),(6,[]),(14,[]),(15,[]),(16,[])],[⟨.tmp 4,[],none⟩],false,[],[]⟩) (es:=none) [dt,.n x1.length,(A14_0 iM),dt,dt,dt,dt,dt,dt,dt,dt,.opt none,dt,dt,df] [⟨(rfl:eqI 0 2=false)⟩,⟨cL3⟩,⟨cL3⟩,⟨(kX .i64 (fun y=>(aG y).headD aD) cL4)⟩,⟨cL3⟩,⟨cL3⟩,⟨cL3⟩,⟨cL3⟩,⟨(rfl:eqI 0 0=true)⟩,⟨(rfl:eqI 0 0=true)⟩,⟨(rfl:eqI 0 0=true)⟩,⟨(rfl:eqI 0 0=true)⟩,⟨(aO (e:=aA) eL2 4 0 4 (by decide))⟩,⟨cL1⟩,⟨(aK aA x1)⟩,⟨cL0⟩] (by kernel_rfl) (kI x1 x3 y k cS (aM .i64 cF 1) h)
      rw[if_neg cL3] at h;replace cL3:=eqf cL3
      exact LT.next aH (hs:=⟨[(4,[]),(5,[]),(6,[]),(14,[]),(15,[]),(16,[])],[⟨.tmp 4,[],none⟩],false,[],[]⟩) (es:=none) [dt,.n x1.length,(A14_0 iM),dt,dt,dt,dt,df,df,df,df,df,df,df] [⟨rF⟩,⟨cL3⟩,⟨cL3⟩,⟨cL3⟩,⟨cL3⟩,⟨cL3⟩,⟨cL3⟩,⟨(rfl:eqI 0 0=true)⟩,⟨(rfl:eqI 0 0=true)⟩,⟨(rfl:eqI 0 0=true)⟩,⟨(rfl:eqI 0 0=true)⟩,⟨(aO (e:=aA) eL2 4 0 4 (by decide))⟩,⟨cL1⟩,⟨(aK aA x1)⟩,⟨cL0⟩] (by kernel_rfl) (kI x1 x3 y k cS (aM .i64 cF 1) h)
    rw[if_neg cL1] at h;replace cL1:=eqf cL1
    cases h
  rw[if_neg cL0] at h;replace cL0:=eqf cL0
  obtain rfl:=osi h
  show LT _ _ _ _ (.st (.exit 0) (aI3 cS))
  exact LT.done aH (hs:=⟨[],[],false,[],[]⟩) (es:=(some ⟨[(5,[]),(6,[])],[],false,[],[]⟩)) [df] [⟨cL0⟩] (by kernel_rfl) (fun s h=>by cases h)
theorem aU (k:Nat) (x1:Ty7) (r:Int × Int) (h:jW k x1=some r):Tri Try.prog 14 [(.sl 4 (List.map aA x1))] [] (.tup [(.int .i64 r.1),(.int .i64 r.2)]) []:=by
 unfold jW at h
 obtain⟨x2,e0,h⟩:=bsm h
 cases x2 with
 | inl x3 =>
  simp only[Sum.elim_inl] at h
  obtain⟨x5,e2,h⟩:=bsm h
  obtain rfl:=osi h
  exact Tri.of (x:=X14) aH aMD [.call ⟨true,[]⟩ (.tup [(.mp 0),(.int .i64 0)]) [(.map (aJ .i64 (fun y=>(aG y).headD aD) x3) x3.length)],.n x1.length,.norm 2 ⟨[(4,[]),(5,[]),(6,[]),(14,[]),(15,[]),(16,[])],[⟨.tmp 4,[],none⟩],false,[],[]⟩,.out (.st .normal (aI3 x5))] [⟨(LT.block (kI x1 x3 _ k 0 0 e2))⟩,⟨(aK aA x1)⟩,⟨(aQ k x1 (.inl x3) e0)⟩] (by kernel_rfl)
 | inr x3 =>
  simp only[Sum.elim_inr] at h
  obtain⟨x5,e2,h⟩:=bsm h
  obtain rfl:=osi h
  exact Tri.of (x:=X14) aH aMD [.call ⟨true,[]⟩ (.tup [.mapn,(.int .i64 4)]) [],.n x1.length,.norm 2 ⟨[(4,[]),(5,[]),(6,[]),(14,[]),(15,[]),(16,[])],[],false,[],[]⟩,.out (.st .normal (aH9))] [⟨(LT.block (tR x1 _ k 0 e2))⟩,⟨(aK aA x1)⟩,⟨(aQ k x1 (.inr x3) e0)⟩] (by kernel_rfl)
end Go.Ws

namespace Go.Ws
open Go.Proofs
set_option linter.unusedSimpArgs false
set_option linter.unusedVariables false
set_option maxRecDepth 1000000
set_option maxHeartbeats 4000000
noncomputable def X12:Ctx:=⟨Try.f12,[],true⟩
noncomputable def L12_0:Code:=at_ Try.f12 [1,1,1,1,0,1,4,5]
def S12_0 (x1:Ty7) (x3:aL) (cG:Int) (aR:aL):St:=⟨mkT 46 [(4,(.mp 0)),(6,(.ref 2 1 0 0 aR.length .virt)),(17,(.sl 4 (List.map aA x1))),(18,(.int .i64 (nI x1.length))),(19,(.int .i64 cG))],[(.map (aJ .i64 (fun y=>(aG y).headD aD) x3) x3.length),(.arr 2 (List.map aB aR) 0 0 false)]⟩
def aIN (aKZ:aL):St:=⟨mkT 46 [(6,(.ref 2 0 0 0 aKZ.length .virt))],[(.arr 2 (List.map aB aKZ) 0 0 false)]⟩
def O12_0 (x1:Ty7) (x3:aL) (y:(aL)):GX:=.st (.exit 0) (aIN y)
def A12_0 (cI:Int × Int × Int × Int):Ans:=.row [(.int .i64 cI.1),(.int .i64 cI.2.1),(.int .u8 cI.2.2.1),(.int .i64 cI.2.2.2)]
theorem kN (x1:Ty7) (x3:aL) (y:(aL)):∀(k:Nat) (cG:Int) (aR:aL),dE k x1 x3 cG aR=some y→LT Try.prog X12 L12_0 (S12_0 x1 x3 cG aR) (O12_0 x1 x3 y)
 | 0,cG,aR,h=>by cases h
 | k+1,cG,aR,h=>by
  rw[dE] at h
  by_cases cL0:ltI cG (nI x1.length)=true
  · rw[if_pos cL0] at h
    by_cases cL1:inI cG x1.length=true
    · rw[if_pos cL1] at h
      obtain⟨cI,eL2,h⟩:=bsm h
      by_cases cL3:eqI cI.1 3=true
      · rw[if_pos cL3] at h
        by_cases cL4:nL x3 cI.2.1=true
        · rw[if_pos cL4] at h
          obtain⟨t6,eL5,h⟩:=bsm h
          by_cases cL6:eqI t6 1=true
          · rw[if_pos cL6] at h
            by_cases cL7:dR (((aR++[cI.2.2]).length)*16)=true
            · rw[if_pos cL7] at h
              exact LT.next aH (hs:=⟨[(4,[]),(6,[]),(17,[]),(18,[]),(19,[])],[⟨.tmp 4,[],none⟩,⟨.tmp 6,[],some 2⟩],false,[],[]⟩) (es:=none) [dt,.n x1.length,(A12_0 cI),dt,dt,dt,dt,.opt (some (.int .i64 t6)),dt,dt,dt,.rows (List.map aB [cI.2.2]),.n ((aR++[cI.2.2]).length),.n aR.length,dt,.rows (List.map aB (aR++[cI.2.2])),.n ((aR++[cI.2.2]).length),.rows (List.map aB (aR++[cI.2.2]))] [⟨(dW aB (l:=(aR++[cI.2.2])) (n:=((aR++[cI.2.2]).length)) rfl)⟩,⟨(rfl:(aR++[cI.2.2]).length=(aR++[cI.2.2]).length)⟩,⟨(zle ((aR++[cI.2.2]).length))⟩,⟨(aDS aB aR [cI.2.2])⟩,⟨(aAW aR.length)⟩,⟨(aK aB aR)⟩,⟨cL7⟩,⟨(by simp only[wl,List.length_map,List.map_nil,List.map_cons]<;>omega:aR.length+(List.map aB [cI.2.2]).length=(aR++[cI.2.2]).length)⟩,⟨(bC aB (l:=[cI.2.2]) (n:=1) rfl)⟩,⟨(cJ aB (Nat.le_refl 1):0+1≤(List.map aB [cI.2.2]).length)⟩,⟨cL6⟩,⟨cL3⟩,⟨cL3⟩,⟨(dC .i64 (fun y=>(aG y).headD aD) eL5)⟩,⟨cL3⟩,⟨cL3⟩,⟨cL3⟩,⟨cL3⟩,⟨(aO (e:=aA) eL2 4 0 4 (by decide))⟩,⟨cL1⟩,⟨(aK aA x1)⟩,⟨cL0⟩] (by kernel_rfl) (kN x1 x3 y k (aM .i64 cG 1) (aR++[cI.2.2]) h)
            rw[if_neg cL7] at h;replace cL7:=eqf cL7
            cases h
          rw[if_neg cL6] at h;replace cL6:=eqf cL6
          exact LT.next aH (hs:=⟨[(4,[]),(6,[]),(17,[]),(18,[]),(19,[])],[⟨.tmp 4,[],none⟩,⟨.tmp 6,[],some 2⟩],false,[],[]⟩) (es:=none) [dt,.n x1.length,(A12_0 cI),dt,dt,dt,dt,.opt (some (.int .i64 t6)),dt,dt,df,.n aR.length,.rows (List.map aB aR)] [⟨(dW aB (l:=aR) (n:=aR.length) rfl)⟩,⟨(rfl:aR.length=aR.length)⟩,⟨(zle aR.length)⟩,⟨cL6⟩,⟨cL3⟩,⟨cL3⟩,⟨(dC .i64 (fun y=>(aG y).headD aD) eL5)⟩,⟨cL3⟩,⟨cL3⟩,⟨cL3⟩,⟨cL3⟩,⟨(aO (e:=aA) eL2 4 0 4 (by decide))⟩,⟨cL1⟩,⟨(aK aA x1)⟩,⟨cL0⟩] (by kernel_rfl) (kN x1 x3 y k (aM .i64 cG 1) aR h)
        rw[if_neg cL4] at h;replace cL4:=eqf cL4
        exact LT.next aH (hs:=⟨[(4,[]),(6,[]),(17,[]),(18,[]),(19,[])],[⟨.tmp 4,[],none⟩,⟨.tmp 6,[],some 2⟩],false,[],[]⟩) (es:=none) [dt,.n x1.length,(A12_0 cI),dt,dt,dt,dt,.opt none,dt,dt,df,.n aR.length,.rows (List.map aB aR)] [⟨(dW aB (l:=aR) (n:=aR.length) rfl)⟩,⟨(rfl:aR.length=aR.length)⟩,⟨(zle aR.length)⟩,⟨(rfl:eqI 0 1=false)⟩,⟨cL3⟩,⟨cL3⟩,⟨(kX .i64 (fun y=>(aG y).headD aD) cL4)⟩,⟨cL3⟩,⟨cL3⟩,⟨cL3⟩,⟨cL3⟩,⟨(aO (e:=aA) eL2 4 0 4 (by decide))⟩,⟨cL1⟩,⟨(aK aA x1)⟩,⟨cL0⟩] (by kernel_rfl) (kN x1 x3 y k (aM .i64 cG 1) aR h)
      rw[if_neg cL3] at h;replace cL3:=eqf cL3
      exact LT.next aH (hs:=⟨[(4,[]),(6,[]),(17,[]),(18,[]),(19,[])],[⟨.tmp 4,[],none⟩,⟨.tmp 6,[],some 2⟩],false,[],[]⟩) (es:=none) [dt,.n x1.length,(A12_0 cI),df,df,df,df,df,df,df,.n aR.length,.rows (List.map aB aR)] [⟨(dW aB (l:=aR) (n:=aR.length) rfl)⟩,⟨(rfl:aR.length=aR.length)⟩,⟨(zle aR.length)⟩,⟨rF⟩,⟨cL3⟩,⟨cL3⟩,⟨cL3⟩,⟨cL3⟩,⟨cL3⟩,⟨cL3⟩,⟨(aO (e:=aA) eL2 4 0 4 (by decide))⟩,⟨cL1⟩,⟨(aK aA x1)⟩,⟨cL0⟩] (by kernel_rfl) (kN x1 x3 y k (aM .i64 cG 1) aR h)
    rw[if_neg cL1] at h;replace cL1:=eqf cL1
    cases h
  rw[if_neg cL0] at h;replace cL0:=eqf cL0
  obtain rfl:=osi h
  show LT _ _ _ _ (.st (.exit 0) (aIN aR))
  exact LT.done aH (hs:=⟨[],[],false,[],[]⟩) (es:=(some ⟨[(6,[])],[⟨.tmp 6,[],none⟩],false,[],[]⟩)) [df] [⟨cL0⟩] (by kernel_rfl) (fun s h=>by cases h)
theorem bE (k:Nat) (x1:Ty7) (r:aL × Int) (h:lA k x1=some r):Tri Try.prog 12 [(.sl 4 (List.map aA x1))] [] (.tup [(.sl 2 (List.map aB r.1)),(.int .i64 r.2)]) []:=by
 unfold lA at h
 obtain⟨x2,e0,h⟩:=bsm h
 cases x2 with
 | inl x3 =>
  simp only[Sum.elim_inl] at h
  obtain⟨x5,e2,h⟩:=bsm h
  obtain⟨x6,e4,h⟩:=bsm h
  obtain rfl:=osi h
  exact Tri.of (x:=X12) aH aNA [.call ⟨true,[]⟩ (.tup [(.mp 0),(.int .i64 0)]) [(.map (aJ .i64 (fun y=>(aG y).headD aD) x3) x3.length)],df,.n x1.length,.norm 2 ⟨[(4,[]),(6,[]),(17,[]),(18,[]),(19,[])],[⟨.tmp 4,[],none⟩,⟨.tmp 6,[],some 2⟩],false,[],[]⟩,.n 0,.rows (List.map aB []),.out (.st .normal (aIN x5)),.call ⟨true,[[(0,2)]]⟩ (.tup [(.sl 2 (List.map aB x6.1)),(.int .i64 x6.2)]) [],.rows (List.map aB x5)] [⟨(nA k [] x5 _ e4)⟩,⟨(bC aB (l:=x5) (n:=x5.length) rfl)⟩,⟨(cJ aB (Nat.le_refl x5.length):0+x5.length≤(List.map aB x5).length)⟩,⟨(LT.block (kN x1 x3 _ k 0 [] e2))⟩,⟨(dW aB (l:=[]) (n:=0) rfl)⟩,⟨(rfl:0=0)⟩,⟨(zle 0)⟩,⟨(aK aA x1)⟩,⟨(nF (rfl:eqI 0 0=true))⟩,⟨(aQ k x1 (.inl x3) e0)⟩] (by kernel_rfl)
 | inr x3 =>
  simp only[Sum.elim_inr] at h
  obtain rfl:=osi h
  exact Tri.of (x:=X12) aH aNA [.call ⟨true,[]⟩ (.tup [.mapn,(.int .i64 4)]) [],dt,.norm 0 ⟨[(2,[(0,2)]),(3,[])],[],false,[],[]⟩] [⟨(nT (rfl:eqI 4 0=false))⟩,⟨(aQ k x1 (.inr x3) e0)⟩] (by kernel_rfl)
end Go.Ws

namespace Go.Ws
open Go.Proofs
set_option linter.unusedSimpArgs false
set_option linter.unusedVariables false
set_option maxRecDepth 1000000
set_option maxHeartbeats 4000000
theorem yH (x1:aL):Tri Try.prog 18 [(.ps [(.mp 0),.mapn,(.mp 0)])] [(.map (aJ .i64 (fun y=>(aG y).headD aD) x1) x1.length)] (.bool (pQ x1)) [(.map (aJ .i64 (fun y=>(aG y).headD aD) x1) x1.length)]:=aOY
end Go.Ws

namespace Go.Ws
open Go.Proofs
set_option linter.unusedSimpArgs false
set_option linter.unusedVariables false
set_option maxRecDepth 1000000
set_option maxHeartbeats 4000000
theorem aCK (x1:aL) (x2:aL):Tri Try.prog 18 [(.ps [(.mp 0),(.mp 1)])] [(.map (aJ .i64 (fun y=>(aG y).headD aD) x1) x1.length),(.map (aJ .i64 (fun y=>(aG y).headD aD) x2) x2.length)] (.bool (oR x1 x2)) [(.map (aJ .i64 (fun y=>(aG y).headD aD) x1) x1.length),(.map (aJ .i64 (fun y=>(aG y).headD aD) x2) x2.length)]:=agree_01
end Go.Ws
