/-
  Walks, merged.
  Conditions: none.
-/
import Derived.Test.YtipeekdnpocclaaZPre
import Derived.Test.YtipeekdnpocclaaZPure
import Derived.Test.YtipeekdnpocclaaZIns72
import Derived.Test.YtipeekdnpocclaaZDel45
import Derived.Test.YtipeekdnpocclaaZIns44
import Derived.Test.YtipeekdnpocclaaZOppI
import Derived.Test.YtipeekdnpocclaaZAgr
set_option linter.unusedVariables false
set_option linter.unusedSimpArgs false
namespace Go.Ws
open Go.Proofs
set_option linter.unusedSimpArgs false
set_option linter.unusedVariables false
set_option maxRecDepth 1000000
set_option maxHeartbeats 4000000
noncomputable def X26:Ctx:=⟨Try.f26,[],true⟩
theorem aFO:Tri Try.prog 26 [] [] (.sl 4 (List.map aA (aJ))) []:=by
 obtain⟨r,h⟩:∃r,aJ=r:=⟨_,rfl⟩
 try rw[h]
 unfold aJ at h
 obtain rfl:=h
 exact Tri.of (x:=X26) aE facts26 [.rows (List.map aA [(1,1,0,0),(3,1,0,5),(4,1,0,1),(5,1,0,0),(6,1,0,2)])] [⟨(b8 aA (l:=[(1,1,0,0),(3,1,0,5),(4,1,0,1),(5,1,0,0),(6,1,0,2)]) (n:=5) rfl)⟩,⟨(eT aA (Nat.le_refl 5):0+5≤(List.map aA [(1,1,0,0),(3,1,0,5),(4,1,0,1),(5,1,0,0),(6,1,0,2)]).length)⟩] (by kernel_rfl)
end Go.Ws

namespace Go.Ws
open Go.Proofs
set_option linter.unusedSimpArgs false
set_option linter.unusedVariables false
set_option maxRecDepth 1000000
set_option maxHeartbeats 4000000
noncomputable def X20:Ctx:=⟨Try.f20,[],false⟩
theorem aE8:Tri Try.prog 20 [] [] (.hp 0 0) [(.row [.nils,.nils,(.mp 1),.nils]),(.map (bA .i64 (fun y=>AV.agg (aC y)) ([]:Ty2)) ([]:Ty2).length)]:=by
 obtain⟨r,h⟩:∃r,aG4=r:=⟨_,rfl⟩
 try rw[h]
 unfold aG4 at h
 obtain rfl:=h
 exact Tri.of (x:=X20) aE facts20 [.norm 0 ⟨[(0,[])],[⟨.tmp 0,[],none⟩,⟨.cell 0 2,[],none⟩],false,[],[]⟩] [] (by kernel_rfl)
end Go.Ws

namespace Go.Ws
open Go.Proofs
set_option linter.unusedSimpArgs false
set_option linter.unusedVariables false
set_option maxRecDepth 1000000
set_option maxHeartbeats 4000000
noncomputable def X67_1001:Ctx:=⟨Try.f67,[],false⟩
theorem zS (k:Nat) (x1:Ty8) (r:Unit) (h:jJ k x1=some r):Tri Try.prog 67 [(.inl 3 (List.map aD x1))] [] (.ref 3 0 0 0 x1.length .virt) [(.arr 3 (List.map aD x1) 0 0 false)]:=by
 unfold jJ at h
 by_cases c0:cR (x1.length*24)=true
 · rw[if_pos c0] at h
   obtain rfl:=osi h
   exact Tri.of (x:=X67_1001) aE aPA [df,.n x1.length,.norm 0 ⟨[(2,[])],[⟨.tmp 2,[],some 3⟩],false,[],[]⟩,.n x1.length,.rows (List.map aD x1)] [⟨(fF aD (l:=x1) (n:=x1.length) rfl)⟩,⟨(rfl:x1.length=x1.length)⟩,⟨(zle x1.length)⟩,⟨c0⟩,⟨(aS aD x1)⟩,⟨rF⟩] (by kernel_rfl)
 rw[if_neg c0] at h;replace c0:=eqf c0
 cases h
end Go.Ws

namespace Go.Ws
open Go.Proofs
set_option linter.unusedSimpArgs false
set_option linter.unusedVariables false
set_option maxRecDepth 1000000
set_option maxHeartbeats 4000000
noncomputable def X67_1002:Ctx:=⟨Try.f67,[],false⟩
theorem yY:Tri Try.prog 67 [.nils] [] (.ref 3 0 0 0 0 .virt) [(.arr 3 (List.map aD []) 0 0 false)]:=by
 obtain⟨r,h⟩:∃r,rC=r:=⟨_,rfl⟩
 try rw[h]
 unfold rC at h
 obtain rfl:=h
 exact Tri.of (x:=X67_1002) aE aPA [dt,.norm 0 ⟨[(2,[])],[⟨.tmp 2,[],some 3⟩],false,[],[]⟩,.n 0,.rows (List.map aD [])] [⟨(fF aD (l:=[]) (n:=0) rfl)⟩,⟨(rfl:0=0)⟩,⟨(zle 0)⟩,⟨rT⟩] (by kernel_rfl)
end Go.Ws

namespace Go.Ws
open Go.Proofs
set_option linter.unusedSimpArgs false
set_option linter.unusedVariables false
set_option maxRecDepth 1000000
set_option maxHeartbeats 4000000
theorem yM (k:Nat) (x1:Ty8) (r:Unit) (h:oN k x1=some r):Tri Try.prog 67 [(.sl 3 (List.map aD x1))] [] (.ref 3 0 0 0 x1.length .virt) [(.arr 3 (List.map aD x1) 0 0 false)]:=by
 refine Tri.slOf (zS k x1 r h) fun h0=>?_
 have hx:x1=[]:=by simpa using h0
 subst hx
 exact yY
end Go.Ws

namespace Go.Ws
open Go.Proofs
set_option linter.unusedSimpArgs false
set_option linter.unusedVariables false
set_option maxRecDepth 1000000
set_option maxHeartbeats 4000000
noncomputable def X69:Ctx:=⟨Try.f69,[],true⟩
theorem aFE (x1:Int) (x2:Int):Tri Try.prog 69 [(.int .i64 x1),(.int .u8 x2)] [] (.bool (iE x1 x2)) []:=by
 obtain⟨r,h⟩:∃r,iE x1 x2=r:=⟨_,rfl⟩
 try rw[h]
 unfold iE at h
 by_cases c0:ltI x2 64=true
 · rw[if_pos c0] at h
   by_cases c1:ltI x1 0=true
   · rw[if_pos c1] at h
     obtain rfl:=h
     exact Tri.of (x:=X69) aE aK4 [dt,dt,dt,df,df,df] [⟨(nF c1)⟩,⟨(nF c1)⟩,⟨(nF c1)⟩,⟨c0⟩,⟨c0⟩,⟨c0⟩] (by kernel_rfl)
   rw[if_neg c1] at h;replace c1:=eqf c1
   obtain rfl:=h
   exact Tri.of (x:=X69) aE aK4 [dt,dt,dt,dt,dt,dt] [⟨(nT c1)⟩,⟨(nT c1)⟩,⟨(nT c1)⟩,⟨c0⟩,⟨c0⟩,⟨c0⟩] (by kernel_rfl)
 rw[if_neg c0] at h;replace c0:=eqf c0
 obtain rfl:=h
 exact Tri.of (x:=X69) aE aK4 [df,df,df,df,df,df] [⟨rF⟩,⟨rF⟩,⟨rF⟩,⟨c0⟩,⟨c0⟩,⟨c0⟩] (by kernel_rfl)
end Go.Ws

namespace Go.Ws
open Go.Proofs
set_option linter.unusedSimpArgs false
set_option linter.unusedVariables false
set_option maxRecDepth 1000000
set_option maxHeartbeats 4000000
noncomputable def X65:Ctx:=⟨Try.f65,[],true⟩
theorem aDF (x1:Int):Tri Try.prog 65 [(.int .u8 x1)] [] (.bool (iG x1)) []:=by
 obtain⟨r,h⟩:∃r,iG x1=r:=⟨_,rfl⟩
 try rw[h]
 unfold iG at h
 obtain rfl:=h
 exact Tri.of (x:=X65) aE facts65 [] [] (by kernel_rfl)
end Go.Ws

namespace Go.Ws
open Go.Proofs
set_option linter.unusedSimpArgs false
set_option linter.unusedVariables false
set_option maxRecDepth 1000000
set_option maxHeartbeats 4000000
noncomputable def X53:Ctx:=⟨Try.f53,[],true⟩
theorem zU (x1:Int) (x2:Int):Tri Try.prog 53 [(.int .u8 x1),(.int .u8 x2)] [] (.int .i64 (bD x1 x2)) []:=by
 obtain⟨r,h⟩:∃r,bD x1 x2=r:=⟨_,rfl⟩
 try rw[h]
 unfold bD at h
 let u1:List Ans:=[.call ⟨true,[]⟩ (.bool (iG x1)) [],.call ⟨true,[]⟩ (.bool (iG x2)) []]
 let w2:List Prf:=[⟨(aDF x2)⟩,⟨(aDF x1)⟩]
 by_cases c0:(iG x1)=true
 · rw[if_pos c0] at h
   by_cases c1:(iG x2)=true
   · rw[if_pos c1] at h
     obtain rfl:=h
     exact Tri.of (x:=X53) aE aAI (u1++[dt,dt]) ([⟨c1⟩,⟨c0⟩]++w2) (by kernel_rfl)
   rw[if_neg c1] at h;replace c1:=eqf c1
   obtain rfl:=h
   exact Tri.of (x:=X53) aE aAI (u1++[dt,df]) ([⟨c1⟩,⟨c0⟩]++w2) (by kernel_rfl)
 rw[if_neg c0] at h;replace c0:=eqf c0
 by_cases c1:(iG x2)=true
 · rw[if_pos c1] at h
   obtain rfl:=h
   exact Tri.of (x:=X53) aE aAI (u1++[df,dt]) ([⟨c1⟩,⟨c0⟩]++w2) (by kernel_rfl)
 rw[if_neg c1] at h;replace c1:=eqf c1
 by_cases c2:ltI x1 x2=true
 · rw[if_pos c2] at h
   obtain rfl:=h
   exact Tri.of (x:=X53) aE aAI (u1++[df,df,dt]) ([⟨c2⟩,⟨c1⟩,⟨c0⟩]++w2) (by kernel_rfl)
 rw[if_neg c2] at h;replace c2:=eqf c2
 by_cases c3:ltI x2 x1=true
 · rw[if_pos c3] at h
   obtain rfl:=h
   exact Tri.of (x:=X53) aE aAI (u1++[df,df,df,dt]) ([⟨c3⟩,⟨c2⟩,⟨c1⟩,⟨c0⟩]++w2) (by kernel_rfl)
 rw[if_neg c3] at h;replace c3:=eqf c3
 obtain rfl:=h
 exact Tri.of (x:=X53) aE aAI (u1++[df,df,df,df]) ([⟨c3⟩,⟨c2⟩,⟨c1⟩,⟨c0⟩]++w2) (by kernel_rfl)
end Go.Ws

namespace Go.Ws
open Go.Proofs
set_option linter.unusedSimpArgs false
set_option linter.unusedVariables false
set_option maxRecDepth 1000000
set_option maxHeartbeats 4000000
noncomputable def X100:Ctx:=⟨Try.f100,[],true⟩
theorem wG (x1:Int):Tri Try.prog 100 [(.int .i64 x1)] [] (.bool (eR x1)) []:=by
 obtain⟨r,h⟩:∃r,eR x1=r:=⟨_,rfl⟩
 try rw[h]
 unfold eR at h
 obtain rfl:=h
 exact Tri.of (x:=X100) aE facts100 [] [] (by kernel_rfl)
end Go.Ws

namespace Go.Ws
open Go.Proofs
set_option linter.unusedSimpArgs false
set_option linter.unusedVariables false
set_option maxRecDepth 1000000
set_option maxHeartbeats 4000000
noncomputable def X88:Ctx:=⟨Try.f88,[],true⟩
theorem aCO (x1:Int) (x2:Int):Tri Try.prog 88 [(.int .i64 x1),(.int .i64 x2)] [] (.int .i64 (dK x1 x2)) []:=by
 obtain⟨r,h⟩:∃r,dK x1 x2=r:=⟨_,rfl⟩
 try rw[h]
 unfold dK at h
 let u1:List Ans:=[.call ⟨true,[]⟩ (.bool (eR x1)) [],.call ⟨true,[]⟩ (.bool (eR x2)) []]
 let w2:List Prf:=[⟨(wG x2)⟩,⟨(wG x1)⟩]
 by_cases c0:(eR x1)=true
 · rw[if_pos c0] at h
   by_cases c1:(eR x2)=true
   · rw[if_pos c1] at h
     obtain rfl:=h
     exact Tri.of (x:=X88) aE aAM (u1++[dt,dt]) ([⟨c1⟩,⟨c0⟩]++w2) (by kernel_rfl)
   rw[if_neg c1] at h;replace c1:=eqf c1
   obtain rfl:=h
   exact Tri.of (x:=X88) aE aAM (u1++[dt,df]) ([⟨c1⟩,⟨c0⟩]++w2) (by kernel_rfl)
 rw[if_neg c0] at h;replace c0:=eqf c0
 by_cases c1:(eR x2)=true
 · rw[if_pos c1] at h
   obtain rfl:=h
   exact Tri.of (x:=X88) aE aAM (u1++[df,dt]) ([⟨c1⟩,⟨c0⟩]++w2) (by kernel_rfl)
 rw[if_neg c1] at h;replace c1:=eqf c1
 by_cases c2:ltI x1 x2=true
 · rw[if_pos c2] at h
   obtain rfl:=h
   exact Tri.of (x:=X88) aE aAM (u1++[df,df,dt]) ([⟨c2⟩,⟨c1⟩,⟨c0⟩]++w2) (by kernel_rfl)
 rw[if_neg c2] at h;replace c2:=eqf c2
 by_cases c3:ltI x2 x1=true
 · rw[if_pos c3] at h
   obtain rfl:=h
   exact Tri.of (x:=X88) aE aAM (u1++[df,df,df,dt]) ([⟨c3⟩,⟨c2⟩,⟨c1⟩,⟨c0⟩]++w2) (by kernel_rfl)
 rw[if_neg c3] at h;replace c3:=eqf c3
 obtain rfl:=h
 exact Tri.of (x:=X88) aE aAM (u1++[df,df,df,df]) ([⟨c3⟩,⟨c2⟩,⟨c1⟩,⟨c0⟩]++w2) (by kernel_rfl)
end Go.Ws

namespace Go.Ws
open Go.Proofs
set_option linter.unusedSimpArgs false
set_option linter.unusedVariables false
set_option maxRecDepth 1000000
set_option maxHeartbeats 4000000
noncomputable def X87:Ctx:=⟨Try.f87,[],true⟩
noncomputable def L87_0:Code:=at_ Try.f87 [1,1,0,1,4,5]
def S87_0 (x1:List Int) (dA:Int):St:=⟨mkT 18 [(3,(.int .i64 0)),(6,(.sl 1 (List.map bG x1))),(7,(.int .i64 (nI x1.length))),(8,(.int .i64 dA))],[]⟩
def aKK:St:=⟨mkT 18 [(3,(.int .i64 0))],[]⟩
def O87_0 (x1:List Int) (y:(Sum (Unit) (Int))):GX:=match y with
 | .inl y=>.st (.exit 0) (aKK)
 | .inr y=>.fin (.int .i64 y) []
theorem yD (x1:List Int) (y:(Sum (Unit) (Int))):∀(k:Nat) (dA:Int),kV k x1 dA=some y→LT Try.prog X87 L87_0 (S87_0 x1 dA) (O87_0 x1 y)
 | 0,dA,h=>by cases h
 | k+1,dA,h=>by
  rw[kV] at h
  by_cases cL0:ltI dA (nI x1.length)=true
  · rw[if_pos cL0] at h
    by_cases cL1:inI dA x1.length=true
    · rw[if_pos cL1] at h
      obtain⟨rD,eL2,h⟩:=bsm h
      let u1:List Ans:=[dt,.n x1.length,.row [(.int .i64 rD)]]
      let w2:List Prf:=[⟨(b7 (e:=bG) eL2 1 0 1 (by decide))⟩,⟨cL1⟩,⟨(aS bG x1)⟩,⟨cL0⟩]
      by_cases cL3:eqI rD 0=true
      · rw[if_pos cL3] at h
        exact LT.next aE (hs:=⟨[(3,[]),(6,[]),(7,[]),(8,[])],[],false,[],[]⟩) (es:=none) (u1++[df]) ([⟨(nF cL3)⟩]++w2) (by kernel_rfl) (yD x1 y k (aH .i64 dA 1) h)
      rw[if_neg cL3] at h;replace cL3:=eqf cL3
      obtain rfl:=osi h
      show LT _ _ _ _ (.fin (.int .i64 rD) [])
      exact LT.done aE (hs:=⟨[],[],false,[],[]⟩) (es:=none) (u1++[dt]) ([⟨(nT cL3)⟩]++w2) (by kernel_rfl) (fun s h=>by cases h)
    rw[if_neg cL1] at h;replace cL1:=eqf cL1
    cases h
  rw[if_neg cL0] at h;replace cL0:=eqf cL0
  obtain rfl:=osi h
  show LT _ _ _ _ (.st (.exit 0) (aKK))
  exact LT.done aE (hs:=⟨[],[],false,[],[]⟩) (es:=(some ⟨[(3,[])],[],false,[],[]⟩)) [df] [⟨cL0⟩] (by kernel_rfl) (fun s h=>by cases h)
theorem aRJ (k:Nat) (x1:List Int) (r:Int) (h:aEI k x1=some r):Tri Try.prog 87 [(.sl 1 (List.map bG x1))] [] (.int .i64 r) []:=by
 unfold aEI at h
 let u3:List Ans:=[.n x1.length,.norm 2 ⟨[(3,[]),(6,[]),(7,[]),(8,[])],[],false,[],[]⟩]
 obtain⟨x2,e0,h⟩:=bsm h
 cases x2 with
 | inl x3 =>
  simp only[Sum.elim_inl] at h
  obtain rfl:=osi h
  exact Tri.of (x:=X87) aE aQC (u3++[.out (.st .normal (aKK))]) [⟨(LT.block (yD x1 _ k 0 e0))⟩,⟨(aS bG x1)⟩] (by kernel_rfl)
 | inr x3 =>
  simp only[Sum.elim_inr] at h
  obtain rfl:=osi h
  exact Tri.of (x:=X87) aE aQC (u3++[.out (.fin (.int .i64 x3) [])]) [⟨(LT.blockFin (id:=0) (yD x1 _ k 0 e0))⟩,⟨(aS bG x1)⟩] (by kernel_rfl)
end Go.Ws

namespace Go.Ws
open Go.Proofs
set_option linter.unusedSimpArgs false
set_option linter.unusedVariables false
set_option maxRecDepth 1000000
set_option maxHeartbeats 4000000
noncomputable def X71:Ctx:=⟨Try.f71,[],true⟩
theorem vS (k:Nat) (x1:Int) (x2:Int) (x3:Bool) (x4:Int) (x5:Int) (x6:Bool) (r:Int) (h:nX k x1 x2 x3 x4 x5 x6=some r):Tri Try.prog 71 [(.agg [(.int .u8 x1),(.int .i64 x2),(.bool x3)]),(.agg [(.int .u8 x4),(.int .i64 x5),(.bool x6)])] [] (.int .i64 r) []:=by
 unfold nX at h
 obtain⟨x7,e0,h⟩:=bsm h
 obtain rfl:=osi h
 exact Tri.of (x:=X71) aE facts71 [.call ⟨true,[]⟩ (.int .i64 (bD x1 x4)) [],.call ⟨true,[]⟩ (.int .i64 (dK x2 x5)) [],.call ⟨true,[]⟩ (.int .i64 x7) [],.rows (List.map bG [(bD x1 x4),(dK x2 x5)])] [⟨(aRJ k [(bD x1 x4),(dK x2 x5)] _ e0)⟩,⟨(b8 bG (l:=[(bD x1 x4),(dK x2 x5)]) (n:=2) rfl)⟩,⟨(eT bG (Nat.le_refl 2):0+2≤(List.map bG [(bD x1 x4),(dK x2 x5)]).length)⟩,⟨(aCO x2 x5)⟩,⟨(zU x1 x4)⟩] (by kernel_rfl)
end Go.Ws

namespace Go.Ws
open Go.Proofs
set_option linter.unusedSimpArgs false
set_option linter.unusedVariables false
set_option maxRecDepth 1000000
set_option maxHeartbeats 4000000
noncomputable def X68:Ctx:=⟨Try.f68,[],true⟩
noncomputable def L68_0:Code:=at_ Try.f68 [1,0,1,4,5]
def S68_0 (x1:Ty8) (bF:Int):St:=⟨mkT 46 [(0,(.sl 3 (List.map aD x1))),(6,(.sl 3 (List.map aD x1))),(7,(.int .i64 (nI x1.length))),(8,(.int .i64 bF))],[]⟩
def aJ8:St:=⟨mkT 46 [],[]⟩
def O68_0 (x1:Ty8) (y:xC):GX:=match y with
 | .inl y=>.st (.exit 0) (aJ8)
 | .inr y=>.fin (.bool y) []
theorem lZ (x1:Ty8) (y:xC):∀(k:Nat) (bF:Int),eQ k x1 bF=some y→LT Try.prog X68 L68_0 (S68_0 x1 bF) (O68_0 x1 y)
 | 0,bF,h=>by cases h
 | k+1,bF,h=>by
  rw[eQ] at h
  by_cases cL0:ltI bF (nI x1.length)=true
  · rw[if_pos cL0] at h
    by_cases cL1:inI bF x1.length=true
    · rw[if_pos cL1] at h
      obtain⟨dN,eL2,h⟩:=bsm h
      let u1:List Ans:=[dt,.n x1.length,.row [(.int .u8 dN.1),(.int .i64 dN.2.1),(.bool dN.2.2)],.call ⟨true,[]⟩ (.bool (iE dN.2.1 dN.1)) []]
      let w2:List Prf:=[⟨(aFE dN.2.1 dN.1)⟩,⟨(b7 (e:=aD) eL2 3 0 3 (by decide))⟩,⟨cL1⟩,⟨(aS aD x1)⟩,⟨cL0⟩]
      by_cases cL3:(iE dN.2.1 dN.1)=true
      · rw[if_pos cL3] at h
        by_cases cL4:eqI bF 0=true
        · rw[if_pos cL4] at h
          exact LT.next aE (hs:=⟨[(0,[]),(6,[]),(7,[]),(8,[])],[],false,[],[]⟩) (es:=none) (u1++[df,dt]) ([⟨cL4⟩,⟨(nF cL3)⟩]++w2) (by kernel_rfl) (lZ x1 y k (aH .i64 bF 1) h)
        rw[if_neg cL4] at h;replace cL4:=eqf cL4
        by_cases cL5:inI (sQ .i64 bF 1) x1.length=true
        · rw[if_pos cL5] at h
          obtain⟨g7,eL6,h⟩:=bsm h
          obtain⟨xI,eL7,h⟩:=bsm h
          let u5:List Ans:=u1++[df,df,.n x1.length,.row [(.int .u8 g7.1),(.int .i64 g7.2.1),(.bool g7.2.2)],.call ⟨true,[]⟩ (.int .i64 xI) []]
          let w6:List Prf:=[⟨(vS k g7.1 g7.2.1 g7.2.2 dN.1 dN.2.1 dN.2.2 _ eL7)⟩,⟨(b7 (e:=aD) eL6 3 0 3 (by decide))⟩,⟨cL5⟩,⟨(aS aD x1)⟩,⟨cL4⟩,⟨(nF cL3)⟩]++w2
          by_cases cL8:ltI xI 0=true
          · rw[if_pos cL8] at h
            let w8:List Prf:=[⟨(nF cL8)⟩,⟨(nF cL8)⟩,⟨(nF cL8)⟩,⟨(nF cL8)⟩,⟨(nF cL8)⟩,⟨(nF cL8)⟩]++w6
            by_cases cL9:eqI g7.1 dN.1=true
            · rw[if_pos cL9] at h
              let u9:List Ans:=u5++[df,df,df,df,df,df,dt,dt,dt]
              by_cases cL10:g7.2.2=true
              · rw[if_pos cL10] at h
                obtain rfl:=osi h
                show LT _ _ _ _ (.fin (.bool false) [])
                exact LT.done aE (hs:=⟨[],[],false,[],[]⟩) (es:=none) (u9++[dt,dt,dt,dt,df,dt,df,dt]) ([⟨rT⟩,⟨(nF cL8)⟩,⟨cL9⟩,⟨(nF cL8)⟩,⟨cL10⟩,⟨cL9⟩,⟨cL10⟩,⟨cL10⟩,⟨cL9⟩,⟨cL9⟩,⟨cL9⟩]++w8) (by kernel_rfl) (fun s h=>by cases h)
              rw[if_neg cL10] at h;replace cL10:=eqf cL10
              let w12:List Prf:=[⟨(nF cL8)⟩,⟨cL9⟩,⟨(nF cL8)⟩,⟨cL10⟩,⟨cL9⟩,⟨cL10⟩,⟨cL10⟩,⟨cL9⟩,⟨cL9⟩,⟨cL9⟩]++w8
              by_cases cL11:dN.2.2=true
              · rw[if_pos cL11] at h
                obtain rfl:=osi h
                show LT _ _ _ _ (.fin (.bool false) [])
                exact LT.done aE (hs:=⟨[],[],false,[],[]⟩) (es:=none) (u9++[df,df,dt,df,df,dt,df,dt]) ([⟨cL11⟩]++w12) (by kernel_rfl) (fun s h=>by cases h)
              rw[if_neg cL11] at h;replace cL11:=eqf cL11
              exact LT.next aE (hs:=⟨[(0,[]),(6,[]),(7,[]),(8,[])],[],false,[],[]⟩) (es:=none) (u9++[df,df,dt,df,df,dt,df,df]) ([⟨cL11⟩]++w12) (by kernel_rfl) (lZ x1 y k (aH .i64 bF 1) h)
            rw[if_neg cL9] at h;replace cL9:=eqf cL9
            exact LT.next aE (hs:=⟨[(0,[]),(6,[]),(7,[]),(8,[])],[],false,[],[]⟩) (es:=none) (u5++[df,df,df,df,df,df,df,df,df,df,df,df,df,df]) ([⟨rF⟩,⟨(nF cL8)⟩,⟨cL9⟩,⟨(nF cL8)⟩,⟨cL9⟩,⟨cL9⟩,⟨cL9⟩,⟨cL9⟩]++w8) (by kernel_rfl) (lZ x1 y k (aH .i64 bF 1) h)
          rw[if_neg cL8] at h;replace cL8:=eqf cL8
          obtain rfl:=osi h
          show LT _ _ _ _ (.fin (.bool false) [])
          exact LT.done aE (hs:=⟨[],[],false,[],[]⟩) (es:=none) (u5++[dt,dt,dt,dt,dt,dt,dt,dt,dt]) ([⟨rT⟩,⟨(nT cL8)⟩,⟨(nT cL8)⟩,⟨(nT cL8)⟩,⟨(nT cL8)⟩,⟨(nT cL8)⟩,⟨(nT cL8)⟩,⟨(nT cL8)⟩,⟨(nT cL8)⟩]++w6) (by kernel_rfl) (fun s h=>by cases h)
        rw[if_neg cL5] at h;replace cL5:=eqf cL5
        cases h
      rw[if_neg cL3] at h;replace cL3:=eqf cL3
      obtain rfl:=osi h
      show LT _ _ _ _ (.fin (.bool false) [])
      exact LT.done aE (hs:=⟨[],[],false,[],[]⟩) (es:=none) (u1++[dt]) ([⟨(nT cL3)⟩]++w2) (by kernel_rfl) (fun s h=>by cases h)
    rw[if_neg cL1] at h;replace cL1:=eqf cL1
    cases h
  rw[if_neg cL0] at h;replace cL0:=eqf cL0
  obtain rfl:=osi h
  show LT _ _ _ _ (.st (.exit 0) (aJ8))
  exact LT.done aE (hs:=⟨[],[],false,[],[]⟩) (es:=(some ⟨[],[],false,[],[]⟩)) [df] [⟨cL0⟩] (by kernel_rfl) (fun s h=>by cases h)
theorem aH7 (k:Nat) (x1:Ty8) (r:Bool) (h:rQ k x1=some r):Tri Try.prog 68 [(.sl 3 (List.map aD x1))] [] (.bool r) []:=by
 unfold rQ at h
 let u13:List Ans:=[.n x1.length,.norm 2 ⟨[(0,[]),(6,[]),(7,[]),(8,[])],[],false,[],[]⟩]
 obtain⟨x2,e0,h⟩:=bsm h
 cases x2 with
 | inl x3 =>
  simp only[Sum.elim_inl] at h
  obtain rfl:=osi h
  exact Tri.of (x:=X68) aE aP6 (u13++[.out (.st .normal (aJ8))]) [⟨(LT.block (lZ x1 _ k 0 e0))⟩,⟨(aS aD x1)⟩] (by kernel_rfl)
 | inr x3 =>
  simp only[Sum.elim_inr] at h
  obtain rfl:=osi h
  exact Tri.of (x:=X68) aE aP6 (u13++[.out (.fin (.bool x3) [])]) [⟨(LT.blockFin (id:=0) (lZ x1 _ k 0 e0))⟩,⟨(aS aD x1)⟩] (by kernel_rfl)
end Go.Ws

namespace Go.Ws
open Go.Proofs
set_option linter.unusedSimpArgs false
set_option linter.unusedVariables false
set_option maxRecDepth 1000000
set_option maxHeartbeats 4000000
noncomputable def X70:Ctx:=⟨Try.f70,[],true⟩
noncomputable def L70_0:Code:=at_ Try.f70 [1,1,1,0,4,5]
def S70_0 (x1:Ty8) (x2:Int) (x3:Int) (x4:Bool) (bV:Int) (cD:Int):St:=⟨mkT 49 [(0,(.sl 3 (List.map aD x1))),(2,(.fn 71 [])),(4,(.hp 0 0)),(8,(.int .i64 (nI x1.length))),(9,(.int .i64 bV)),(10,(.int .i64 cD))],[(.row [(.int .u8 x2),(.int .i64 x3),(.bool x4)])]⟩
def aJL (x1:Ty8) (x2:Int) (x3:Int) (x4:Bool) (v70002_1:Int):St:=⟨mkT 49 [(0,(.sl 3 (List.map aD x1))),(2,(.fn 71 [])),(4,(.hp 0 0)),(8,(.int .i64 (nI x1.length))),(9,(.int .i64 v70002_1))],[(.row [(.int .u8 x2),(.int .i64 x3),(.bool x4)])]⟩
def O70_0 (x1:Ty8) (x2:Int) (x3:Int) (x4:Bool) (y:(Int)):GX:=.st (.exit 0) (aJL x1 x2 x3 x4 y)
theorem i8 (x1:Ty8) (x2:Int) (x3:Int) (x4:Bool) (y:(Int)):∀(k:Nat) (bV:Int) (cD:Int),aW k x1 x2 x3 x4 bV cD=some y→LT Try.prog X70 L70_0 (S70_0 x1 x2 x3 x4 bV cD) (O70_0 x1 x2 x3 x4 y)
 | 0,bV,cD,h=>by cases h
 | k+1,bV,cD,h=>by
  rw[aW] at h
  by_cases cL0:ltI bV cD=true
  · rw[if_pos cL0] at h
    by_cases cL1:inI (conv .i64 (tC .u64 (conv .u64 (aH .i64 bV cD)) 1)) x1.length=true
    · rw[if_pos cL1] at h
      obtain⟨lD,eL2,h⟩:=bsm h
      obtain⟨xJ,eL3,h⟩:=bsm h
      let u1:List Ans:=[dt,.n x1.length,.row [(.int .u8 lD.1),(.int .i64 lD.2.1),(.bool lD.2.2)],.call ⟨true,[]⟩ (.int .i64 xJ) []]
      let w2:List Prf:=[⟨(vS k lD.1 lD.2.1 lD.2.2 x2 x3 x4 _ eL3)⟩,⟨(b7 (e:=aD) eL2 3 0 3 (by decide))⟩,⟨cL1⟩,⟨(aS aD x1)⟩,⟨cL0⟩]
      by_cases cL4:ltI xJ 0=true
      · rw[if_pos cL4] at h
        exact LT.next aE (hs:=⟨[(0,[]),(2,[]),(4,[]),(8,[]),(9,[]),(10,[])],[⟨.tmp 4,[],none⟩],false,[],[]⟩) (es:=none) (u1++[dt]) ([⟨cL4⟩]++w2) (by kernel_rfl) (i8 x1 x2 x3 x4 y k (aH .i64 (conv .i64 (tC .u64 (conv .u64 (aH .i64 bV cD)) 1)) 1) cD h)
      rw[if_neg cL4] at h;replace cL4:=eqf cL4
      exact LT.next aE (hs:=⟨[(0,[]),(2,[]),(4,[]),(8,[]),(9,[]),(10,[])],[⟨.tmp 4,[],none⟩],false,[],[]⟩) (es:=none) (u1++[df]) ([⟨cL4⟩]++w2) (by kernel_rfl) (i8 x1 x2 x3 x4 y k bV (conv .i64 (tC .u64 (conv .u64 (aH .i64 bV cD)) 1)) h)
    rw[if_neg cL1] at h;replace cL1:=eqf cL1
    cases h
  rw[if_neg cL0] at h;replace cL0:=eqf cL0
  obtain rfl:=osi h
  show LT _ _ _ _ (.st (.exit 0) (aJL x1 x2 x3 x4 bV))
  exact LT.done aE (hs:=⟨[],[],false,[],[]⟩) (es:=(some ⟨[(0,[]),(2,[]),(4,[]),(8,[]),(9,[])],[⟨.tmp 4,[],none⟩],false,[],[]⟩)) [df] [⟨cL0⟩] (by kernel_rfl) (fun s h=>by cases h)
theorem uO (k:Nat) (x1:Ty8) (x2:Int) (x3:Int) (x4:Bool) (r:Int × Bool) (h:fP k x1 x2 x3 x4=some r):Tri Try.prog 70 [(.sl 3 (List.map aD x1)),(.agg [(.int .u8 x2),(.int .i64 x3),(.bool x4)]),(.fn 71 [])] [] (.tup [(.int .i64 r.1),(.bool r.2)]) []:=by
 unfold fP at h
 obtain⟨x6,e0,h⟩:=bsm h
 let u3:List Ans:=[.n x1.length,.norm 2 ⟨[(0,[]),(2,[]),(4,[]),(8,[]),(9,[]),(10,[])],[⟨.tmp 4,[],none⟩],false,[],[]⟩,.out (.st .normal (aJL x1 x2 x3 x4 x6))]
 let w4:List Prf:=[⟨(LT.block (i8 x1 x2 x3 x4 _ k 0 (nI x1.length) e0))⟩,⟨(aS aD x1)⟩]
 by_cases c2:ltI x6 (nI x1.length)=true
 · rw[if_pos c2] at h
   by_cases c3:inI x6 x1.length=true
   · rw[if_pos c3] at h
     obtain⟨x7,e4,h⟩:=bsm h
     obtain⟨x8,e5,h⟩:=bsm h
     obtain rfl:=osi h
     exact Tri.of (x:=X70) aE aQD (u3++[dt,dt,dt,dt,.n x1.length,dt,.row [(.int .u8 x7.1),(.int .i64 x7.2.1),(.bool x7.2.2)],dt,dt,.call ⟨true,[]⟩ (.int .i64 x8) [],dt,dt]) ([⟨c2⟩,⟨c2⟩,⟨(vS k x7.1 x7.2.1 x7.2.2 x2 x3 x4 _ e5)⟩,⟨c2⟩,⟨c2⟩,⟨(b7 (e:=aD) e4 3 0 3 (by decide))⟩,⟨c2⟩,⟨c3⟩,⟨(aS aD x1)⟩,⟨c2⟩,⟨c2⟩,⟨c2⟩,⟨c2⟩]++w4) (by kernel_rfl)
   rw[if_neg c3] at h;replace c3:=eqf c3
   cases h
 rw[if_neg c2] at h;replace c2:=eqf c2
 obtain rfl:=osi h
 exact Tri.of (x:=X70) aE aQD (u3++[df,df,df,df,df,df,df,df,df]) ([⟨c2⟩,⟨c2⟩,⟨c2⟩,⟨c2⟩,⟨c2⟩,⟨c2⟩,⟨c2⟩,⟨c2⟩,⟨c2⟩]++w4) (by kernel_rfl)
end Go.Ws

namespace Go.Ws
open Go.Proofs
set_option linter.unusedSimpArgs false
set_option linter.unusedVariables false
set_option maxRecDepth 1000000
set_option maxHeartbeats 4000000
theorem aEG (k:Nat) (x1:Int) (x2:Ty8) (x3:Ty8) (r:Ty8) (h:o5 k x1 x2 x3=some r):Tri Try.prog 72 [(.ref 3 0 0 0 x2.length .virt),(.int .i64 x1),(.ref 3 1 0 0 x3.length .full)] [(.arr 3 (List.map aD x2) 0 0 false),(.arr 3 (List.map aD x3) 0 0 false)] (.ref 3 0 1 0 r.length .full) [(.arr 3 (List.map aD r) 1 1 false),(.arr 3 (List.map aD x3) 0 0 false)]:=ins_ok72 _ h rfl
end Go.Ws

namespace Go.Ws
open Go.Proofs
set_option linter.unusedSimpArgs false
set_option linter.unusedVariables false
set_option maxRecDepth 1000000
set_option maxHeartbeats 4000000
noncomputable def X56:Ctx:=⟨Try.f56,[],true⟩
noncomputable def L56_0:Code:=at_ Try.f56 [1,1,1,0,1,4,5]
def S56_0 (x1:Ty8) (x2:Int) (x3:Int) (x4:Bool) (cE:Int):St:=⟨mkT 82 [(0,(.ref 3 0 0 0 x1.length .virt)),(1,(.int .i64 x2)),(2,(.int .u8 x3)),(3,(.bool x4)),(27,(.ref 3 0 0 0 x1.length .virt)),(28,(.int .i64 (nI x1.length))),(29,(.int .i64 cE))],[(.arr 3 (List.map aD x1) 0 0 false)]⟩
def aLF (x1:Ty8) (x2:Int) (x3:Int) (x4:Bool):St:=⟨mkT 82 [(0,(.ref 3 0 0 0 x1.length .virt)),(1,(.int .i64 x2)),(2,(.int .u8 x3)),(3,(.bool x4))],[(.arr 3 (List.map aD x1) 0 0 false)]⟩
def O56_0 (x1:Ty8) (x2:Int) (x3:Int) (x4:Bool) (y:(Sum (Unit) (Ty8 × Int))):GX:=match y with
 | .inl y=>.st (.exit 0) (aLF x1 x2 x3 x4)
 | .inr y=>.fin (.tup [(.sl 3 (List.map aD y.1)),(.int .i64 y.2)]) []
def A56_0:Ans:=.norm 2 ⟨[(0,[]),(1,[]),(2,[]),(3,[]),(27,[]),(28,[]),(29,[])],[⟨.tmp 0,[],none⟩],false,[],[]⟩
theorem m5 (x1:Ty8) (x2:Int) (x3:Int) (x4:Bool) (y:(Sum (Unit) (Ty8 × Int))):∀(k:Nat) (cE:Int),fG k x1 x2 x3 x4 cE=some y→LT Try.prog X56 L56_0 (S56_0 x1 x2 x3 x4 cE) (O56_0 x1 x2 x3 x4 y)
 | 0,cE,h=>by cases h
 | k+1,cE,h=>by
  rw[fG] at h
  by_cases cL0:ltI cE (nI x1.length)=true
  · rw[if_pos cL0] at h
    by_cases cL1:inI cE x1.length=true
    · rw[if_pos cL1] at h
      obtain⟨jE,eL2,h⟩:=bsm h
      let w2:List Prf:=[⟨(b7 (e:=aD) eL2 3 0 3 (by decide))⟩,⟨cL1⟩,⟨cL0⟩]
      by_cases cL3:eqI jE.1 x3=true
      · rw[if_pos cL3] at h
        let u3:List Ans:=[dt,.row [(.int .u8 jE.1),(.int .i64 jE.2.1),(.bool jE.2.2)],dt,dt,dt,dt,dt]
        let w4:List Prf:=[⟨cL3⟩,⟨cL3⟩,⟨cL3⟩,⟨cL3⟩,⟨cL3⟩]++w2
        by_cases cL4:eqI jE.2.1 x2=true
        · rw[if_pos cL4] at h
          exact LT.next aE (hs:=⟨[(0,[]),(1,[]),(2,[]),(3,[]),(27,[]),(28,[]),(29,[])],[⟨.tmp 0,[],none⟩],false,[],[]⟩) (es:=none) (u3++[df,df,df,df,df]) ([⟨rF⟩,⟨(nF cL4)⟩,⟨(nF cL4)⟩,⟨(nF cL4)⟩,⟨(nF cL4)⟩]++w4) (by kernel_rfl) (m5 x1 x2 x3 x4 y k (aH .i64 cE 1) h)
        rw[if_neg cL4] at h;replace cL4:=eqf cL4
        by_cases cL5:x4=true
        · rw[if_pos cL5] at h
          obtain rfl:=osi h
          show LT _ _ _ _ (.fin (.tup [(.sl 3 (List.map aD ((x1,9).1))),(.int .i64 ((x1,9).2))]) [])
          exact LT.done aE (hs:=⟨[],[],false,[],[]⟩) (es:=none) (u3++[dt,dt,dt,dt,dt,dt,dt,dt,.rows (List.map aD x1)]) ([⟨(b8 aD (l:=x1) (n:=x1.length) rfl)⟩,⟨(eT aD (Nat.le_refl x1.length):0+x1.length≤(List.map aD x1).length)⟩,⟨rT⟩,⟨(nT cL4)⟩,⟨cL5⟩,⟨(nT cL4)⟩,⟨cL5⟩,⟨cL5⟩,⟨(nT cL4)⟩,⟨(nT cL4)⟩]++w4) (by kernel_rfl) (fun s h=>by cases h)
        rw[if_neg cL5] at h;replace cL5:=eqf cL5
        let w8:List Prf:=[⟨(nT cL4)⟩,⟨cL5⟩,⟨(nT cL4)⟩,⟨cL5⟩,⟨cL5⟩,⟨(nT cL4)⟩,⟨(nT cL4)⟩]++w4
        by_cases cL6:jE.2.2=true
        · rw[if_pos cL6] at h
          obtain rfl:=osi h
          show LT _ _ _ _ (.fin (.tup [(.sl 3 (List.map aD ((x1,9).1))),(.int .i64 ((x1,9).2))]) [])
          exact LT.done aE (hs:=⟨[],[],false,[],[]⟩) (es:=none) (u3++[dt,dt,df,df,dt,df,dt,dt,.rows (List.map aD x1)]) ([⟨(b8 aD (l:=x1) (n:=x1.length) rfl)⟩,⟨(eT aD (Nat.le_refl x1.length):0+x1.length≤(List.map aD x1).length)⟩,⟨cL6⟩]++w8) (by kernel_rfl) (fun s h=>by cases h)
        rw[if_neg cL6] at h;replace cL6:=eqf cL6
        exact LT.next aE (hs:=⟨[(0,[]),(1,[]),(2,[]),(3,[]),(27,[]),(28,[]),(29,[])],[⟨.tmp 0,[],none⟩],false,[],[]⟩) (es:=none) (u3++[dt,dt,df,df,dt,df,dt,df]) ([⟨cL6⟩]++w8) (by kernel_rfl) (m5 x1 x2 x3 x4 y k (aH .i64 cE 1) h)
      rw[if_neg cL3] at h;replace cL3:=eqf cL3
      exact LT.next aE (hs:=⟨[(0,[]),(1,[]),(2,[]),(3,[]),(27,[]),(28,[]),(29,[])],[⟨.tmp 0,[],none⟩],false,[],[]⟩) (es:=none) [dt,.row [(.int .u8 jE.1),(.int .i64 jE.2.1),(.bool jE.2.2)],df,df,df,df,df,df,df,df,df,df] ([⟨rF⟩,⟨rF⟩,⟨rF⟩,⟨rF⟩,⟨rF⟩,⟨cL3⟩,⟨cL3⟩,⟨cL3⟩,⟨cL3⟩,⟨cL3⟩]++w2) (by kernel_rfl) (m5 x1 x2 x3 x4 y k (aH .i64 cE 1) h)
    rw[if_neg cL1] at h;replace cL1:=eqf cL1
    cases h
  rw[if_neg cL0] at h;replace cL0:=eqf cL0
  obtain rfl:=osi h
  show LT _ _ _ _ (.st (.exit 0) (aLF x1 x2 x3 x4))
  exact LT.done aE (hs:=⟨[],[],false,[],[]⟩) (es:=(some ⟨[(0,[]),(1,[]),(2,[]),(3,[])],[⟨.tmp 0,[],none⟩],false,[],[]⟩)) [df] [⟨cL0⟩] (by kernel_rfl) (fun s h=>by cases h)
theorem aCE (k:Nat) (x1:Ty8) (x2:Int) (x3:Int) (x4:Bool) (r:Ty8 × Int) (h:rV k x1 x2 x3 x4=some r):Tri Try.prog 56 [(.sl 3 (List.map aD x1)),(.int .i64 x2),(.int .u8 x3),(.bool x4)] [] (.tup [(.sl 3 (List.map aD r.1)),(.int .i64 r.2)]) []:=by
 unfold rV at h
 obtain⟨x5,e0,h⟩:=bsm h
 obtain⟨x6,e1,h⟩:=bsm h
 let u9:List Ans:=[.call ⟨true,[]⟩ (.ref 3 0 0 0 x1.length .virt) [(.arr 3 (List.map aD x1) 0 0 false)],.call ⟨true,[]⟩ (.bool x6) [],.rows (List.map aD x1)]
 let w10:List Prf:=[⟨(aH7 k x1 _ e1)⟩,⟨(b8 aD (l:=x1) (n:=x1.length) rfl)⟩,⟨(eT aD (Nat.le_refl x1.length):0+x1.length≤(List.map aD x1).length)⟩,⟨(yM k x1 _ e0)⟩]
 by_cases c2:x6=true
 · rw[if_pos c2] at h
   let u11:List Ans:=u9++[df,df,df,.call ⟨true,[]⟩ (.bool (iE x2 x3)) [],df,df]
   let w12:List Prf:=[⟨(nF c2)⟩,⟨(nF c2)⟩,⟨(aFE x2 x3)⟩,⟨(nF c2)⟩,⟨(nF c2)⟩,⟨(nF c2)⟩]++w10
   by_cases c3:(iE x2 x3)=true
   · rw[if_pos c3] at h
     obtain⟨x7,e4,h⟩:=bsm h
     cases x7 with
     | inl x8 =>
      simp only[Sum.elim_inl] at h
      obtain⟨x9,e6,h⟩:=bsm h
      let u15:List Ans:=u11++[df,A56_0,.out (.st .normal (aLF x1 x2 x3 x4)),.call ⟨true,[]⟩ (.tup [(.int .i64 x9.1),(.bool x9.2)]) [],.rows (List.map aD x1)]
      let w16:List Prf:=[⟨(uO k x1 x3 x2 x4 _ e6)⟩,⟨(b8 aD (l:=x1) (n:=x1.length) rfl)⟩,⟨(eT aD (Nat.le_refl x1.length):0+x1.length≤(List.map aD x1).length)⟩,⟨(LT.block (m5 x1 x2 x3 x4 _ k 0 e4))⟩,⟨(nF c3)⟩]++w12
      by_cases c7:x9.2=true
      · rw[if_pos c7] at h
        by_cases c8:inI x9.1 x1.length=true
        · rw[if_pos c8] at h
          obtain⟨x10,e9,h⟩:=bsm h
          let w18:List Prf:=[⟨(b7 (e:=aD) e9 3 2 1 (by decide))⟩,⟨c8⟩,⟨(nF c7)⟩]++w16
          by_cases c10:x10.2.2=true
          · rw[if_pos c10] at h
            obtain rfl:=osi h
            exact Tri.of (x:=X56) aE aAH (u15++[df,.row [(.bool x10.2.2)],dt,dt,.rows (List.map aD (List.set x1 (tN x9.1) (x10.1,x10.2.1,true))),.rows (List.map aD (List.set x1 (tN x9.1) (x10.1,x10.2.1,true)))]) ([⟨(b8 aD (l:=(List.set x1 (tN x9.1) (x10.1,x10.2.1,true))) (n:=x1.length) (by simp:x1.length=List.length (α:=Int × Int × Bool) (List.set x1 (tN x9.1) (x10.1,x10.2.1,true))))⟩,⟨(eT aD (Nat.le_of_eq (by simp:x1.length=List.length (α:=Int × Int × Bool) (List.set x1 (tN x9.1) (x10.1,x10.2.1,true)))))⟩,⟨(wA (e:=aD) e9 2 [(.bool true)] (x10.1,x10.2.1,true) rfl)⟩,⟨c8⟩,⟨c10⟩,⟨c10⟩]++w18) (by kernel_rfl)
          rw[if_neg c10] at h;replace c10:=eqf c10
          obtain rfl:=osi h
          exact Tri.of (x:=X56) aE aAH (u15++[df,.row [(.bool x10.2.2)],df,df,.rows (List.map aD (List.set x1 (tN x9.1) (x10.1,x10.2.1,x4))),.rows (List.map aD (List.set x1 (tN x9.1) (x10.1,x10.2.1,x4)))]) ([⟨(b8 aD (l:=(List.set x1 (tN x9.1) (x10.1,x10.2.1,x4))) (n:=x1.length) (by simp:x1.length=List.length (α:=Int × Int × Bool) (List.set x1 (tN x9.1) (x10.1,x10.2.1,x4))))⟩,⟨(eT aD (Nat.le_of_eq (by simp:x1.length=List.length (α:=Int × Int × Bool) (List.set x1 (tN x9.1) (x10.1,x10.2.1,x4)))))⟩,⟨(wA (e:=aD) e9 2 [(.bool x4)] (x10.1,x10.2.1,x4) rfl)⟩,⟨c8⟩,⟨c10⟩,⟨c10⟩]++w18) (by kernel_rfl)
        rw[if_neg c8] at h;replace c8:=eqf c8
        cases h
      rw[if_neg c7] at h;replace c7:=eqf c7
      obtain⟨x10,e8,h⟩:=bsm h
      obtain rfl:=osi h
      exact Tri.of (x:=X56) aE aAH (u15++[dt,.call ⟨false,[]⟩ (.ref 3 0 1 0 x10.length .full) [(.arr 3 (List.map aD x10) 1 1 false),(.arr 3 (List.map aD [(x3,x2,x4)]) 0 0 false)],.rows (List.map aD x10)]) ([⟨(b8 aD (l:=x10) (n:=x10.length) rfl)⟩,⟨(eT aD (Nat.le_refl x10.length):0+x10.length≤(List.map aD x10).length)⟩,⟨(aEG k x9.1 x1 [(x3,x2,x4)] _ e8)⟩,⟨(nT c7)⟩]++w16) (by kernel_rfl)
     | inr x8 =>
      simp only[Sum.elim_inr] at h
      obtain rfl:=osi h
      exact Tri.of (x:=X56) aE aAH (u11++[df,A56_0,.out (.fin (.tup [(.sl 3 (List.map aD x8.1)),(.int .i64 x8.2)]) [])]) ([⟨(LT.blockFin (id:=0) (m5 x1 x2 x3 x4 _ k 0 e4))⟩,⟨(nF c3)⟩]++w12) (by kernel_rfl)
   rw[if_neg c3] at h;replace c3:=eqf c3
   obtain rfl:=osi h
   exact Tri.of (x:=X56) aE aAH (u11++[dt,.rows (List.map aD x1)]) ([⟨(b8 aD (l:=x1) (n:=x1.length) rfl)⟩,⟨(eT aD (Nat.le_refl x1.length):0+x1.length≤(List.map aD x1).length)⟩,⟨(nT c3)⟩]++w12) (by kernel_rfl)
 rw[if_neg c2] at h;replace c2:=eqf c2
 obtain rfl:=osi h
 exact Tri.of (x:=X56) aE aAH (u9++[dt,dt,dt,dt,dt,dt,.rows (List.map aD x1)]) ([⟨(b8 aD (l:=x1) (n:=x1.length) rfl)⟩,⟨(eT aD (Nat.le_refl x1.length):0+x1.length≤(List.map aD x1).length)⟩,⟨rT⟩,⟨(nT c2)⟩,⟨(nT c2)⟩,⟨(nT c2)⟩,⟨(nT c2)⟩,⟨(nT c2)⟩]++w10) (by kernel_rfl)
end Go.Ws

namespace Go.Ws
open Go.Proofs
set_option linter.unusedSimpArgs false
set_option linter.unusedVariables false
set_option maxRecDepth 1000000
set_option maxHeartbeats 4000000
noncomputable def X36_1001:Ctx:=⟨Try.f36,[],false⟩
theorem wZ (k:Nat) (x1:aG) (r:Unit) (h:gX k x1=some r):Tri Try.prog 36 [(.inl 2 (List.map aB x1))] [] (.ref 2 0 0 0 x1.length .virt) [(.arr 2 (List.map aB x1) 0 0 false)]:=by
 unfold gX at h
 by_cases c0:cR (x1.length*16)=true
 · rw[if_pos c0] at h
   obtain rfl:=osi h
   exact Tri.of (x:=X36_1001) aE aPR [df,.n x1.length,.norm 0 ⟨[(2,[])],[⟨.tmp 2,[],some 2⟩],false,[],[]⟩,.n x1.length,.rows (List.map aB x1)] [⟨(fF aB (l:=x1) (n:=x1.length) rfl)⟩,⟨(rfl:x1.length=x1.length)⟩,⟨(zle x1.length)⟩,⟨c0⟩,⟨(aS aB x1)⟩,⟨rF⟩] (by kernel_rfl)
 rw[if_neg c0] at h;replace c0:=eqf c0
 cases h
end Go.Ws

namespace Go.Ws
open Go.Proofs
set_option linter.unusedSimpArgs false
set_option linter.unusedVariables false
set_option maxRecDepth 1000000
set_option maxHeartbeats 4000000
noncomputable def X36_1002:Ctx:=⟨Try.f36,[],false⟩
theorem xA:Tri Try.prog 36 [.nils] [] (.ref 2 0 0 0 0 .virt) [(.arr 2 (List.map aB []) 0 0 false)]:=by
 obtain⟨r,h⟩:∃r,oB=r:=⟨_,rfl⟩
 try rw[h]
 unfold oB at h
 obtain rfl:=h
 exact Tri.of (x:=X36_1002) aE aPR [dt,.norm 0 ⟨[(2,[])],[⟨.tmp 2,[],some 2⟩],false,[],[]⟩,.n 0,.rows (List.map aB [])] [⟨(fF aB (l:=[]) (n:=0) rfl)⟩,⟨(rfl:0=0)⟩,⟨(zle 0)⟩,⟨rT⟩] (by kernel_rfl)
end Go.Ws

namespace Go.Ws
open Go.Proofs
set_option linter.unusedSimpArgs false
set_option linter.unusedVariables false
set_option maxRecDepth 1000000
set_option maxHeartbeats 4000000
theorem gU (k:Nat) (x1:aG) (r:Unit) (h:eY k x1=some r):Tri Try.prog 36 [(.sl 2 (List.map aB x1))] [] (.ref 2 0 0 0 x1.length .virt) [(.arr 2 (List.map aB x1) 0 0 false)]:=by
 refine Tri.slOf (wZ k x1 r h) fun h0=>?_
 have hx:x1=[]:=by simpa using h0
 subst hx
 exact xA
end Go.Ws

namespace Go.Ws
open Go.Proofs
set_option linter.unusedSimpArgs false
set_option linter.unusedVariables false
set_option maxRecDepth 1000000
set_option maxHeartbeats 4000000
noncomputable def X73:Ctx:=⟨Try.f73,[],false⟩
theorem aES (k:Nat) (x1:Int) (x2:aG) (x3:Bool) (x4:Int) (r:Unit) (h:nJ k x1 x2 x3 x4=some r):Tri Try.prog 73 [(.agg [(.int .i64 x1),(.sl 2 (List.map aB x2)),(.bool x3),(.int .i64 x4)])] [] (.agg [(.int .i64 x1),(.ref 2 0 0 0 x2.length .virt),(.bool x3),(.int .i64 x4)]) [(.arr 2 (List.map aB x2) 0 0 false)]:=by
 unfold nJ at h
 obtain⟨x5,e0,h⟩:=bsm h
 obtain rfl:=osi h
 exact Tri.of (x:=X73) aE aPS [.call ⟨true,[]⟩ (.ref 2 0 0 0 x2.length .virt) [(.arr 2 (List.map aB x2) 0 0 false)],.norm 0 ⟨[(2,[])],[⟨.tmp 2,[],none⟩,⟨.cell 0 1,[],none⟩],false,[],[]⟩] [⟨(gU k x2 _ e0)⟩] (by kernel_rfl)
end Go.Ws

namespace Go.Ws
open Go.Proofs
set_option linter.unusedSimpArgs false
set_option linter.unusedVariables false
set_option maxRecDepth 1000000
set_option maxHeartbeats 4000000
noncomputable def X75:Ctx:=⟨Try.f75,[],true⟩
theorem aDU (x1:Int) (x2:Int):Tri Try.prog 75 [(.agg [(.int .u8 x1),(.int .i64 x2)])] [] (.bool (iI x1 x2)) []:=by
 obtain⟨r,h⟩:∃r,iI x1 x2=r:=⟨_,rfl⟩
 try rw[h]
 unfold iI at h
 obtain rfl:=h
 exact Tri.of (x:=X75) aE facts75 [] [] (by kernel_rfl)
end Go.Ws

namespace Go.Ws
open Go.Proofs
set_option linter.unusedSimpArgs false
set_option linter.unusedVariables false
set_option maxRecDepth 1000000
set_option maxHeartbeats 4000000
noncomputable def X50:Ctx:=⟨Try.f50,[],true⟩
noncomputable def L50_0:Code:=at_ Try.f50 [1,0,1,4,5]
def S50_0 (x1:aG) (cM:Int):St:=⟨mkT 19 [(0,(.sl 2 (List.map aB x1))),(1,(.fn 75 [])),(7,(.int .i64 (nI x1.length))),(8,(.int .i64 cM))],[]⟩
def aJW:St:=⟨mkT 19 [],[]⟩
def O50_0 (x1:aG) (y:(Sum (Unit) (Int))):GX:=match y with
 | .inl y=>.st (.exit 0) (aJW)
 | .inr y=>.fin (.int .i64 y) []
theorem mO (x1:aG) (y:(Sum (Unit) (Int))):∀(k:Nat) (cM:Int),cK k x1 cM=some y→LT Try.prog X50 L50_0 (S50_0 x1 cM) (O50_0 x1 y)
 | 0,cM,h=>by cases h
 | k+1,cM,h=>by
  rw[cK] at h
  by_cases cL0:ltI cM (nI x1.length)=true
  · rw[if_pos cL0] at h
    by_cases cL1:inI cM x1.length=true
    · rw[if_pos cL1] at h
      obtain⟨lE,eL2,h⟩:=bsm h
      let u1:List Ans:=[dt,.n x1.length,.row [(.int .u8 lE.1),(.int .i64 lE.2)],.call ⟨true,[]⟩ (.bool (iI lE.1 lE.2)) []]
      let w2:List Prf:=[⟨(aDU lE.1 lE.2)⟩,⟨(b7 (e:=aB) eL2 2 0 2 (by decide))⟩,⟨cL1⟩,⟨(aS aB x1)⟩,⟨cL0⟩]
      by_cases cL3:(iI lE.1 lE.2)=true
      · rw[if_pos cL3] at h
        obtain rfl:=osi h
        show LT _ _ _ _ (.fin (.int .i64 cM) [])
        exact LT.done aE (hs:=⟨[],[],false,[],[]⟩) (es:=none) (u1++[dt]) ([⟨cL3⟩]++w2) (by kernel_rfl) (fun s h=>by cases h)
      rw[if_neg cL3] at h;replace cL3:=eqf cL3
      exact LT.next aE (hs:=⟨[(0,[]),(1,[]),(7,[]),(8,[])],[],false,[],[]⟩) (es:=none) (u1++[df]) ([⟨cL3⟩]++w2) (by kernel_rfl) (mO x1 y k (aH .i64 cM 1) h)
    rw[if_neg cL1] at h;replace cL1:=eqf cL1
    cases h
  rw[if_neg cL0] at h;replace cL0:=eqf cL0
  obtain rfl:=osi h
  show LT _ _ _ _ (.st (.exit 0) (aJW))
  exact LT.done aE (hs:=⟨[],[],false,[],[]⟩) (es:=(some ⟨[],[],false,[],[]⟩)) [df] [⟨cL0⟩] (by kernel_rfl) (fun s h=>by cases h)
theorem aA2 (k:Nat) (x1:aG) (r:Int) (h:j7 k x1=some r):Tri Try.prog 50 [(.sl 2 (List.map aB x1)),(.fn 75 [])] [] (.int .i64 r) []:=by
 unfold j7 at h
 let u3:List Ans:=[.n x1.length,.norm 2 ⟨[(0,[]),(1,[]),(7,[]),(8,[])],[],false,[],[]⟩]
 obtain⟨x2,e0,h⟩:=bsm h
 cases x2 with
 | inl x3 =>
  simp only[Sum.elim_inl] at h
  obtain rfl:=osi h
  exact Tri.of (x:=X50) aE aF4 (u3++[.out (.st .normal (aJW))]) [⟨(LT.block (mO x1 _ k 0 e0))⟩,⟨(aS aB x1)⟩] (by kernel_rfl)
 | inr x3 =>
  simp only[Sum.elim_inr] at h
  obtain rfl:=osi h
  exact Tri.of (x:=X50) aE aF4 (u3++[.out (.fin (.int .i64 x3) [])]) [⟨(LT.blockFin (id:=0) (mO x1 _ k 0 e0))⟩,⟨(aS aB x1)⟩] (by kernel_rfl)
end Go.Ws

namespace Go.Ws
open Go.Proofs
set_option linter.unusedSimpArgs false
set_option linter.unusedVariables false
set_option maxRecDepth 1000000
set_option maxHeartbeats 4000000
noncomputable def X42:Ctx:=⟨Try.f42,[],true⟩
theorem yA (k:Nat) (x1:aG) (r:Bool) (h:iJ k x1=some r):Tri Try.prog 42 [(.sl 2 (List.map aB x1)),(.fn 75 [])] [] (.bool r) []:=by
 unfold iJ at h
 obtain⟨x2,e0,h⟩:=bsm h
 obtain rfl:=osi h
 exact Tri.of (x:=X42) aE aOY [.call ⟨true,[]⟩ (.int .i64 x2) []] [⟨(aA2 k x1 _ e0)⟩] (by kernel_rfl)
end Go.Ws

namespace Go.Ws
open Go.Proofs
set_option linter.unusedSimpArgs false
set_option linter.unusedVariables false
set_option maxRecDepth 1000000
set_option maxHeartbeats 4000000
noncomputable def X74:Ctx:=⟨Try.f74,[],true⟩
theorem sF (k:Nat) (x1:Int) (x2:aG) (x3:Bool) (x4:Int) (r:Bool) (h:mI k x1 x2 x3 x4=some r):Tri Try.prog 74 [(.agg [(.int .i64 x1),(.sl 2 (List.map aB x2)),(.bool x3),(.int .i64 x4)])] [] (.bool r) []:=by
 unfold mI at h
 by_cases c0:ltI x1 0=true
 · rw[if_pos c0] at h
   obtain rfl:=osi h
   exact Tri.of (x:=X74) aE pO [dt,dt,dt,dt,dt,dt,dt,dt,dt,dt,dt,dt,dt,dt] [⟨rT⟩,⟨rT⟩,⟨rT⟩,⟨rT⟩,⟨rT⟩,⟨rT⟩,⟨rT⟩,⟨rT⟩,⟨rT⟩,⟨rT⟩,⟨c0⟩,⟨c0⟩,⟨c0⟩,⟨c0⟩] (by kernel_rfl)
 rw[if_neg c0] at h;replace c0:=eqf c0
 by_cases c1:ltI 3 x1=true
 · rw[if_pos c1] at h
   obtain rfl:=osi h
   exact Tri.of (x:=X74) aE pO [df,df,df,df,dt,dt,dt,dt,dt,dt,dt,dt,dt,dt] [⟨rT⟩,⟨rT⟩,⟨rT⟩,⟨rT⟩,⟨rT⟩,⟨c1⟩,⟨c1⟩,⟨c1⟩,⟨c1⟩,⟨c1⟩,⟨c0⟩,⟨c0⟩,⟨c0⟩,⟨c0⟩] (by kernel_rfl)
 rw[if_neg c1] at h;replace c1:=eqf c1
 let u3:List Ans:=[df,df,df,df,df,df,df,.n x2.length,df,df]
 let w4:List Prf:=[⟨c1⟩,⟨c1⟩,⟨(aS aB x2)⟩,⟨c1⟩,⟨c1⟩,⟨c1⟩,⟨c0⟩,⟨c0⟩,⟨c0⟩,⟨c0⟩]
 by_cases c2:ltI 50 (nI x2.length)=true
 · rw[if_pos c2] at h
   obtain rfl:=osi h
   exact Tri.of (x:=X74) aE pO (u3++[dt,dt,dt,dt,dt]) ([⟨rT⟩,⟨c2⟩,⟨c2⟩,⟨c2⟩,⟨c2⟩]++w4) (by kernel_rfl)
 rw[if_neg c2] at h;replace c2:=eqf c2
 obtain⟨x5,e3,h⟩:=bsm h
 let u5:List Ans:=u3++[df,df,df,.call ⟨true,[]⟩ (.bool x5) [],df]
 let w6:List Prf:=[⟨c2⟩,⟨(yA k x2 _ e3)⟩,⟨c2⟩,⟨c2⟩,⟨c2⟩]++w4
 by_cases c4:x5=true
 · rw[if_pos c4] at h
   obtain rfl:=osi h
   exact Tri.of (x:=X74) aE pO (u5++[dt]) ([⟨c4⟩]++w6) (by kernel_rfl)
 rw[if_neg c4] at h;replace c4:=eqf c4
 by_cases c5:eqI x4 1=true
 · rw[if_pos c5] at h
   by_cases c6:eqI x1 3=true
   · rw[if_pos c6] at h
     obtain rfl:=osi h
     exact Tri.of (x:=X74) aE pO (u5++[df,dt,dt,dt,dt,dt]) ([⟨c6⟩,⟨c5⟩,⟨c5⟩,⟨c5⟩,⟨c5⟩,⟨c4⟩]++w6) (by kernel_rfl)
   rw[if_neg c6] at h;replace c6:=eqf c6
   let w12:List Prf:=[⟨c6⟩,⟨c5⟩,⟨c5⟩,⟨c5⟩,⟨c5⟩,⟨c4⟩]++w6
   by_cases c7:eqI x4 0=true
   · rw[if_pos c7] at h
     let u13:List Ans:=u5++[df,dt,dt,dt,dt,df,dt,dt,dt,dt]
     by_cases c8:x3=true
     · rw[if_pos c8] at h
       obtain rfl:=osi h
       exact Tri.of (x:=X74) aE pO (u13++[df,df,df,dt,df,dt]) ([⟨c7⟩,⟨(nF c8)⟩,⟨c7⟩,⟨(nF c8)⟩,⟨(nF c8)⟩,⟨(nF c8)⟩,⟨c7⟩,⟨c7⟩,⟨c7⟩,⟨c7⟩]++w12) (by kernel_rfl)
     rw[if_neg c8] at h;replace c8:=eqf c8
     obtain rfl:=osi h
     exact Tri.of (x:=X74) aE pO (u13++[dt,dt,dt,dt,dt,dt]) ([⟨c7⟩,⟨(nT c8)⟩,⟨c7⟩,⟨(nT c8)⟩,⟨(nT c8)⟩,⟨(nT c8)⟩,⟨c7⟩,⟨c7⟩,⟨c7⟩,⟨c7⟩]++w12) (by kernel_rfl)
   rw[if_neg c7] at h;replace c7:=eqf c7
   obtain rfl:=osi h
   exact Tri.of (x:=X74) aE pO (u5++[df,dt,dt,dt,dt,df,df,df,df,df,df,df]) ([⟨c7⟩,⟨c7⟩,⟨c7⟩,⟨c7⟩,⟨c7⟩,⟨c7⟩]++w12) (by kernel_rfl)
 rw[if_neg c5] at h;replace c5:=eqf c5
 by_cases c6:eqI x1 3=true
 · rw[if_pos c6] at h
   obtain rfl:=osi h
   exact Tri.of (x:=X74) aE pO (u5++[df,df,df,df,df,dt]) ([⟨c6⟩,⟨c5⟩,⟨c5⟩,⟨c5⟩,⟨c5⟩,⟨c4⟩]++w6) (by kernel_rfl)
 rw[if_neg c6] at h;replace c6:=eqf c6
 let w18:List Prf:=[⟨c6⟩,⟨c5⟩,⟨c5⟩,⟨c5⟩,⟨c5⟩,⟨c4⟩]++w6
 by_cases c7:eqI x4 0=true
 · rw[if_pos c7] at h
   let u19:List Ans:=u5++[df,df,df,df,df,df,dt,dt,dt,dt]
   by_cases c8:x3=true
   · rw[if_pos c8] at h
     obtain rfl:=osi h
     exact Tri.of (x:=X74) aE pO (u19++[df,df,df,dt,df,dt]) ([⟨c7⟩,⟨(nF c8)⟩,⟨c7⟩,⟨(nF c8)⟩,⟨(nF c8)⟩,⟨(nF c8)⟩,⟨c7⟩,⟨c7⟩,⟨c7⟩,⟨c7⟩]++w18) (by kernel_rfl)
   rw[if_neg c8] at h;replace c8:=eqf c8
   obtain rfl:=osi h
   exact Tri.of (x:=X74) aE pO (u19++[dt,dt,dt,dt,dt,dt]) ([⟨c7⟩,⟨(nT c8)⟩,⟨c7⟩,⟨(nT c8)⟩,⟨(nT c8)⟩,⟨(nT c8)⟩,⟨c7⟩,⟨c7⟩,⟨c7⟩,⟨c7⟩]++w18) (by kernel_rfl)
 rw[if_neg c7] at h;replace c7:=eqf c7
 obtain rfl:=osi h
 exact Tri.of (x:=X74) aE pO (u5++[df,df,df,df,df,df,df,df,df,df,df,df]) ([⟨c7⟩,⟨c7⟩,⟨c7⟩,⟨c7⟩,⟨c7⟩,⟨c7⟩]++w18) (by kernel_rfl)
end Go.Ws

namespace Go.Ws
open Go.Proofs
set_option linter.unusedSimpArgs false
set_option linter.unusedVariables false
set_option maxRecDepth 1000000
set_option maxHeartbeats 4000000
noncomputable def X57:Ctx:=⟨Try.f57,[],true⟩
theorem aE5 (k:Nat) (x1:Int) (x2:aG) (x3:Bool) (x4:Int) (x5:Int) (x6:Int) (r:Int × aG × Bool × Int × Int) (h:uR k x1 x2 x3 x4 x5 x6=some r):Tri Try.prog 57 [(.agg [(.int .i64 x1),(.sl 2 (List.map aB x2)),(.bool x3),(.int .i64 x4)]),(.agg [(.int .u8 x5),(.int .i64 x6)])] [] (.tup [(.agg [(.int .i64 r.1),(.sl 2 (List.map aB r.2.1)),(.bool r.2.2.1),(.int .i64 r.2.2.2.1)]),(.int .i64 r.2.2.2.2)]) []:=by
 unfold uR at h
 obtain⟨x7,e0,h⟩:=bsm h
 obtain⟨x8,e1,h⟩:=bsm h
 let u1:List Ans:=[.call ⟨true,[]⟩ (.agg [(.int .i64 x1),(.ref 2 0 0 0 x2.length .virt),(.bool x3),(.int .i64 x4)]) [(.arr 2 (List.map aB x2) 0 0 false)],.call ⟨true,[]⟩ (.bool x8) [],.rows (List.map aB x2)]
 let w2:List Prf:=[⟨(sF k x1 x2 x3 x4 _ e1)⟩,⟨(b8 aB (l:=x2) (n:=x2.length) rfl)⟩,⟨(eT aB (Nat.le_refl x2.length):0+x2.length≤(List.map aB x2).length)⟩,⟨(aES k x1 x2 x3 x4 _ e0)⟩]
 by_cases c2:x8=true
 · rw[if_pos c2] at h
   let u3:List Ans:=u1++[df,df,.call ⟨true,[]⟩ (.bool (iI x5 x6)) [],df]
   let w4:List Prf:=[⟨(nF c2)⟩,⟨(aDU x5 x6)⟩,⟨(nF c2)⟩,⟨(nF c2)⟩]++w2
   by_cases c3:(iI x5 x6)=true
   · rw[if_pos c3] at h
     obtain rfl:=osi h
     exact Tri.of (x:=X57) aE aB9 (u3++[dt,.rows (List.map aB x2)]) ([⟨(b8 aB (l:=x2) (n:=x2.length) rfl)⟩,⟨(eT aB (Nat.le_refl x2.length):0+x2.length≤(List.map aB x2).length)⟩,⟨c3⟩]++w4) (by kernel_rfl)
   rw[if_neg c3] at h;replace c3:=eqf c3
   by_cases c4:eqI x1 0=true
   · rw[if_pos c4] at h
     by_cases c5:ltI (nI x2.length) 50=true
     · rw[if_pos c5] at h
       by_cases c6:cR (((x2++[(x5,x6)]).length)*16)=true
       · rw[if_pos c6] at h
         obtain rfl:=osi h
         exact Tri.of (x:=X57) aE aB9 (u3++[df,df,df,.rows (List.map aB [(x5,x6)]),.n ((x2++[(x5,x6)]).length),.n x2.length,dt,.rows (List.map aB (x2++[(x5,x6)])),.rows (List.map aB (x2++[(x5,x6)]))]) ([⟨(b8 aB (l:=(x2++[(x5,x6)])) (n:=((x2++[(x5,x6)]).length)) rfl)⟩,⟨(eT aB (Nat.le_refl ((x2++[(x5,x6)]).length)):0+(x2++[(x5,x6)]).length≤(List.map aB (x2++[(x5,x6)])).length)⟩,⟨(aAV aB x2 [(x5,x6)])⟩,⟨(wT x2.length)⟩,⟨(aS aB x2)⟩,⟨c6⟩,⟨(by simp only[wl,List.length_map,List.map_nil,List.map_cons]<;>omega:x2.length+(List.map aB [(x5,x6)]).length=(x2++[(x5,x6)]).length)⟩,⟨(b8 aB (l:=[(x5,x6)]) (n:=1) rfl)⟩,⟨(eT aB (Nat.le_refl 1):0+1≤(List.map aB [(x5,x6)]).length)⟩,⟨(nF c5)⟩,⟨(nF c4)⟩,⟨c3⟩]++w4) (by kernel_rfl)
       rw[if_neg c6] at h;replace c6:=eqf c6
       cases h
     rw[if_neg c5] at h;replace c5:=eqf c5
     obtain rfl:=osi h
     exact Tri.of (x:=X57) aE aB9 (u3++[df,df,dt,.rows (List.map aB x2)]) ([⟨(b8 aB (l:=x2) (n:=x2.length) rfl)⟩,⟨(eT aB (Nat.le_refl x2.length):0+x2.length≤(List.map aB x2).length)⟩,⟨(nT c5)⟩,⟨(nF c4)⟩,⟨c3⟩]++w4) (by kernel_rfl)
   rw[if_neg c4] at h;replace c4:=eqf c4
   obtain rfl:=osi h
   exact Tri.of (x:=X57) aE aB9 (u3++[df,dt,.rows (List.map aB x2)]) ([⟨(b8 aB (l:=x2) (n:=x2.length) rfl)⟩,⟨(eT aB (Nat.le_refl x2.length):0+x2.length≤(List.map aB x2).length)⟩,⟨(nT c4)⟩,⟨c3⟩]++w4) (by kernel_rfl)
 rw[if_neg c2] at h;replace c2:=eqf c2
 obtain rfl:=osi h
 exact Tri.of (x:=X57) aE aB9 (u1++[dt,dt,dt,dt,.rows (List.map aB x2)]) ([⟨(b8 aB (l:=x2) (n:=x2.length) rfl)⟩,⟨(eT aB (Nat.le_refl x2.length):0+x2.length≤(List.map aB x2).length)⟩,⟨rT⟩,⟨(nT c2)⟩,⟨(nT c2)⟩,⟨(nT c2)⟩]++w2) (by kernel_rfl)
end Go.Ws

namespace Go.Ws
open Go.Proofs
set_option linter.unusedSimpArgs false
set_option linter.unusedVariables false
set_option maxRecDepth 1000000
set_option maxHeartbeats 4000000
noncomputable def X37:Ctx:=⟨Try.f37,[],true⟩
noncomputable def L37_0:Code:=at_ Try.f37 [1,0,1,4,5]
def S37_0 (x1:aG) (x2:Int) (dB:Int):St:=⟨mkT 20 [(1,(.int .u8 x2)),(7,(.sl 2 (List.map aB x1))),(8,(.int .i64 (nI x1.length))),(9,(.int .i64 dB))],[]⟩
def aKU:St:=⟨mkT 20 [],[]⟩
def O37_0 (x1:aG) (x2:Int) (y:(Sum (Unit) (Int))):GX:=match y with
 | .inl y=>.st (.exit 0) (aKU)
 | .inr y=>.fin (.int .i64 y) []
theorem rZ (x1:aG) (x2:Int) (y:(Sum (Unit) (Int))):∀(k:Nat) (dB:Int),f4 k x1 x2 dB=some y→LT Try.prog X37 L37_0 (S37_0 x1 x2 dB) (O37_0 x1 x2 y)
 | 0,dB,h=>by cases h
 | k+1,dB,h=>by
  rw[f4] at h
  by_cases cL0:ltI dB (nI x1.length)=true
  · rw[if_pos cL0] at h
    by_cases cL1:inI dB x1.length=true
    · rw[if_pos cL1] at h
      obtain⟨pD,eL2,h⟩:=bsm h
      let u1:List Ans:=[dt,.n x1.length,.row [(.int .u8 pD.1),(.int .i64 pD.2)]]
      let w2:List Prf:=[⟨(b7 (e:=aB) eL2 2 0 2 (by decide))⟩,⟨cL1⟩,⟨(aS aB x1)⟩,⟨cL0⟩]
      by_cases cL3:eqI pD.1 x2=true
      · rw[if_pos cL3] at h
        obtain rfl:=osi h
        show LT _ _ _ _ (.fin (.int .i64 pD.2) [])
        exact LT.done aE (hs:=⟨[],[],false,[],[]⟩) (es:=none) (u1++[dt]) ([⟨cL3⟩]++w2) (by kernel_rfl) (fun s h=>by cases h)
      rw[if_neg cL3] at h;replace cL3:=eqf cL3
      exact LT.next aE (hs:=⟨[(1,[]),(7,[]),(8,[]),(9,[])],[],false,[],[]⟩) (es:=none) (u1++[df]) ([⟨cL3⟩]++w2) (by kernel_rfl) (rZ x1 x2 y k (aH .i64 dB 1) h)
    rw[if_neg cL1] at h;replace cL1:=eqf cL1
    cases h
  rw[if_neg cL0] at h;replace cL0:=eqf cL0
  obtain rfl:=osi h
  show LT _ _ _ _ (.st (.exit 0) (aKU))
  exact LT.done aE (hs:=⟨[],[],false,[],[]⟩) (es:=(some ⟨[],[],false,[],[]⟩)) [df] [⟨cL0⟩] (by kernel_rfl) (fun s h=>by cases h)
theorem vU (k:Nat) (x1:aG) (x2:Int) (r:Int) (h:n8 k x1 x2=some r):Tri Try.prog 37 [(.sl 2 (List.map aB x1)),(.int .u8 x2)] [] (.int .i64 r) []:=by
 unfold n8 at h
 let u3:List Ans:=[.n x1.length,.norm 2 ⟨[(1,[]),(7,[]),(8,[]),(9,[])],[],false,[],[]⟩]
 obtain⟨x3,e0,h⟩:=bsm h
 cases x3 with
 | inl x4 =>
  simp only[Sum.elim_inl] at h
  obtain rfl:=osi h
  exact Tri.of (x:=X37) aE aPL (u3++[.out (.st .normal (aKU))]) [⟨(LT.block (rZ x1 x2 _ k 0 e0))⟩,⟨(aS aB x1)⟩] (by kernel_rfl)
 | inr x4 =>
  simp only[Sum.elim_inr] at h
  obtain rfl:=osi h
  exact Tri.of (x:=X37) aE aPL (u3++[.out (.fin (.int .i64 x4) [])]) [⟨(LT.blockFin (id:=0) (rZ x1 x2 _ k 0 e0))⟩,⟨(aS aB x1)⟩] (by kernel_rfl)
end Go.Ws

namespace Go.Ws
open Go.Proofs
set_option linter.unusedSimpArgs false
set_option linter.unusedVariables false
set_option maxRecDepth 1000000
set_option maxHeartbeats 4000000
noncomputable def X73_1:Ctx:=⟨Try.f73,[],true⟩
theorem pR (k:Nat) (x1:Int) (x2:aG) (x3:Bool) (x4:Int) (r:Int × aG × Bool × Int) (h:iL k x1 x2 x3 x4=some r):Tri Try.prog 73 [(.agg [(.int .i64 x1),(.sl 2 (List.map aB x2)),(.bool x3),(.int .i64 x4)])] [] (.agg [(.int .i64 r.1),(.sl 2 (List.map aB r.2.1)),(.bool r.2.2.1),(.int .i64 r.2.2.2)]) []:=by
 unfold iL at h
 obtain⟨x5,e0,h⟩:=bsm h
 obtain rfl:=osi h
 exact Tri.of (x:=X73_1) aE aPS [.call ⟨true,[]⟩ (.ref 2 0 0 0 x2.length .virt) [(.arr 2 (List.map aB x2) 0 0 false)],.rows (List.map aB x2)] [⟨(b8 aB (l:=x2) (n:=x2.length) rfl)⟩,⟨(eT aB (Nat.le_refl x2.length):0+x2.length≤(List.map aB x2).length)⟩,⟨(gU k x2 _ e0)⟩] (by kernel_rfl)
end Go.Ws

namespace Go.Ws
open Go.Proofs
set_option linter.unusedSimpArgs false
set_option linter.unusedVariables false
set_option maxRecDepth 1000000
set_option maxHeartbeats 4000000
noncomputable def X58:Ctx:=⟨Try.f58,[],true⟩
theorem aDT (k:Nat) (x1:Int) (x2:aG) (x3:Bool) (x4:Int) (x5:Bool) (r:Int × aG × Bool × Int × Int) (h:rW k x1 x2 x3 x4 x5=some r):Tri Try.prog 58 [(.agg [(.int .i64 x1),(.sl 2 (List.map aB x2)),(.bool x3),(.int .i64 x4)]),(.bool x5)] [] (.tup [(.agg [(.int .i64 r.1),(.sl 2 (List.map aB r.2.1)),(.bool r.2.2.1),(.int .i64 r.2.2.2.1)]),(.int .i64 r.2.2.2.2)]) []:=by
 unfold rW at h
 obtain⟨x6,e0,h⟩:=bsm h
 obtain⟨x7,e1,h⟩:=bsm h
 let u1:List Ans:=[.call ⟨true,[]⟩ (.agg [(.int .i64 x6.1),(.sl 2 (List.map aB x6.2.1)),(.bool x6.2.2.1),(.int .i64 x6.2.2.2)]) [],.call ⟨true,[]⟩ (.bool x7) []]
 let w2:List Prf:=[⟨(sF k x6.1 x6.2.1 x6.2.2.1 x6.2.2.2 _ e1)⟩,⟨(pR k x1 x2 x3 x4 _ e0)⟩]
 by_cases c2:x7=true
 · rw[if_pos c2] at h
   by_cases c3:eqI x6.1 0=true
   · rw[if_pos c3] at h
     by_cases c4:x5=true
     · rw[if_pos c4] at h
       obtain rfl:=osi h
       exact Tri.of (x:=X58) aE aF9 (u1++[df,df,dt]) ([⟨c4⟩,⟨(nF c3)⟩,⟨(nF c2)⟩]++w2) (by kernel_rfl)
     rw[if_neg c4] at h;replace c4:=eqf c4
     obtain rfl:=osi h
     exact Tri.of (x:=X58) aE aF9 (u1++[df,df,df]) ([⟨c4⟩,⟨(nF c3)⟩,⟨(nF c2)⟩]++w2) (by kernel_rfl)
   rw[if_neg c3] at h;replace c3:=eqf c3
   obtain rfl:=osi h
   exact Tri.of (x:=X58) aE aF9 (u1++[df,dt]) ([⟨(nT c3)⟩,⟨(nF c2)⟩]++w2) (by kernel_rfl)
 rw[if_neg c2] at h;replace c2:=eqf c2
 obtain rfl:=osi h
 exact Tri.of (x:=X58) aE aF9 (u1++[dt]) ([⟨(nT c2)⟩]++w2) (by kernel_rfl)
end Go.Ws

namespace Go.Ws
open Go.Proofs
set_option linter.unusedSimpArgs false
set_option linter.unusedVariables false
set_option maxRecDepth 1000000
set_option maxHeartbeats 4000000
noncomputable def X40_1001:Ctx:=⟨Try.f40,[],false⟩
theorem xD (k:Nat) (x1:aG) (r:Unit) (h:gY k x1=some r):Tri Try.prog 40 [(.inl 2 (List.map aB x1))] [] (.ref 2 0 0 0 x1.length .virt) [(.arr 2 (List.map aB x1) 0 0 false)]:=by
 unfold gY at h
 by_cases c0:cR (x1.length*16)=true
 · rw[if_pos c0] at h
   obtain rfl:=osi h
   exact Tri.of (x:=X40_1001) aE aPM [df,.n x1.length,.norm 0 ⟨[(2,[])],[⟨.tmp 2,[],some 2⟩],false,[],[]⟩,.n x1.length,.rows (List.map aB x1)] [⟨(fF aB (l:=x1) (n:=x1.length) rfl)⟩,⟨(rfl:x1.length=x1.length)⟩,⟨(zle x1.length)⟩,⟨c0⟩,⟨(aS aB x1)⟩,⟨rF⟩] (by kernel_rfl)
 rw[if_neg c0] at h;replace c0:=eqf c0
 cases h
end Go.Ws

namespace Go.Ws
open Go.Proofs
set_option linter.unusedSimpArgs false
set_option linter.unusedVariables false
set_option maxRecDepth 1000000
set_option maxHeartbeats 4000000
noncomputable def X40_1002:Ctx:=⟨Try.f40,[],false⟩
theorem wB:Tri Try.prog 40 [.nils] [] (.ref 2 0 0 0 0 .virt) [(.arr 2 (List.map aB []) 0 0 false)]:=by
 obtain⟨r,h⟩:∃r,nV=r:=⟨_,rfl⟩
 try rw[h]
 unfold nV at h
 obtain rfl:=h
 exact Tri.of (x:=X40_1002) aE aPM [dt,.norm 0 ⟨[(2,[])],[⟨.tmp 2,[],some 2⟩],false,[],[]⟩,.n 0,.rows (List.map aB [])] [⟨(fF aB (l:=[]) (n:=0) rfl)⟩,⟨(rfl:0=0)⟩,⟨(zle 0)⟩,⟨rT⟩] (by kernel_rfl)
end Go.Ws

namespace Go.Ws
open Go.Proofs
set_option linter.unusedSimpArgs false
set_option linter.unusedVariables false
set_option maxRecDepth 1000000
set_option maxHeartbeats 4000000
theorem aBJ (k:Nat) (x1:aG) (r:Unit) (h:mZ k x1=some r):Tri Try.prog 40 [(.sl 2 (List.map aB x1))] [] (.ref 2 0 0 0 x1.length .virt) [(.arr 2 (List.map aB x1) 0 0 false)]:=by
 refine Tri.slOf (xD k x1 r h) fun h0=>?_
 have hx:x1=[]:=by simpa using h0
 subst hx
 exact wB
end Go.Ws

namespace Go.Ws
open Go.Proofs
set_option linter.unusedSimpArgs false
set_option linter.unusedVariables false
set_option maxRecDepth 1000000
set_option maxHeartbeats 4000000
noncomputable def X41:Ctx:=⟨Try.f41,[],true⟩
noncomputable def L41_0:Code:=at_ Try.f41 [1,0,1,4,5]
def S41_0 (x1:aG) (bL:Int):St:=⟨mkT 36 [(0,(.sl 2 (List.map aB x1))),(5,(.sl 2 (List.map aB x1))),(6,(.int .i64 (nI x1.length))),(7,(.int .i64 bL))],[]⟩
def aLH:St:=⟨mkT 36 [],[]⟩
def O41_0 (x1:aG) (y:xC):GX:=match y with
 | .inl y=>.st (.exit 0) (aLH)
 | .inr y=>.fin (.bool y) []
theorem mR (x1:aG) (y:xC):∀(k:Nat) (bL:Int),dR k x1 bL=some y→LT Try.prog X41 L41_0 (S41_0 x1 bL) (O41_0 x1 y)
 | 0,bL,h=>by cases h
 | k+1,bL,h=>by
  rw[dR] at h
  by_cases cL0:ltI bL (nI x1.length)=true
  · rw[if_pos cL0] at h
    by_cases cL1:inI bL x1.length=true
    · rw[if_pos cL1] at h
      obtain⟨mF,eL2,h⟩:=bsm h
      let u1:List Ans:=[dt,.n x1.length,.row [(.int .u8 mF.1),(.int .i64 mF.2)]]
      let w2:List Prf:=[⟨(b7 (e:=aB) eL2 2 0 2 (by decide))⟩,⟨cL1⟩,⟨(aS aB x1)⟩,⟨cL0⟩]
      by_cases cL3:ltI mF.1 64=true
      · rw[if_pos cL3] at h
        let w4:List Prf:=[⟨(nF cL3)⟩,⟨(nF cL3)⟩,⟨(nF cL3)⟩,⟨(nF cL3)⟩]++w2
        by_cases cL4:eqI mF.2 0=true
        · rw[if_pos cL4] at h
          obtain rfl:=osi h
          show LT _ _ _ _ (.fin (.bool false) [])
          exact LT.done aE (hs:=⟨[],[],false,[],[]⟩) (es:=none) (u1++[df,df,df,df,dt,dt,dt,dt,dt,dt]) ([⟨rT⟩,⟨cL4⟩,⟨cL4⟩,⟨cL4⟩,⟨cL4⟩,⟨cL4⟩]++w4) (by kernel_rfl) (fun s h=>by cases h)
        rw[if_neg cL4] at h;replace cL4:=eqf cL4
        by_cases cL5:ltI 0 bL=true
        · rw[if_pos cL5] at h
          by_cases cL6:inI (sQ .i64 bL 1) x1.length=true
          · rw[if_pos cL6] at h
            obtain⟨xK,eL7,h⟩:=bsm h
            let u7:List Ans:=u1++[df,df,df,df,df,df,df,dt,dt,dt,dt,.n x1.length,dt,dt,.row [(.int .u8 xK.1)],dt,dt,dt,df,dt,df]
            let w8:List Prf:=[⟨cL4⟩,⟨cL5⟩,⟨cL4⟩,⟨cL5⟩,⟨cL5⟩,⟨cL5⟩,⟨(b7 (e:=aB) eL7 2 0 1 (by decide))⟩,⟨cL5⟩,⟨cL5⟩,⟨cL6⟩,⟨(aS aB x1)⟩,⟨cL5⟩,⟨cL5⟩,⟨cL5⟩,⟨cL5⟩,⟨cL4⟩,⟨cL4⟩,⟨cL4⟩]++w4
            by_cases cL8:ltI xK.1 mF.1=true
            · rw[if_pos cL8] at h
              exact LT.next aE (hs:=⟨[(0,[]),(5,[]),(6,[]),(7,[])],[],false,[],[]⟩) (es:=none) (u7++[df]) ([⟨(nF cL8)⟩]++w8) (by kernel_rfl) (mR x1 y k (aH .i64 bL 1) h)
            rw[if_neg cL8] at h;replace cL8:=eqf cL8
            obtain rfl:=osi h
            show LT _ _ _ _ (.fin (.bool false) [])
            exact LT.done aE (hs:=⟨[],[],false,[],[]⟩) (es:=none) (u7++[dt]) ([⟨(nT cL8)⟩]++w8) (by kernel_rfl) (fun s h=>by cases h)
          rw[if_neg cL6] at h;replace cL6:=eqf cL6
          cases h
        rw[if_neg cL5] at h;replace cL5:=eqf cL5
        exact LT.next aE (hs:=⟨[(0,[]),(5,[]),(6,[]),(7,[])],[],false,[],[]⟩) (es:=none) (u1++[df,df,df,df,df,df,df,df,df,df,df,df,df,df,df,df,df,df,df,df]) ([⟨rF⟩,⟨cL4⟩,⟨cL5⟩,⟨cL4⟩,⟨cL5⟩,⟨cL5⟩,⟨cL5⟩,⟨cL5⟩,⟨cL5⟩,⟨cL5⟩,⟨cL5⟩,⟨cL5⟩,⟨cL5⟩,⟨cL4⟩,⟨cL4⟩,⟨cL4⟩]++w4) (by kernel_rfl) (mR x1 y k (aH .i64 bL 1) h)
      rw[if_neg cL3] at h;replace cL3:=eqf cL3
      obtain rfl:=osi h
      show LT _ _ _ _ (.fin (.bool false) [])
      exact LT.done aE (hs:=⟨[],[],false,[],[]⟩) (es:=none) (u1++[dt,dt,dt,dt,dt,dt,dt,dt,dt,dt]) ([⟨rT⟩,⟨rT⟩,⟨rT⟩,⟨rT⟩,⟨rT⟩,⟨rT⟩,⟨(nT cL3)⟩,⟨(nT cL3)⟩,⟨(nT cL3)⟩,⟨(nT cL3)⟩]++w2) (by kernel_rfl) (fun s h=>by cases h)
    rw[if_neg cL1] at h;replace cL1:=eqf cL1
    cases h
  rw[if_neg cL0] at h;replace cL0:=eqf cL0
  obtain rfl:=osi h
  show LT _ _ _ _ (.st (.exit 0) (aLH))
  exact LT.done aE (hs:=⟨[],[],false,[],[]⟩) (es:=(some ⟨[],[],false,[],[]⟩)) [df] [⟨cL0⟩] (by kernel_rfl) (fun s h=>by cases h)
theorem aFR (k:Nat) (x1:aG) (r:Bool) (h:oO k x1=some r):Tri Try.prog 41 [(.sl 2 (List.map aB x1))] [] (.bool r) []:=by
 unfold oO at h
 let u9:List Ans:=[.n x1.length,.norm 2 ⟨[(0,[]),(5,[]),(6,[]),(7,[])],[],false,[],[]⟩]
 obtain⟨x2,e0,h⟩:=bsm h
 cases x2 with
 | inl x3 =>
  simp only[Sum.elim_inl] at h
  obtain rfl:=osi h
  exact Tri.of (x:=X41) aE aQA (u9++[.out (.st .normal (aLH))]) [⟨(LT.block (mR x1 _ k 0 e0))⟩,⟨(aS aB x1)⟩] (by kernel_rfl)
 | inr x3 =>
  simp only[Sum.elim_inr] at h
  obtain rfl:=osi h
  exact Tri.of (x:=X41) aE aQA (u9++[.out (.fin (.bool x3) [])]) [⟨(LT.blockFin (id:=0) (mR x1 _ k 0 e0))⟩,⟨(aS aB x1)⟩] (by kernel_rfl)
end Go.Ws

namespace Go.Ws
open Go.Proofs
set_option linter.unusedSimpArgs false
set_option linter.unusedVariables false
set_option maxRecDepth 1000000
set_option maxHeartbeats 4000000
noncomputable def X39:Ctx:=⟨Try.f39,[],false⟩
theorem aFM (x1:Int) (x2:Int):Tri Try.prog 39 [(.agg [(.int .u8 x1),(.int .i64 x2)])] [] (.bool (!ltI x1 64)) []:=by
 obtain⟨r,h⟩:∃r,xM x1 x2=r:=⟨_,rfl⟩
 try rw[h]
 unfold xM at h
 obtain rfl:=h
 exact Tri.of (x:=X39) aE facts39 [.norm 0 ⟨[(2,[])],[],false,[],[]⟩] [] (by kernel_rfl)
end Go.Ws

namespace Go.Ws
open Go.Proofs
set_option linter.unusedSimpArgs false
set_option linter.unusedVariables false
set_option maxRecDepth 1000000
set_option maxHeartbeats 4000000
noncomputable def X50_1:Ctx:=⟨Try.f50,[],true⟩
noncomputable def L50_1_0:Code:=at_ Try.f50 [1,0,1,4,5]
def S50_1_0 (x1:aG) (bW:Int):St:=⟨mkT 19 [(0,(.sl 2 (List.map aB x1))),(1,(.fn 39 [])),(7,(.int .i64 (nI x1.length))),(8,(.int .i64 bW))],[]⟩
def aD9:St:=⟨mkT 19 [],[]⟩
def O50_1_0 (x1:aG) (y:(Sum (Unit) (Int))):GX:=match y with
 | .inl y=>.st (.exit 0) (aD9)
 | .inr y=>.fin (.int .i64 y) []
theorem lI (x1:aG) (y:(Sum (Unit) (Int))):∀(k:Nat) (bW:Int),b6 k x1 bW=some y→LT Try.prog X50_1 L50_1_0 (S50_1_0 x1 bW) (O50_1_0 x1 y)
 | 0,bW,h=>by cases h
 | k+1,bW,h=>by
  rw[b6] at h
  by_cases cL0:ltI bW (nI x1.length)=true
  · rw[if_pos cL0] at h
    by_cases cL1:inI bW x1.length=true
    · rw[if_pos cL1] at h
      obtain⟨nM,eL2,h⟩:=bsm h
      let u1:List Ans:=[dt,.n x1.length,.row [(.int .u8 nM.1),(.int .i64 nM.2)],.call ⟨false,[]⟩ (.bool (!ltI nM.1 64)) []]
      let w2:List Prf:=[⟨(aFM nM.1 nM.2)⟩,⟨(b7 (e:=aB) eL2 2 0 2 (by decide))⟩,⟨cL1⟩,⟨(aS aB x1)⟩,⟨cL0⟩]
      by_cases cL3:ltI nM.1 64=true
      · rw[if_pos cL3] at h
        exact LT.next aE (hs:=⟨[(0,[]),(1,[]),(7,[]),(8,[])],[],false,[],[]⟩) (es:=none) (u1++[df]) ([⟨(nF cL3)⟩]++w2) (by kernel_rfl) (lI x1 y k (aH .i64 bW 1) h)
      rw[if_neg cL3] at h;replace cL3:=eqf cL3
      obtain rfl:=osi h
      show LT _ _ _ _ (.fin (.int .i64 bW) [])
      exact LT.done aE (hs:=⟨[],[],false,[],[]⟩) (es:=none) (u1++[dt]) ([⟨(nT cL3)⟩]++w2) (by kernel_rfl) (fun s h=>by cases h)
    rw[if_neg cL1] at h;replace cL1:=eqf cL1
    cases h
  rw[if_neg cL0] at h;replace cL0:=eqf cL0
  obtain rfl:=osi h
  show LT _ _ _ _ (.st (.exit 0) (aD9))
  exact LT.done aE (hs:=⟨[],[],false,[],[]⟩) (es:=(some ⟨[],[],false,[],[]⟩)) [df] [⟨cL0⟩] (by kernel_rfl) (fun s h=>by cases h)
theorem yV (k:Nat) (x1:aG) (r:Int) (h:iP k x1=some r):Tri Try.prog 50 [(.sl 2 (List.map aB x1)),(.fn 39 [])] [] (.int .i64 r) []:=by
 unfold iP at h
 let u3:List Ans:=[.n x1.length,.norm 2 ⟨[(0,[]),(1,[]),(7,[]),(8,[])],[],false,[],[]⟩]
 obtain⟨x2,e0,h⟩:=bsm h
 cases x2 with
 | inl x3 =>
  simp only[Sum.elim_inl] at h
  obtain rfl:=osi h
  exact Tri.of (x:=X50_1) aE aF4 (u3++[.out (.st .normal (aD9))]) [⟨(LT.block (lI x1 _ k 0 e0))⟩,⟨(aS aB x1)⟩] (by kernel_rfl)
 | inr x3 =>
  simp only[Sum.elim_inr] at h
  obtain rfl:=osi h
  exact Tri.of (x:=X50_1) aE aF4 (u3++[.out (.fin (.int .i64 x3) [])]) [⟨(LT.blockFin (id:=0) (lI x1 _ k 0 e0))⟩,⟨(aS aB x1)⟩] (by kernel_rfl)
end Go.Ws

namespace Go.Ws
open Go.Proofs
set_option linter.unusedSimpArgs false
set_option linter.unusedVariables false
set_option maxRecDepth 1000000
set_option maxHeartbeats 4000000
noncomputable def X42_1:Ctx:=⟨Try.f42,[],true⟩
theorem vW (k:Nat) (x1:aG) (r:Bool) (h:gL k x1=some r):Tri Try.prog 42 [(.sl 2 (List.map aB x1)),(.fn 39 [])] [] (.bool r) []:=by
 unfold gL at h
 obtain⟨x2,e0,h⟩:=bsm h
 obtain rfl:=osi h
 exact Tri.of (x:=X42_1) aE aOY [.call ⟨true,[]⟩ (.int .i64 x2) []] [⟨(yV k x1 _ e0)⟩] (by kernel_rfl)
end Go.Ws

namespace Go.Ws
open Go.Proofs
set_option linter.unusedSimpArgs false
set_option linter.unusedVariables false
set_option maxRecDepth 1000000
set_option maxHeartbeats 4000000
noncomputable def X52:Ctx:=⟨Try.f52,[],false⟩
theorem wY (x1:Int) (x2:Int) (x3:Int):Tri Try.prog 52 [(.agg [(.int .u8 x1),(.int .i64 x2)]),(.int .u8 x3)] [] (.int .i64 (bD x1 x3)) []:=by
 obtain⟨r,h⟩:∃r,vT x1 x2 x3=r:=⟨_,rfl⟩
 try rw[h]
 unfold vT at h
 obtain rfl:=h
 exact Tri.of (x:=X52) aE facts52 [.call ⟨true,[]⟩ (.int .i64 (bD x1 x3)) [],.norm 0 ⟨[(4,[])],[],false,[],[]⟩] [⟨(zU x1 x3)⟩] (by kernel_rfl)
end Go.Ws

namespace Go.Ws
open Go.Proofs
set_option linter.unusedSimpArgs false
set_option linter.unusedVariables false
set_option maxRecDepth 1000000
set_option maxHeartbeats 4000000
noncomputable def X51:Ctx:=⟨Try.f51,[],true⟩
noncomputable def L51_0:Code:=at_ Try.f51 [1,1,1,0,4,5]
def S51_0 (x1:aG) (x2:Int) (bX:Int) (cF:Int):St:=⟨mkT 49 [(0,(.sl 2 (List.map aB x1))),(1,(.int .u8 x2)),(2,(.fn 52 [])),(8,(.int .i64 (nI x1.length))),(9,(.int .i64 bX)),(10,(.int .i64 cF))],[]⟩
def aK0 (x1:aG) (x2:Int) (v51002_1:Int):St:=⟨mkT 49 [(0,(.sl 2 (List.map aB x1))),(1,(.int .u8 x2)),(2,(.fn 52 [])),(8,(.int .i64 (nI x1.length))),(9,(.int .i64 v51002_1))],[]⟩
def O51_0 (x1:aG) (x2:Int) (y:(Int)):GX:=.st (.exit 0) (aK0 x1 x2 y)
theorem iA (x1:aG) (x2:Int) (y:(Int)):∀(k:Nat) (bX:Int) (cF:Int),aU k x1 x2 bX cF=some y→LT Try.prog X51 L51_0 (S51_0 x1 x2 bX cF) (O51_0 x1 x2 y)
 | 0,bX,cF,h=>by cases h
 | k+1,bX,cF,h=>by
  rw[aU] at h
  by_cases cL0:ltI bX cF=true
  · rw[if_pos cL0] at h
    by_cases cL1:inI (conv .i64 (tC .u64 (conv .u64 (aH .i64 bX cF)) 1)) x1.length=true
    · rw[if_pos cL1] at h
      obtain⟨pE,eL2,h⟩:=bsm h
      let u1:List Ans:=[dt,.n x1.length,.row [(.int .u8 pE.1),(.int .i64 pE.2)],.call ⟨false,[]⟩ (.int .i64 (bD pE.1 x2)) []]
      let w2:List Prf:=[⟨(wY pE.1 pE.2 x2)⟩,⟨(b7 (e:=aB) eL2 2 0 2 (by decide))⟩,⟨cL1⟩,⟨(aS aB x1)⟩,⟨cL0⟩]
      by_cases cL3:ltI (bD pE.1 x2) 0=true
      · rw[if_pos cL3] at h
        exact LT.next aE (hs:=⟨[(0,[]),(1,[]),(2,[]),(8,[]),(9,[]),(10,[])],[],false,[],[]⟩) (es:=none) (u1++[dt]) ([⟨cL3⟩]++w2) (by kernel_rfl) (iA x1 x2 y k (aH .i64 (conv .i64 (tC .u64 (conv .u64 (aH .i64 bX cF)) 1)) 1) cF h)
      rw[if_neg cL3] at h;replace cL3:=eqf cL3
      exact LT.next aE (hs:=⟨[(0,[]),(1,[]),(2,[]),(8,[]),(9,[]),(10,[])],[],false,[],[]⟩) (es:=none) (u1++[df]) ([⟨cL3⟩]++w2) (by kernel_rfl) (iA x1 x2 y k bX (conv .i64 (tC .u64 (conv .u64 (aH .i64 bX cF)) 1)) h)
    rw[if_neg cL1] at h;replace cL1:=eqf cL1
    cases h
  rw[if_neg cL0] at h;replace cL0:=eqf cL0
  obtain rfl:=osi h
  show LT _ _ _ _ (.st (.exit 0) (aK0 x1 x2 bX))
  exact LT.done aE (hs:=⟨[],[],false,[],[]⟩) (es:=(some ⟨[(0,[]),(1,[]),(2,[]),(8,[]),(9,[])],[],false,[],[]⟩)) [df] [⟨cL0⟩] (by kernel_rfl) (fun s h=>by cases h)
theorem sO (k:Nat) (x1:aG) (x2:Int) (r:Int × Bool) (h:eN k x1 x2=some r):Tri Try.prog 51 [(.sl 2 (List.map aB x1)),(.int .u8 x2),(.fn 52 [])] [] (.tup [(.int .i64 r.1),(.bool r.2)]) []:=by
 unfold eN at h
 obtain⟨x4,e0,h⟩:=bsm h
 let u3:List Ans:=[.n x1.length,.norm 2 ⟨[(0,[]),(1,[]),(2,[]),(8,[]),(9,[]),(10,[])],[],false,[],[]⟩,.out (.st .normal (aK0 x1 x2 x4))]
 let w4:List Prf:=[⟨(LT.block (iA x1 x2 _ k 0 (nI x1.length) e0))⟩,⟨(aS aB x1)⟩]
 by_cases c2:ltI x4 (nI x1.length)=true
 · rw[if_pos c2] at h
   by_cases c3:inI x4 x1.length=true
   · rw[if_pos c3] at h
     obtain⟨x5,e4,h⟩:=bsm h
     obtain rfl:=osi h
     exact Tri.of (x:=X51) aE aOW (u3++[dt,dt,dt,dt,.n x1.length,dt,.row [(.int .u8 x5.1),(.int .i64 x5.2)],dt,dt,.call ⟨false,[]⟩ (.int .i64 (bD x5.1 x2)) [],dt,dt]) ([⟨c2⟩,⟨c2⟩,⟨(wY x5.1 x5.2 x2)⟩,⟨c2⟩,⟨c2⟩,⟨(b7 (e:=aB) e4 2 0 2 (by decide))⟩,⟨c2⟩,⟨c3⟩,⟨(aS aB x1)⟩,⟨c2⟩,⟨c2⟩,⟨c2⟩,⟨c2⟩]++w4) (by kernel_rfl)
   rw[if_neg c3] at h;replace c3:=eqf c3
   cases h
 rw[if_neg c2] at h;replace c2:=eqf c2
 obtain rfl:=osi h
 exact Tri.of (x:=X51) aE aOW (u3++[df,df,df,df,df,df,df,df,df]) ([⟨c2⟩,⟨c2⟩,⟨c2⟩,⟨c2⟩,⟨c2⟩,⟨c2⟩,⟨c2⟩,⟨c2⟩,⟨c2⟩]++w4) (by kernel_rfl)
end Go.Ws

namespace Go.Ws
open Go.Proofs
set_option linter.unusedSimpArgs false
set_option linter.unusedVariables false
set_option maxRecDepth 1000000
set_option maxHeartbeats 4000000
noncomputable def X43:Ctx:=⟨Try.f43,[],true⟩
theorem aHI (k:Nat) (x1:aG) (x2:Int) (r:Int × Bool) (h:pZ k x1 x2=some r):Tri Try.prog 43 [(.sl 2 (List.map aB x1)),(.int .u8 x2)] [] (.tup [(.int .i64 r.1),(.bool r.2)]) []:=by
 unfold pZ at h
 obtain⟨x3,e0,h⟩:=bsm h
 obtain rfl:=osi h
 exact Tri.of (x:=X43) aE facts43 [.call ⟨true,[]⟩ (.tup [(.int .i64 x3.1),(.bool x3.2)]) []] [⟨(sO k x1 x2 _ e0)⟩] (by kernel_rfl)
end Go.Ws

namespace Go.Ws
open Go.Proofs
set_option linter.unusedSimpArgs false
set_option linter.unusedVariables false
set_option maxRecDepth 1000000
set_option maxHeartbeats 4000000
theorem aER (k:Nat) (x1:Int) (x2:Int) (x3:aG) (r:aG) (h:o4 k x1 x2 x3=some r):Tri Try.prog 45 [(.ref 2 0 0 0 x3.length .virt),(.int .i64 x1),(.int .i64 x2)] [(.arr 2 (List.map aB x3) 0 0 false)] (.ref 2 0 1 0 r.length .full) [(.arr 2 (List.map aB r) 1 1 false)]:=aMI _ h
end Go.Ws

namespace Go.Ws
open Go.Proofs
set_option linter.unusedSimpArgs false
set_option linter.unusedVariables false
set_option maxRecDepth 1000000
set_option maxHeartbeats 4000000
theorem aA3 (k:Nat) (x1:Int) (x2:aG) (x3:aG) (r:aG) (h:mC k x1 x2 x3=some r):Tri Try.prog 44 [(.ref 2 0 0 0 x2.length .virt),(.int .i64 x1),(.ref 2 1 0 0 x3.length .full)] [(.arr 2 (List.map aB x2) 0 0 false),(.arr 2 (List.map aB x3) 0 0 false)] (.ref 2 0 1 0 r.length .full) [(.arr 2 (List.map aB r) 1 1 false),(.arr 2 (List.map aB x3) 0 0 false)]:=ins_ok44 _ h rfl
end Go.Ws

namespace Go.Ws
open Go.Proofs
set_option linter.unusedSimpArgs false
set_option linter.unusedVariables false
set_option maxRecDepth 1000000
set_option maxHeartbeats 4000000
theorem aBO (k:Nat) (x1:Int) (x2:Int) (x3:aG) (r:aG) (h:mX k x1 x2 x3=some r):Tri Try.prog 45 [(.ref 2 0 1 0 x3.length .full),(.int .i64 x1),(.int .i64 x2)] [(.arr 2 (List.map aB x3) 1 1 false)] (.ref 2 0 2 0 r.length .full) [(.arr 2 (List.map aB r) 2 2 false)]:=aMI _ h
end Go.Ws

namespace Go.Ws
open Go.Proofs
set_option linter.unusedSimpArgs false
set_option linter.unusedVariables false
set_option maxRecDepth 1000000
set_option maxHeartbeats 4000000
noncomputable def X30:Ctx:=⟨Try.f30,[],true⟩
noncomputable def L30_0:Code:=at_ Try.f30 [1,1,1,1,0,1,4,5]
def S30_0 (x2:aG) (bY:Int) (aV:aG):St:=⟨mkT 67 [(0,(.ref 2 0 0 0 aV.length .virt)),(22,(.sl 2 (List.map aB x2))),(23,(.int .i64 (nI x2.length))),(24,(.int .i64 bY))],[(.arr 2 (List.map aB aV) 0 0 false)]⟩
def aJY (aM6:aG):St:=⟨mkT 67 [(0,(.ref 2 0 0 0 aM6.length .virt))],[(.arr 2 (List.map aB aM6) 0 0 false)]⟩
def O30_0 (x2:aG) (y:(aG)):GX:=.st (.exit 0) (aJY y)
theorem lY (x2:aG) (y:(aG)):∀(k:Nat) (bY:Int) (aV:aG),d8 k x2 bY aV=some y→LT Try.prog X30 L30_0 (S30_0 x2 bY aV) (O30_0 x2 y)
 | 0,bY,aV,h=>by cases h
 | k+1,bY,aV,h=>by
  rw[d8] at h
  by_cases cL0:ltI bY (nI x2.length)=true
  · rw[if_pos cL0] at h
    by_cases cL1:inI bY x2.length=true
    · rw[if_pos cL1] at h
      obtain⟨bH,eL2,h⟩:=bsm h
      obtain⟨aP,eL3,h⟩:=bsm h
      let u1:List Ans:=[dt,.n x2.length,.row [(.int .u8 bH.1),(.int .i64 bH.2)],.call ⟨true,[]⟩ (.tup [(.int .i64 aP.1),(.bool aP.2)]) [],.rows (List.map aB aV)]
      let w2:List Prf:=[⟨(aHI k aV bH.1 _ eL3)⟩,⟨(b8 aB (l:=aV) (n:=aV.length) rfl)⟩,⟨(eT aB (Nat.le_refl aV.length):0+aV.length≤(List.map aB aV).length)⟩,⟨(b7 (e:=aB) eL2 2 0 2 (by decide))⟩,⟨cL1⟩,⟨(aS aB x2)⟩,⟨cL0⟩]
      by_cases cL4:aP.2=true
      · rw[if_pos cL4] at h
        by_cases cL5:inI aP.1 aV.length=true
        · rw[if_pos cL5] at h
          obtain⟨aQ,eL6,h⟩:=bsm h
          obtain⟨bM,eL7,h⟩:=bsm h
          let u3:List Ans:=u1++[df,.row [(.int .i64 aQ.2)],.rows (List.map aB (List.set aV (tN aP.1) (aQ.1,aH .i64 aQ.2 bH.2))),.row [(.int .i64 bM.2)]]
          let w4:List Prf:=[⟨(b7 (e:=aB) eL7 2 1 1 (by decide))⟩,⟨cL5⟩,⟨(wA (e:=aB) eL6 1 [(.int .i64 (aH .i64 aQ.2 bH.2))] (aQ.1,aH .i64 aQ.2 bH.2) rfl)⟩,⟨cL5⟩,⟨(b7 (e:=aB) eL6 2 1 1 (by decide))⟩,⟨cL5⟩,⟨(nF cL4)⟩]++w2
          by_cases cL8:eqI bM.2 0=true
          · rw[if_pos cL8] at h
            obtain⟨gO,eL9,h⟩:=bsm h
            exact LT.next aE (hs:=⟨[(0,[]),(22,[]),(23,[]),(24,[])],[⟨.tmp 0,[],some 2⟩],false,[],[]⟩) (es:=none) (u3++[dt,.call ⟨false,[]⟩ (.ref 2 0 1 0 gO.length .full) [(.arr 2 (List.map aB gO) 1 1 false)],.n gO.length,.rows (List.map aB gO)]) ([⟨(fF aB (l:=gO) (n:=gO.length) rfl)⟩,⟨(rfl:gO.length=gO.length)⟩,⟨(zle gO.length)⟩,⟨(by have hh:=(aER k aP.1 (aH .i64 aP.1 1) (List.set aV (tN aP.1) (aQ.1,aH .i64 aQ.2 bH.2)) _ eL9);simp only[List.length_set] at hh;exact hh)⟩,⟨cL8⟩]++w4) (by kernel_rfl) (lY x2 y k (aH .i64 bY 1) gO h)
          rw[if_neg cL8] at h;replace cL8:=eqf cL8
          exact LT.next aE (hs:=⟨[(0,[]),(22,[]),(23,[]),(24,[])],[⟨.tmp 0,[],some 2⟩],false,[],[]⟩) (es:=none) (u3++[df,.n ((List.set aV (tN aP.1) (aQ.1,aH .i64 aQ.2 bH.2)).length),.rows (List.map aB (List.set aV (tN aP.1) (aQ.1,aH .i64 aQ.2 bH.2)))]) ([⟨(fF aB (l:=(List.set aV (tN aP.1) (aQ.1,aH .i64 aQ.2 bH.2))) (n:=aV.length) (by simp:aV.length=(List.set aV (tN aP.1) (aQ.1,aH .i64 aQ.2 bH.2)).length))⟩,⟨((by simp:aV.length=List.length (α:=Int × Int) (List.set aV (tN aP.1) (aQ.1,aH .i64 aQ.2 bH.2))):aV.length=(List.set aV (tN aP.1) (aQ.1,aH .i64 aQ.2 bH.2)).length)⟩,⟨(zle aV.length)⟩,⟨cL8⟩]++w4) (by kernel_rfl) (lY x2 y k (aH .i64 bY 1) (List.set aV (tN aP.1) (aQ.1,aH .i64 aQ.2 bH.2)) h)
        rw[if_neg cL5] at h;replace cL5:=eqf cL5
        cases h
      rw[if_neg cL4] at h;replace cL4:=eqf cL4
      obtain⟨aQ,eL5,h⟩:=bsm h
      by_cases cL6:inI aP.1 aQ.length=true
      · rw[if_pos cL6] at h
        obtain⟨bM,eL7,h⟩:=bsm h
        obtain⟨gO,eL8,h⟩:=bsm h
        let u5:List Ans:=u1++[dt,.call ⟨false,[]⟩ (.ref 2 0 1 0 aQ.length .full) [(.arr 2 (List.map aB aQ) 1 1 false),(.arr 2 (List.map aB [(bH.1,0)]) 0 0 false)],.row [(.int .i64 bM.2)],.rows (List.map aB (List.set aQ (tN aP.1) (bM.1,aH .i64 bM.2 bH.2))),.row [(.int .i64 gO.2)]]
        let w6:List Prf:=[⟨(b7 (e:=aB) eL8 2 1 1 (by decide))⟩,⟨cL6⟩,⟨(wA (e:=aB) eL7 1 [(.int .i64 (aH .i64 bM.2 bH.2))] (bM.1,aH .i64 bM.2 bH.2) rfl)⟩,⟨cL6⟩,⟨(b7 (e:=aB) eL7 2 1 1 (by decide))⟩,⟨cL6⟩,⟨(aA3 k aP.1 aV [(bH.1,0)] _ eL5)⟩,⟨(nT cL4)⟩]++w2
        by_cases cL9:eqI gO.2 0=true
        · rw[if_pos cL9] at h
          obtain⟨lF,eL10,h⟩:=bsm h
          exact LT.next aE (hs:=⟨[(0,[]),(22,[]),(23,[]),(24,[])],[⟨.tmp 0,[],some 2⟩],false,[],[]⟩) (es:=none) (u5++[dt,.call ⟨false,[]⟩ (.ref 2 0 2 0 lF.length .full) [(.arr 2 (List.map aB lF) 2 2 false)],.n lF.length,.rows (List.map aB lF)]) ([⟨(fF aB (l:=lF) (n:=lF.length) rfl)⟩,⟨(rfl:lF.length=lF.length)⟩,⟨(zle lF.length)⟩,⟨(by have hh:=(aBO k aP.1 (aH .i64 aP.1 1) (List.set aQ (tN aP.1) (bM.1,aH .i64 bM.2 bH.2)) _ eL10);simp only[List.length_set] at hh;exact hh)⟩,⟨cL9⟩]++w6) (by kernel_rfl) (lY x2 y k (aH .i64 bY 1) lF h)
        rw[if_neg cL9] at h;replace cL9:=eqf cL9
        exact LT.next aE (hs:=⟨[(0,[]),(22,[]),(23,[]),(24,[])],[⟨.tmp 0,[],some 2⟩],false,[],[]⟩) (es:=none) (u5++[df,.n ((List.set aQ (tN aP.1) (bM.1,aH .i64 bM.2 bH.2)).length),.rows (List.map aB (List.set aQ (tN aP.1) (bM.1,aH .i64 bM.2 bH.2)))]) ([⟨(fF aB (l:=(List.set aQ (tN aP.1) (bM.1,aH .i64 bM.2 bH.2))) (n:=aQ.length) (by simp:aQ.length=(List.set aQ (tN aP.1) (bM.1,aH .i64 bM.2 bH.2)).length))⟩,⟨((by simp:aQ.length=List.length (α:=Int × Int) (List.set aQ (tN aP.1) (bM.1,aH .i64 bM.2 bH.2))):aQ.length=(List.set aQ (tN aP.1) (bM.1,aH .i64 bM.2 bH.2)).length)⟩,⟨(zle aQ.length)⟩,⟨cL9⟩]++w6) (by kernel_rfl) (lY x2 y k (aH .i64 bY 1) (List.set aQ (tN aP.1) (bM.1,aH .i64 bM.2 bH.2)) h)
      rw[if_neg cL6] at h;replace cL6:=eqf cL6
      cases h
    rw[if_neg cL1] at h;replace cL1:=eqf cL1
    cases h
  rw[if_neg cL0] at h;replace cL0:=eqf cL0
  obtain rfl:=osi h
  show LT _ _ _ _ (.st (.exit 0) (aJY aV))
  exact LT.done aE (hs:=⟨[],[],false,[],[]⟩) (es:=(some ⟨[(0,[])],[⟨.tmp 0,[],none⟩],false,[],[]⟩)) [df] [⟨cL0⟩] (by kernel_rfl) (fun s h=>by cases h)
theorem iZ (k:Nat) (x1:aG) (x2:aG) (r:aG × Int) (h:iC k x1 x2=some r):Tri Try.prog 30 [(.sl 2 (List.map aB x1)),(.sl 2 (List.map aB x2))] [] (.tup [(.sl 2 (List.map aB r.1)),(.int .i64 r.2)]) []:=by
 unfold iC at h
 obtain⟨x3,e0,h⟩:=bsm h
 obtain⟨x4,e1,h⟩:=bsm h
 let u7:List Ans:=[.call ⟨true,[]⟩ (.ref 2 0 0 0 x1.length .virt) [(.arr 2 (List.map aB x1) 0 0 false)],.call ⟨true,[]⟩ (.bool x4) [],.rows (List.map aB x1)]
 let w8:List Prf:=[⟨(aFR k x1 _ e1)⟩,⟨(b8 aB (l:=x1) (n:=x1.length) rfl)⟩,⟨(eT aB (Nat.le_refl x1.length):0+x1.length≤(List.map aB x1).length)⟩,⟨(aBJ k x1 _ e0)⟩]
 by_cases c2:x4=true
 · rw[if_pos c2] at h
   obtain⟨x5,e3,h⟩:=bsm h
   let u9:List Ans:=u7++[df,df,df,.call ⟨true,[]⟩ (.bool x5) [],df]
   let w10:List Prf:=[⟨(nF c2)⟩,⟨(vW k x2 _ e3)⟩,⟨(nF c2)⟩,⟨(nF c2)⟩,⟨(nF c2)⟩]++w8
   by_cases c4:x5=true
   · rw[if_pos c4] at h
     obtain rfl:=osi h
     exact Tri.of (x:=X30) aE aJ5 (u9++[dt,.rows (List.map aB x1)]) ([⟨(b8 aB (l:=x1) (n:=x1.length) rfl)⟩,⟨(eT aB (Nat.le_refl x1.length):0+x1.length≤(List.map aB x1).length)⟩,⟨c4⟩]++w10) (by kernel_rfl)
   rw[if_neg c4] at h;replace c4:=eqf c4
   obtain⟨x7,e5,h⟩:=bsm h
   obtain rfl:=osi h
   exact Tri.of (x:=X30) aE aJ5 (u9++[df,.n x2.length,.norm 2 ⟨[(0,[]),(22,[]),(23,[]),(24,[])],[⟨.tmp 0,[],some 2⟩],false,[],[]⟩,.n x1.length,.rows (List.map aB x1),.out (.st .normal (aJY x7)),.rows (List.map aB x7)]) ([⟨(b8 aB (l:=x7) (n:=x7.length) rfl)⟩,⟨(eT aB (Nat.le_refl x7.length):0+x7.length≤(List.map aB x7).length)⟩,⟨(LT.block (lY x2 _ k 0 x1 e5))⟩,⟨(fF aB (l:=x1) (n:=x1.length) rfl)⟩,⟨(rfl:x1.length=x1.length)⟩,⟨(zle x1.length)⟩,⟨(aS aB x2)⟩,⟨c4⟩]++w10) (by kernel_rfl)
 rw[if_neg c2] at h;replace c2:=eqf c2
 obtain rfl:=osi h
 exact Tri.of (x:=X30) aE aJ5 (u7++[dt,dt,dt,dt,dt,.rows (List.map aB x1)]) ([⟨(b8 aB (l:=x1) (n:=x1.length) rfl)⟩,⟨(eT aB (Nat.le_refl x1.length):0+x1.length≤(List.map aB x1).length)⟩,⟨rT⟩,⟨(nT c2)⟩,⟨(nT c2)⟩,⟨(nT c2)⟩,⟨(nT c2)⟩]++w8) (by kernel_rfl)
end Go.Ws

namespace Go.Ws
open Go.Proofs
set_option linter.unusedSimpArgs false
set_option linter.unusedVariables false
set_option maxRecDepth 1000000
set_option maxHeartbeats 4000000
noncomputable def X78 (x4:Int):Ctx:=⟨Try.f78,[(.row [(.int .i64 x4)])],false⟩
theorem zR (x1:Int) (x2:Int) (x3:Bool) (x4:Int):Tri Try.prog 78 [(.agg [(.int .u8 x1),(.int .i64 x2),(.bool x3)]),(.hp 0 0)] [(.row [(.int .i64 x4)])] (.bool (eqI x2 x4)) [(.row [(.int .i64 x4)])]:=by
 obtain⟨r,h⟩:∃r,yX x1 x2 x3 x4=r:=⟨_,rfl⟩
 try rw[h]
 unfold yX at h
 obtain rfl:=h
 exact Tri.of (x:=(X78 x4)) aE facts78 [.norm 0 ⟨[(3,[])],[],false,[],[]⟩] [] (by kernel_rfl)
end Go.Ws

namespace Go.Ws
open Go.Proofs
set_option linter.unusedSimpArgs false
set_option linter.unusedVariables false
set_option maxRecDepth 1000000
set_option maxHeartbeats 4000000
noncomputable def X92 (x1:Ty8) (x2:Int):Ctx:=⟨Try.f92,[(.arr 3 (List.map aD x1) 0 0 false),(.row [(.int .i64 x2)])],false⟩
noncomputable def L92_0:Code:=at_ Try.f92 [1,0,1,4,5]
def S92_0 (x1:Ty8) (x2:Int) (cN:Int):St:=⟨mkT 19 [(0,(.ref 3 0 0 0 x1.length .virt)),(1,(.fn 78 [(.hp 1 0)])),(7,(.int .i64 (nI x1.length))),(8,(.int .i64 cN))],[(.arr 3 (List.map aD x1) 0 0 false),(.row [(.int .i64 x2)])]⟩
def aKO (x1:Ty8) (x2:Int):St:=⟨mkT 19 [],[(.arr 3 (List.map aD x1) 0 0 false),(.row [(.int .i64 x2)])]⟩
def O92_0 (x1:Ty8) (x2:Int) (y:(Sum (Unit) (Int))):GX:=match y with
 | .inl y=>.st (.exit 0) (aKO x1 x2)
 | .inr y=>.fin (.int .i64 y) [(.arr 3 (List.map aD x1) 0 0 false),(.row [(.int .i64 x2)])]
theorem kR (x1:Ty8) (x2:Int) (y:(Sum (Unit) (Int))):∀(k:Nat) (cN:Int),bP k x1 x2 cN=some y→LT Try.prog (X92 x1 x2) L92_0 (S92_0 x1 x2 cN) (O92_0 x1 x2 y)
 | 0,cN,h=>by cases h
 | k+1,cN,h=>by
  rw[bP] at h
  by_cases cL0:ltI cN (nI x1.length)=true
  · rw[if_pos cL0] at h
    by_cases cL1:inI cN x1.length=true
    · rw[if_pos cL1] at h
      obtain⟨nD,eL2,h⟩:=bsm h
      let u1:List Ans:=[dt,.row [(.int .u8 nD.1),(.int .i64 nD.2.1),(.bool nD.2.2)],.call ⟨false,[]⟩ (.bool (eqI nD.2.1 x2)) [(.row [(.int .i64 x2)])]]
      let w2:List Prf:=[⟨(zR nD.1 nD.2.1 nD.2.2 x2)⟩,⟨(b7 (e:=aD) eL2 3 0 3 (by decide))⟩,⟨cL1⟩,⟨cL0⟩]
      by_cases cL3:eqI nD.2.1 x2=true
      · rw[if_pos cL3] at h
        obtain rfl:=osi h
        show LT _ _ _ _ (.fin (.int .i64 cN) [(.arr 3 (List.map aD x1) 0 0 false),(.row [(.int .i64 x2)])])
        exact LT.done aE (hs:=⟨[],[],false,[],[]⟩) (es:=none) (u1++[dt,.norm 0 ⟨[(4,[])],[],false,[],[]⟩]) ([⟨cL3⟩]++w2) (by kernel_rfl) (fun s h=>by cases h)
      rw[if_neg cL3] at h;replace cL3:=eqf cL3
      exact LT.next aE (hs:=⟨[(0,[]),(1,[]),(7,[]),(8,[])],[],false,[],[]⟩) (es:=none) (u1++[df]) ([⟨cL3⟩]++w2) (by kernel_rfl) (kR x1 x2 y k (aH .i64 cN 1) h)
    rw[if_neg cL1] at h;replace cL1:=eqf cL1
    cases h
  rw[if_neg cL0] at h;replace cL0:=eqf cL0
  obtain rfl:=osi h
  show LT _ _ _ _ (.st (.exit 0) (aKO x1 x2))
  exact LT.done aE (hs:=⟨[],[],false,[],[]⟩) (es:=(some ⟨[],[],false,[],[]⟩)) [df] [⟨cL0⟩] (by kernel_rfl) (fun s h=>by cases h)
theorem yJ (k:Nat) (x1:Ty8) (x2:Int) (r:Int) (h:iH k x1 x2=some r):Tri Try.prog 92 [(.ref 3 0 0 0 x1.length .virt),(.fn 78 [(.hp 1 0)])] [(.arr 3 (List.map aD x1) 0 0 false),(.row [(.int .i64 x2)])] (.int .i64 r) [(.arr 3 (List.map aD x1) 0 0 false),(.row [(.int .i64 x2)])]:=by
 unfold iH at h
 obtain⟨x3,e0,h⟩:=bsm h
 cases x3 with
 | inl x4 =>
  simp only[Sum.elim_inl] at h
  obtain rfl:=osi h
  exact Tri.of (x:=(X92 x1 x2)) aE aO3 [.norm 2 ⟨[(0,[]),(1,[]),(7,[]),(8,[])],[],false,[],[]⟩,.out (.st .normal (aKO x1 x2)),.norm 0 ⟨[(4,[])],[],false,[],[]⟩] [⟨(LT.block (kR x1 x2 _ k 0 e0))⟩] (by kernel_rfl)
 | inr x4 =>
  simp only[Sum.elim_inr] at h
  obtain rfl:=osi h
  exact Tri.of (x:=(X92 x1 x2)) aE aO3 [.norm 2 ⟨[(0,[]),(1,[]),(7,[]),(8,[])],[],false,[],[]⟩,.out (.fin (.int .i64 x4) [(.arr 3 (List.map aD x1) 0 0 false),(.row [(.int .i64 x2)])])] [⟨(LT.blockFin (id:=0) (kR x1 x2 _ k 0 e0))⟩] (by kernel_rfl)
end Go.Ws

namespace Go.Ws
open Go.Proofs
set_option linter.unusedSimpArgs false
set_option linter.unusedVariables false
set_option maxRecDepth 1000000
set_option maxHeartbeats 4000000
noncomputable def X77 (x1:Ty8) (x2:Int):Ctx:=⟨Try.f77,[(.arr 3 (List.map aD x1) 0 0 false),(.row [(.int .i64 x2)])],false⟩
noncomputable def L77_0:Code:=at_ Try.f77 [1,1,1,0,1,4,5]
def S77_0 (x1:Ty8) (x2:Int) (cO:Int) (b9:Int) (cP:Ty8):St:=⟨mkT 42 [(0,(.ref 3 0 0 0 x1.length .virt)),(1,(.fn 78 [(.hp 1 0)])),(5,(.int .i64 b9)),(6,(.int .i64 cO))],[(.arr 3 (List.map aD cP) 0 0 false),(.row [(.int .i64 x2)])]⟩
def aJ0 (x1:Ty8) (x2:Int) (v77002_1:Int) (v77002_2:Ty8):St:=⟨mkT 42 [(0,(.ref 3 0 0 0 x1.length .virt)),(5,(.int .i64 v77002_1))],[(.arr 3 (List.map aD v77002_2) 0 0 false),(.row [(.int .i64 x2)])]⟩
def O77_0 (x1:Ty8) (x2:Int) (y:(Int × Ty8)):GX:=.st (.exit 0) (aJ0 x1 x2 y.1 y.2)
theorem mD (x1:Ty8) (x2:Int) (y:(Int × Ty8)):∀(k:Nat) (cO:Int) (b9:Int) (cP:Ty8),bU k x1 x2 cO b9 cP=some y→LT Try.prog (X77 x1 x2) L77_0 (S77_0 x1 x2 cO b9 cP) (O77_0 x1 x2 y)
 | 0,cO,b9,cP,h=>by cases h
 | k+1,cO,b9,cP,h=>by
  rw[bU] at h
  by_cases cL0:ltI cO (nI x1.length)=true
  · rw[if_pos cL0] at h
    by_cases cL1:inI cO x1.length=true
    · rw[if_pos cL1] at h
      obtain⟨g8,eL2,h⟩:=bsm h
      let u1:List Ans:=[dt,.row [(.int .u8 g8.1),(.int .i64 g8.2.1),(.bool g8.2.2)],.call ⟨false,[]⟩ (.bool (eqI g8.2.1 x2)) [(.row [(.int .i64 x2)])]]
      let w2:List Prf:=[⟨(zR g8.1 g8.2.1 g8.2.2 x2)⟩,⟨(b7 (e:=aD) eL2 3 0 3 (by decide))⟩,⟨cL1⟩,⟨cL0⟩]
      by_cases cL3:eqI g8.2.1 x2=true
      · rw[if_pos cL3] at h
        exact LT.next aE (hs:=⟨[(0,[]),(1,[]),(5,[]),(6,[])],[],false,[],[]⟩) (es:=none) (u1++[df]) ([⟨(nF cL3)⟩]++w2) (by kernel_rfl) (mD x1 x2 y k (aH .i64 cO 1) b9 cP h)
      rw[if_neg cL3] at h;replace cL3:=eqf cL3
      by_cases cL4:inI b9 x1.length=true
      · rw[if_pos cL4] at h
        obtain⟨aM5,eL5,h⟩:=bsm h
        exact LT.next aE (hs:=⟨[(0,[]),(1,[]),(5,[]),(6,[])],[],false,[],[]⟩) (es:=none) (u1++[dt,.rows (List.map aD (List.set cP (tN b9) g8))]) ([⟨(wA (e:=aD) eL5 0 [(.int .u8 g8.1),(.int .i64 g8.2.1),(.bool g8.2.2)] g8 rfl)⟩,⟨cL4⟩,⟨(nT cL3)⟩]++w2) (by kernel_rfl) (mD x1 x2 y k (aH .i64 cO 1) (aH .i64 b9 1) (List.set cP (tN b9) g8) h)
      rw[if_neg cL4] at h;replace cL4:=eqf cL4
      cases h
    rw[if_neg cL1] at h;replace cL1:=eqf cL1
    cases h
  rw[if_neg cL0] at h;replace cL0:=eqf cL0
  obtain rfl:=osi h
  show LT _ _ _ _ (.st (.exit 0) (aJ0 x1 x2 b9 cP))
  exact LT.done aE (hs:=⟨[],[],false,[],[]⟩) (es:=(some ⟨[(0,[]),(5,[])],[],false,[],[]⟩)) [df] [⟨cL0⟩] (by kernel_rfl) (fun s h=>by cases h)
theorem zP (k:Nat) (x1:Ty8) (x2:Int) (r:Nat × Ty8) (h:jM k x1 x2=some r):Tri Try.prog 77 [(.ref 3 0 0 0 x1.length .virt),(.fn 78 [(.hp 1 0)])] [(.arr 3 (List.map aD x1) 0 0 false),(.row [(.int .i64 x2)])] (.ref 3 0 0 0 r.1 .virt) [(.arr 3 (List.map aD r.2) 0 0 false),(.row [(.int .i64 x2)])]:=by
 unfold jM at h
 obtain⟨x3,e0,h⟩:=bsm h
 let w4:List Prf:=[⟨(yJ k x1 x2 _ e0)⟩]
 by_cases c1:eqI x3 (-1)=true
 · rw[if_pos c1] at h
   obtain rfl:=osi h
   exact Tri.of (x:=(X77 x1 x2)) aE aKN [.call ⟨false,[]⟩ (.int .i64 x3) [(.arr 3 (List.map aD x1) 0 0 false),(.row [(.int .i64 x2)])],dt,.norm 0 ⟨[(4,[])],[],false,[],[]⟩] ([⟨c1⟩]++w4) (by kernel_rfl)
 rw[if_neg c1] at h;replace c1:=eqf c1
 obtain⟨x5,e2,h⟩:=bsm h
 by_cases c4:isZ x1.length=true
 · rw[if_pos c4] at h
   cases h
 rw[if_neg c4] at h;replace c4:=eqf c4
 by_cases c5:tE x1.length x5.2.length=true
 · rw[if_pos c5] at h
   by_cases c6:leI x5.1 x1.length=true
   · rw[if_pos c6] at h
     let u5:List Ans:=[.call ⟨false,[]⟩ (.int .i64 x3) [(.arr 3 (List.map aD x1) 0 0 false),(.row [(.int .i64 x2)])],df,.norm 2 ⟨[(0,[]),(1,[]),(5,[]),(6,[])],[],false,[],[]⟩,.out (.st .normal (aJ0 x1 x2 x5.1 x5.2)),df,.n x5.2.length,.n x5.2.length,.n (tN x5.1),.n (x1.length - (tN x5.1))]
     let w6:List Prf:=[⟨(rfl:x1.length - (tN x5.1)=x1.length - (tN x5.1))⟩,⟨((Nat.zero_add _):0+(tN x5.1)=tN x5.1)⟩,⟨c6⟩,⟨(rfl:x5.2.length - 0=x5.2.length)⟩,⟨(aK6 ((aGG c5):x1.length≤x5.2.length))⟩,⟨(aS aD x5.2)⟩,⟨c4⟩,⟨(LT.block (mD x1 x2 _ k (aH .i64 x3 1) x3 x1 e2))⟩,⟨c1⟩]++w4
     by_cases c7:isZ (x1.length - (tN x5.1))=true
     · rw[if_pos c7] at h
       by_cases c8:leI x5.1 x5.2.length=true
       · rw[if_pos c8] at h
         obtain rfl:=osi h
         exact Tri.of (x:=(X77 x1 x2)) aE aKN (u5++[dt,df,.n x5.2.length,.n x5.2.length,.n 0,.n (tN x5.1),.norm 0 ⟨[(4,[])],[],false,[],[]⟩]) ([⟨(rfl:(tN x5.1) - 0=tN x5.1)⟩,⟨((Nat.zero_add _):0+0=0)⟩,⟨c8⟩,⟨(rfl:x5.2.length - 0=x5.2.length)⟩,⟨(aK6 ((aGG c5):x1.length≤x5.2.length))⟩,⟨(aS aD x5.2)⟩,⟨c4⟩,⟨c7⟩]++w6) (by kernel_rfl)
       rw[if_neg c8] at h;replace c8:=eqf c8
       cases h
     rw[if_neg c7] at h;replace c7:=eqf c7
     by_cases c8:tE (tN x5.1+(x1.length - (tN x5.1))) x5.2.length=true
     · rw[if_pos c8] at h
       by_cases c9:tE (tN x5.1) x5.2.length=true
       · rw[if_pos c9] at h
         by_cases c10:tE x1.length ((((List.take (tN x5.1) x5.2)++(List.replicate (x1.length - (tN x5.1)) (0,0,false)))++(List.drop (tN x5.1+(x1.length - (tN x5.1))) x5.2)).length)=true
         · rw[if_pos c10] at h
           by_cases c11:leI x5.1 ((((List.take (tN x5.1) x5.2)++(List.replicate (x1.length - (tN x5.1)) (0,0,false)))++(List.drop (tN x5.1+(x1.length - (tN x5.1))) x5.2)).length)=true
           · rw[if_pos c11] at h
             obtain rfl:=osi h
             exact Tri.of (x:=(X77 x1 x2)) aE aKN (u5++[df,.rows (List.map aD (((List.take (tN x5.1) x5.2)++(List.replicate (x1.length - (tN x5.1)) (0,0,false)))++(List.drop (tN x5.1+(x1.length - (tN x5.1))) x5.2))),df,.n ((((List.take (tN x5.1) x5.2)++(List.replicate (x1.length - (tN x5.1)) (0,0,false)))++(List.drop (tN x5.1+(x1.length - (tN x5.1))) x5.2)).length),.n ((((List.take (tN x5.1) x5.2)++(List.replicate (x1.length - (tN x5.1)) (0,0,false)))++(List.drop (tN x5.1+(x1.length - (tN x5.1))) x5.2)).length),.n 0,.n (tN x5.1),.norm 0 ⟨[(4,[])],[],false,[],[]⟩]) ([⟨(rfl:(tN x5.1) - 0=tN x5.1)⟩,⟨((Nat.zero_add _):0+0=0)⟩,⟨c11⟩,⟨(rfl:((((List.take (tN x5.1) x5.2)++(List.replicate (x1.length - (tN x5.1)) (0,0,false)))++(List.drop (tN x5.1+(x1.length - (tN x5.1))) x5.2)).length) - 0=(((List.take (tN x5.1) x5.2)++(List.replicate (x1.length - (tN x5.1)) (0,0,false)))++(List.drop (tN x5.1+(x1.length - (tN x5.1))) x5.2)).length)⟩,⟨(aK6 ((aGG c10):x1.length≤(((List.take (tN x5.1) x5.2)++(List.replicate (x1.length - (tN x5.1)) (0,0,false)))++(List.drop (tN x5.1+(x1.length - (tN x5.1))) x5.2)).length))⟩,⟨(aS aD (((List.take (tN x5.1) x5.2)++(List.replicate (x1.length - (tN x5.1)) (0,0,false)))++(List.drop (tN x5.1+(x1.length - (tN x5.1))) x5.2)))⟩,⟨c4⟩,⟨(aQ5 aD x5.2 (tN x5.1) (x1.length - (tN x5.1)) (0,0,false))⟩,⟨(le_mapI aD (aGG c8))⟩,⟨c7⟩]++w6) (by kernel_rfl)
           rw[if_neg c11] at h;replace c11:=eqf c11
           cases h
         rw[if_neg c10] at h;replace c10:=eqf c10
         cases h
       rw[if_neg c9] at h;replace c9:=eqf c9
       cases h
     rw[if_neg c8] at h;replace c8:=eqf c8
     cases h
   rw[if_neg c6] at h;replace c6:=eqf c6
   cases h
 rw[if_neg c5] at h;replace c5:=eqf c5
 cases h
end Go.Ws

namespace Go.Ws
open Go.Proofs
set_option linter.unusedSimpArgs false
set_option linter.unusedVariables false
set_option maxRecDepth 1000000
set_option maxHeartbeats 4000000
noncomputable def X61:Ctx:=⟨Try.f61,[],true⟩
theorem kY (k:Nat) (x1:Ty8) (x2:Int) (r:Ty8) (h:kC k x1 x2=some r):Tri Try.prog 61 [(.sl 3 (List.map aD x1)),(.int .i64 x2)] [] (.sl 3 (List.map aD r)) []:=by
 unfold kC at h
 obtain⟨x3,e0,h⟩:=bsm h
 obtain⟨x4,e1,h⟩:=bsm h
 by_cases c2:tE x4.1 x4.2.length=true
 · rw[if_pos c2] at h
   obtain rfl:=osi h
   exact Tri.of (x:=X61) aE facts61 [.call ⟨true,[]⟩ (.ref 3 0 0 0 x1.length .virt) [(.arr 3 (List.map aD x1) 0 0 false)],.call ⟨false,[]⟩ (.ref 3 0 0 0 x4.1 .virt) [(.arr 3 (List.map aD x4.2) 0 0 false),(.row [(.int .i64 x2)])],.rows (List.map aD (List.take x4.1 x4.2))] [⟨(aRF aD x4.2 x4.1)⟩,⟨(eT aD (aGG c2))⟩,⟨(zP k x1 x2 _ e1)⟩,⟨(yM k x1 _ e0)⟩] (by kernel_rfl)
 rw[if_neg c2] at h;replace c2:=eqf c2
 cases h
end Go.Ws

namespace Go.Ws
open Go.Proofs
set_option linter.unusedSimpArgs false
set_option linter.unusedVariables false
set_option maxRecDepth 1000000
set_option maxHeartbeats 4000000
noncomputable def X59:Ctx:=⟨Try.f59,[],true⟩
def A59_0:Ans:=.norm 0 ⟨[(2,[]),(3,[(0,2)]),(4,[])],[⟨.tmp 2,[],none⟩],false,[],[]⟩
theorem aBA (k:Nat) (x1:Int) (x2:aG) (x3:Bool) (x4:Int) (r:Int × aG × Bool × Int × aG × Int) (h:pV k x1 x2 x3 x4=some r):Tri Try.prog 59 [(.agg [(.int .i64 x1),(.sl 2 (List.map aB x2)),(.bool x3),(.int .i64 x4)])] [] (.tup [(.agg [(.int .i64 r.1),(.sl 2 (List.map aB r.2.1)),(.bool r.2.2.1),(.int .i64 r.2.2.2.1)]),(.sl 2 (List.map aB r.2.2.2.2.1)),(.int .i64 r.2.2.2.2.2)]) []:=by
 unfold pV at h
 obtain⟨x5,e0,h⟩:=bsm h
 obtain⟨x6,e1,h⟩:=bsm h
 let u1:List Ans:=[.call ⟨true,[]⟩ (.agg [(.int .i64 x5.1),(.sl 2 (List.map aB x5.2.1)),(.bool x5.2.2.1),(.int .i64 x5.2.2.2)]) [],.call ⟨true,[]⟩ (.bool x6) []]
 let w2:List Prf:=[⟨(sF k x5.1 x5.2.1 x5.2.2.1 x5.2.2.2 _ e1)⟩,⟨(pR k x1 x2 x3 x4 _ e0)⟩]
 by_cases c2:x6=true
 · rw[if_pos c2] at h
   by_cases c3:eqI x5.1 1=true
   · rw[if_pos c3] at h
     by_cases c4:x5.2.2.1=true
     · rw[if_pos c4] at h
       obtain rfl:=osi h
       exact Tri.of (x:=X59) aE aFX (u1++[df,df,dt,A59_0]) ([⟨c4⟩,⟨(nF c3)⟩,⟨(nF c2)⟩]++w2) (by kernel_rfl)
     rw[if_neg c4] at h;replace c4:=eqf c4
     obtain⟨x7,e5,h⟩:=bsm h
     obtain rfl:=osi h
     exact Tri.of (x:=X59) aE aFX (u1++[df,df,df,.call ⟨true,[]⟩ (.ref 2 0 0 0 x5.2.1.length .virt) [(.arr 2 (List.map aB x5.2.1) 0 0 false)],.rows (List.map aB x5.2.1)]) ([⟨(b8 aB (l:=x5.2.1) (n:=x5.2.1.length) rfl)⟩,⟨(eT aB (Nat.le_refl x5.2.1.length):0+x5.2.1.length≤(List.map aB x5.2.1).length)⟩,⟨(gU k x5.2.1 _ e5)⟩,⟨c4⟩,⟨(nF c3)⟩,⟨(nF c2)⟩]++w2) (by kernel_rfl)
   rw[if_neg c3] at h;replace c3:=eqf c3
   obtain rfl:=osi h
   exact Tri.of (x:=X59) aE aFX (u1++[df,dt,A59_0]) ([⟨(nT c3)⟩,⟨(nF c2)⟩]++w2) (by kernel_rfl)
 rw[if_neg c2] at h;replace c2:=eqf c2
 obtain rfl:=osi h
 exact Tri.of (x:=X59) aE aFX (u1++[dt,A59_0]) ([⟨(nT c2)⟩]++w2) (by kernel_rfl)
end Go.Ws

namespace Go.Ws
open Go.Proofs
set_option linter.unusedSimpArgs false
set_option linter.unusedVariables false
set_option maxRecDepth 1000000
set_option maxHeartbeats 4000000
theorem vP (k:Nat) (x1:aG) (r:aG) (h:mE k x1=some r):Tri Try.prog 76 [(.sl 2 (List.map aB x1))] [] (.ref 2 0 0 0 r.length .virt) [(.arr 2 (List.map aB r) 0 0 false)]:=opp_tri h
end Go.Ws

namespace Go.Ws
open Go.Proofs
set_option linter.unusedSimpArgs false
set_option linter.unusedVariables false
set_option maxRecDepth 1000000
set_option maxHeartbeats 4000000
noncomputable def X60:Ctx:=⟨Try.f60,[],true⟩
def aDR:Ans:=.norm 0 ⟨[(4,[]),(5,[(0,2)]),(6,[])],[⟨.tmp 4,[],none⟩],false,[],[]⟩
theorem qO (k:Nat) (x1:Int) (x2:aG) (x3:Bool) (x4:Int) (x5:Int) (r:Int × aG × Bool × Int × aG × Int) (h:kX k x1 x2 x3 x4 x5=some r):Tri Try.prog 60 [(.agg [(.int .i64 x1),(.sl 2 (List.map aB x2)),(.bool x3),(.int .i64 x4)]),(.int .i64 x5)] [] (.tup [(.agg [(.int .i64 r.1),(.sl 2 (List.map aB r.2.1)),(.bool r.2.2.1),(.int .i64 r.2.2.2.1)]),(.sl 2 (List.map aB r.2.2.2.2.1)),(.int .i64 r.2.2.2.2.2)]) []:=by
 unfold kX at h
 obtain⟨x6,e0,h⟩:=bsm h
 obtain⟨x7,e1,h⟩:=bsm h
 let u1:List Ans:=[.call ⟨true,[]⟩ (.agg [(.int .i64 x6.1),(.sl 2 (List.map aB x6.2.1)),(.bool x6.2.2.1),(.int .i64 x6.2.2.2)]) [],.call ⟨true,[]⟩ (.bool x7) []]
 let w2:List Prf:=[⟨(sF k x6.1 x6.2.1 x6.2.2.1 x6.2.2.2 _ e1)⟩,⟨(pR k x1 x2 x3 x4 _ e0)⟩]
 by_cases c2:x7=true
 · rw[if_pos c2] at h
   let w4:List Prf:=[⟨(nF c2)⟩,⟨(nF c2)⟩,⟨(nF c2)⟩]++w2
   by_cases c3:eqI x5 1=true
   · rw[if_pos c3] at h
     let u5:List Ans:=u1++[df,df,df,df,df,df,df,df,df]
     let w6:List Prf:=[⟨rF⟩,⟨(nF c2)⟩,⟨(nF c3)⟩,⟨(nF c2)⟩,⟨(nF c3)⟩,⟨(nF c3)⟩]++w4
     by_cases c4:eqI x6.2.2.2 x5=true
     · rw[if_pos c4] at h
       obtain rfl:=osi h
       exact Tri.of (x:=X60) aE oP (u5++[dt,aDR]) ([⟨c4⟩]++w6) (by kernel_rfl)
     rw[if_neg c4] at h;replace c4:=eqf c4
     by_cases c5:eqI x6.1 3=true
     · rw[if_pos c5] at h
       obtain rfl:=osi h
       exact Tri.of (x:=X60) aE oP (u5++[df,dt,dt,dt,dt,dt,dt,aDR]) ([⟨rT⟩,⟨c5⟩,⟨c5⟩,⟨c5⟩,⟨c5⟩,⟨c5⟩,⟨c4⟩]++w6) (by kernel_rfl)
     rw[if_neg c5] at h;replace c5:=eqf c5
     let u9:List Ans:=u5++[df,df,df,df,dt,dt,dt,df,dt,df]
     let w10:List Prf:=[⟨c5⟩,⟨c3⟩,⟨c5⟩,⟨c3⟩,⟨c3⟩,⟨c3⟩,⟨c5⟩,⟨c5⟩,⟨c5⟩,⟨c4⟩]++w6
     by_cases c6:eqI x6.1 1=true
     · rw[if_pos c6] at h
       by_cases c7:eqB (eqI x5 1) x6.2.2.1=true
       · rw[if_pos c7] at h
         obtain rfl:=osi h
         exact Tri.of (x:=X60) aE oP (u9++[df,dt,aDR]) ([⟨c7⟩,⟨(nF c6)⟩]++w10) (by kernel_rfl)
       rw[if_neg c7] at h;replace c7:=eqf c7
       by_cases c8:x6.2.2.1=true
       · rw[if_pos c8] at h
         obtain⟨x8,e9,h⟩:=bsm h
         obtain rfl:=osi h
         exact Tri.of (x:=X60) aE oP (u9++[df,df,dt,.call ⟨true,[]⟩ (.ref 2 0 0 0 x8.length .virt) [(.arr 2 (List.map aB x8) 0 0 false)],.rows (List.map aB x8)]) ([⟨(b8 aB (l:=x8) (n:=x8.length) rfl)⟩,⟨(eT aB (Nat.le_refl x8.length):0+x8.length≤(List.map aB x8).length)⟩,⟨(vP k x6.2.1 _ e9)⟩,⟨c8⟩,⟨c7⟩,⟨(nF c6)⟩]++w10) (by kernel_rfl)
       rw[if_neg c8] at h;replace c8:=eqf c8
       obtain⟨x8,e9,h⟩:=bsm h
       obtain rfl:=osi h
       exact Tri.of (x:=X60) aE oP (u9++[df,df,df,.call ⟨true,[]⟩ (.ref 2 0 0 0 x6.2.1.length .virt) [(.arr 2 (List.map aB x6.2.1) 0 0 false)],.rows (List.map aB x6.2.1)]) ([⟨(b8 aB (l:=x6.2.1) (n:=x6.2.1.length) rfl)⟩,⟨(eT aB (Nat.le_refl x6.2.1.length):0+x6.2.1.length≤(List.map aB x6.2.1).length)⟩,⟨(gU k x6.2.1 _ e9)⟩,⟨c8⟩,⟨c7⟩,⟨(nF c6)⟩]++w10) (by kernel_rfl)
     rw[if_neg c6] at h;replace c6:=eqf c6
     obtain rfl:=osi h
     exact Tri.of (x:=X60) aE oP (u9++[dt,aDR]) ([⟨(nT c6)⟩]++w10) (by kernel_rfl)
   rw[if_neg c3] at h;replace c3:=eqf c3
   let u15:List Ans:=u1++[df,df,df,dt,dt,df,dt,df]
   let w16:List Prf:=[⟨(nF c2)⟩,⟨(nT c3)⟩,⟨(nF c2)⟩,⟨(nT c3)⟩,⟨(nT c3)⟩]++w4
   by_cases c4:eqI x5 2=true
   · rw[if_pos c4] at h
     by_cases c5:eqI x6.2.2.2 x5=true
     · rw[if_pos c5] at h
       obtain rfl:=osi h
       exact Tri.of (x:=X60) aE oP (u15++[df,dt,aDR]) ([⟨c5⟩,⟨(nF c4)⟩]++w16) (by kernel_rfl)
     rw[if_neg c5] at h;replace c5:=eqf c5
     by_cases c6:eqI x6.1 3=true
     · rw[if_pos c6] at h
       obtain rfl:=osi h
       exact Tri.of (x:=X60) aE oP (u15++[df,df,dt,dt,dt,dt,dt,dt,aDR]) ([⟨rT⟩,⟨c6⟩,⟨c6⟩,⟨c6⟩,⟨c6⟩,⟨c6⟩,⟨c5⟩,⟨(nF c4)⟩]++w16) (by kernel_rfl)
     rw[if_neg c6] at h;replace c6:=eqf c6
     let u21:List Ans:=u15++[df,df,df,df,df,df,df,df,df,df,df,df]
     let w22:List Prf:=[⟨rF⟩,⟨c6⟩,⟨c3⟩,⟨c6⟩,⟨c3⟩,⟨c3⟩,⟨c3⟩,⟨c6⟩,⟨c6⟩,⟨c6⟩,⟨c5⟩,⟨(nF c4)⟩]++w16
     by_cases c7:eqB (eqI x5 1) x6.2.2.1=true
     · rw[if_pos c7] at h
       obtain rfl:=osi h
       exact Tri.of (x:=X60) aE oP (u21++[dt,aDR]) ([⟨c7⟩]++w22) (by kernel_rfl)
     rw[if_neg c7] at h;replace c7:=eqf c7
     by_cases c8:x6.2.2.1=true
     · rw[if_pos c8] at h
       obtain⟨x8,e9,h⟩:=bsm h
       obtain rfl:=osi h
       exact Tri.of (x:=X60) aE oP (u21++[df,dt,.call ⟨true,[]⟩ (.ref 2 0 0 0 x8.length .virt) [(.arr 2 (List.map aB x8) 0 0 false)],.rows (List.map aB x8)]) ([⟨(b8 aB (l:=x8) (n:=x8.length) rfl)⟩,⟨(eT aB (Nat.le_refl x8.length):0+x8.length≤(List.map aB x8).length)⟩,⟨(vP k x6.2.1 _ e9)⟩,⟨c8⟩,⟨c7⟩]++w22) (by kernel_rfl)
     rw[if_neg c8] at h;replace c8:=eqf c8
     obtain⟨x8,e9,h⟩:=bsm h
     obtain rfl:=osi h
     exact Tri.of (x:=X60) aE oP (u21++[df,df,.call ⟨true,[]⟩ (.ref 2 0 0 0 x6.2.1.length .virt) [(.arr 2 (List.map aB x6.2.1) 0 0 false)],.rows (List.map aB x6.2.1)]) ([⟨(b8 aB (l:=x6.2.1) (n:=x6.2.1.length) rfl)⟩,⟨(eT aB (Nat.le_refl x6.2.1.length):0+x6.2.1.length≤(List.map aB x6.2.1).length)⟩,⟨(gU k x6.2.1 _ e9)⟩,⟨c8⟩,⟨c7⟩]++w22) (by kernel_rfl)
   rw[if_neg c4] at h;replace c4:=eqf c4
   obtain rfl:=osi h
   exact Tri.of (x:=X60) aE oP (u15++[dt,aDR]) ([⟨(nT c4)⟩]++w16) (by kernel_rfl)
 rw[if_neg c2] at h;replace c2:=eqf c2
 obtain rfl:=osi h
 exact Tri.of (x:=X60) aE oP (u1++[dt,dt,dt,dt,dt,dt,aDR]) ([⟨rT⟩,⟨(nT c2)⟩,⟨(nT c2)⟩,⟨(nT c2)⟩,⟨(nT c2)⟩,⟨(nT c2)⟩]++w2) (by kernel_rfl)
end Go.Ws

namespace Go.Ws
open Go.Proofs
set_option linter.unusedSimpArgs false
set_option linter.unusedVariables false
set_option maxRecDepth 1000000
set_option maxHeartbeats 4000000
noncomputable def X33_3 (x1:aG) (x2:Ty8) (x3:Ty2) (x4:Ty7):Ctx:=⟨Try.f33,[(.row [(.sl 2 (List.map aB x1)),(.sl 3 (List.map aD x2)),(.mp 1),(.ref 4 2 0 0 x4.length .virt)]),(.map (bA .i64 (fun y=>AV.agg (aC y)) x3) x3.length),(.arr 4 (List.map aA x4) 0 0 false)],false⟩
theorem tS (x1:aG) (x2:Ty8) (x3:Ty2) (x4:Ty7):Tri Try.prog 33 [(.hp 0 0)] [(.row [(.sl 2 (List.map aB x1)),(.sl 3 (List.map aD x2)),(.mp 1),(.ref 4 2 0 0 x4.length .virt)]),(.map (bA .i64 (fun y=>AV.agg (aC y)) x3) x3.length),(.arr 4 (List.map aA x4) 0 0 false)] (.bool (!false)) [(.row [(.sl 2 (List.map aB x1)),(.sl 3 (List.map aD x2)),(.mp 1),(.ref 4 2 0 0 x4.length .virt)]),(.map (bA .i64 (fun y=>AV.agg (aC y)) x3) x3.length),(.arr 4 (List.map aA x4) 0 0 false)]:=by
 obtain⟨r,h⟩:∃r,r6 x1 x2 x3 x4=r:=⟨_,rfl⟩
 try rw[h]
 unfold r6 at h
 obtain rfl:=h
 exact Tri.of (x:=(X33_3 x1 x2 x3 x4)) aE aOS [dt,dt,dt,dt,dt,dt,.norm 0 ⟨[(2,[])],[],false,[],[]⟩] [⟨(nT rfl)⟩,⟨(nT rfl)⟩,⟨(nT rfl)⟩,⟨(nT rfl)⟩,⟨(nT rfl)⟩,⟨(nT rfl)⟩] (by kernel_rfl)
end Go.Ws

namespace Go.Ws
open Go.Proofs
set_option linter.unusedSimpArgs false
set_option linter.unusedVariables false
set_option maxRecDepth 1000000
set_option maxHeartbeats 4000000
noncomputable def aHM (x9:aG) (x10:Ty8) (x11:Ty2) (x12:Ty7):Ctx:=⟨Try.f47,[(.row [(.sl 2 (List.map aB x9)),(.sl 3 (List.map aD x10)),(.mp 1),(.ref 4 2 0 0 x12.length .virt)]),(.map (bA .i64 (fun y=>AV.agg (aC y)) x11) x11.length),(.arr 4 (List.map aA x12) 0 0 false)],false⟩
noncomputable def L47_3_0:Code:=at_ Try.f47 [1,1,1,1,1,1,1,0,1,4,5]
def S47_3_0 (x2:aG) (x5:Int) (x6:Int) (x7:Int) (x8:Int) (x9:aG) (x11:Ty2) (x12:Ty7) (x13:Ty8 × Int) (cL:Int) (bZ:Int):St:=⟨mkT 92 [(5,(.hp 3 0)),(10,(.int .i64 cL)),(75,(.sl 2 (List.map aB x2))),(76,(.int .i64 (nI x2.length))),(77,(.int .i64 bZ))],[(.row [(.sl 2 (List.map aB x9)),(.sl 3 (List.map aD x13.1)),(.mp 1),(.ref 4 2 0 0 x12.length .virt)]),(.map (bA .i64 (fun y=>AV.agg (aC y)) x11) x11.length),(.arr 4 (List.map aA x12) 0 0 false),(.row [(.int .i64 x5),(.int .i64 x6),(.int .u8 x7),(.int .i64 x8)])]⟩
def aEX (x9:aG) (x11:Ty2) (x12:Ty7) (x13:Ty8 × Int) (aRW:Int):St:=⟨mkT 92 [(10,(.int .i64 aRW))],[(.row [(.sl 2 (List.map aB x9)),(.sl 3 (List.map aD x13.1)),(.mp 1),(.ref 4 2 0 0 x12.length .virt)]),(.map (bA .i64 (fun y=>AV.agg (aC y)) x11) x11.length),(.arr 4 (List.map aA x12) 0 0 false)]⟩
def O47_3_0 (x2:aG) (x5:Int) (x6:Int) (x7:Int) (x8:Int) (x9:aG) (x10:Ty8) (x11:Ty2) (x12:Ty7) (x13:Ty8 × Int) (y:(Int)):GX:=.st (.exit 0) (aEX x9 x11 x12 x13 y)
def aKM (x13:Ty8 × Int):Ans:=.call ⟨true,[]⟩ (.tup [(.sl 3 (List.map aD x13.1)),(.int .i64 x13.2)]) []
def aAN:Ans:=.norm 0 ⟨[(6,[]),(7,[])],[],false,[],[]⟩
theorem lK (x2:aG) (x5:Int) (x6:Int) (x7:Int) (x8:Int) (x9:aG) (x10:Ty8) (x11:Ty2) (x12:Ty7) (x13:Ty8 × Int) (y:(Int)):∀(k:Nat) (cL:Int) (bZ:Int),bJ k x2 x5 x6 x7 x8 x9 x10 x11 x12 x13 cL bZ=some y→LT Try.prog (aHM x9 x10 x11 x12) L47_3_0 (S47_3_0 x2 x5 x6 x7 x8 x9 x11 x12 x13 cL bZ) (O47_3_0 x2 x5 x6 x7 x8 x9 x10 x11 x12 x13 y)
 | 0,cL,bZ,h=>by cases h
 | k+1,cL,bZ,h=>by
  rw[bJ] at h
  by_cases cL0:ltI bZ (nI x2.length)=true
  · rw[if_pos cL0] at h
    by_cases cL1:inI bZ x2.length=true
    · rw[if_pos cL1] at h
      obtain⟨nN,eL2,h⟩:=bsm h
      let u1:List Ans:=[dt,.n x2.length,.row [(.int .u8 nN.1),(.int .i64 nN.2)]]
      let w2:List Prf:=[⟨(b7 (e:=aB) eL2 2 0 2 (by decide))⟩,⟨cL1⟩,⟨(aS aB x2)⟩,⟨cL0⟩]
      by_cases cL3:eqI nN.1 x7=true
      · rw[if_pos cL3] at h
        exact LT.next aE (hs:=⟨[(5,[]),(10,[]),(75,[]),(76,[]),(77,[])],[⟨.tmp 5,[],none⟩],false,[],[]⟩) (es:=none) (u1++[dt]) ([⟨cL3⟩]++w2) (by kernel_rfl) (lK x2 x5 x6 x7 x8 x9 x10 x11 x12 x13 y k (aH .i64 cL nN.2) (aH .i64 bZ 1) h)
      rw[if_neg cL3] at h;replace cL3:=eqf cL3
      exact LT.next aE (hs:=⟨[(5,[]),(10,[]),(75,[]),(76,[]),(77,[])],[⟨.tmp 5,[],none⟩],false,[],[]⟩) (es:=none) (u1++[df]) ([⟨cL3⟩]++w2) (by kernel_rfl) (lK x2 x5 x6 x7 x8 x9 x10 x11 x12 x13 y k cL (aH .i64 bZ 1) h)
    rw[if_neg cL1] at h;replace cL1:=eqf cL1
    cases h
  rw[if_neg cL0] at h;replace cL0:=eqf cL0
  obtain rfl:=osi h
  show LT _ _ _ _ (.st (.exit 0) (aEX x9 x11 x12 x13 cL))
  exact LT.done aE (hs:=⟨[],[],false,[],[]⟩) (es:=(some ⟨[(10,[])],[],false,[],[]⟩)) [df] [⟨cL0⟩] (by kernel_rfl) (fun s h=>by cases h)
theorem rK (k:Nat) (x1:Int) (x2:aG) (x3:Bool) (x4:Int) (x5:Int) (x6:Int) (x7:Int) (x8:Int) (x9:aG) (x10:Ty8) (x11:Ty2) (x12:Ty7) (r:Ty8 × Ty2 × Int × Int) (h:gR k x1 x2 x3 x4 x5 x6 x7 x8 x9 x10 x11 x12=some r):Tri Try.prog 47 [(.hp 0 0),(.agg [(.int .i64 x1),(.sl 2 (List.map aB x2)),(.bool x3),(.int .i64 x4)]),(.agg [(.int .i64 x5),(.int .i64 x6),(.int .u8 x7),(.int .i64 x8)])] [(.row [(.sl 2 (List.map aB x9)),(.sl 3 (List.map aD x10)),(.mp 1),(.ref 4 2 0 0 x12.length .virt)]),(.map (bA .i64 (fun y=>AV.agg (aC y)) x11) x11.length),(.arr 4 (List.map aA x12) 0 0 false)] (.tup [(.int .i64 r.2.2.2),(.int .i64 r.2.2.1)]) [(.row [(.sl 2 (List.map aB x9)),(.sl 3 (List.map aD r.1)),(.mp 1),(.ref 4 2 0 0 x12.length .virt)]),(.map (bA .i64 (fun y=>AV.agg (aC y)) r.2.1) r.2.1.length),(.arr 4 (List.map aA x12) 0 0 false)]:=by
 unfold gR at h
 by_cases c0:eqI x1 0=true
 · rw[if_pos c0] at h
   obtain⟨x13,e1,h⟩:=bsm h
   let w4:List Prf:=[⟨(aCE k x10 x6 x7 (eqI x5 3) _ e1)⟩,⟨(nF c0)⟩]
   by_cases c2:eqI x13.2 0=true
   · rw[if_pos c2] at h
     by_cases c3:eqI x5 3=true
     · rw[if_pos c3] at h
       obtain⟨x14,e4,h⟩:=bsm h
       let u7:List Ans:=[df,(aKM x13),df,dt,.call ⟨true,[]⟩ (.tup [(.agg [(.int .i64 x14.1),(.sl 2 (List.map aB x14.2.1)),(.bool x14.2.2.1),(.int .i64 x14.2.2.2.1)]),(.int .i64 x14.2.2.2.2)]) []]
       let w8:List Prf:=[⟨(aE5 k x1 x2 x3 x4 x7 x8 _ e4)⟩,⟨c3⟩,⟨(nF c2)⟩]++w4
       by_cases c5:eqI x14.2.2.2.2 0=true
       · rw[if_pos c5] at h
         by_cases c6:k9 x11 x6=true
         · rw[if_pos c6] at h
           obtain⟨x15,e7,h⟩:=bsm h
           obtain rfl:=osi h
           exact Tri.of (x:=(aHM x9 x10 x11 x12)) aE pN (u7++[df,.opt (some (.agg [(.int .i64 x15.1),(.sl 2 (List.map aB x15.2.1)),(.bool x15.2.2.1),(.int .i64 x15.2.2.2)])),.n (mIx x11 x6),.ents (bA .i64 (fun y=>AV.agg (aC y)) x11) x11.length,.ents (bA .i64 (fun y=>AV.agg (aC y)) (aR x11 x6 (x14.1,x14.2.1,x14.2.2.1,x14.2.2.2.1))) (aR x11 x6 (x14.1,x14.2.1,x14.2.2.1,x14.2.2.2.1)).length,aAN]) ([⟨(aKW .i64 (fun y=>AV.agg (aC y)) e7 (x14.1,x14.2.1,x14.2.2.1,x14.2.2.2.1))⟩,⟨(aMC .i64 (fun y=>AV.agg (aC y)) e7 (.agg [(.int .i64 0),(.sl 2 (List.map aB [])),(.bool false),(.int .i64 0)]))⟩,⟨(aFV .i64 (fun y=>AV.agg (aC y)) x11 x6)⟩,⟨(g4 .i64 (fun y=>AV.agg (aC y)) e7)⟩,⟨(nF c5)⟩]++w8) (by kernel_rfl)
         rw[if_neg c6] at h;replace c6:=eqf c6
         obtain rfl:=osi h
         exact Tri.of (x:=(aHM x9 x10 x11 x12)) aE pN (u7++[df,.opt none,.n (mIx x11 x6),.ents (bA .i64 (fun y=>AV.agg (aC y)) (aR x11 x6 (0,[],false,0))) (aR x11 x6 (0,[],false,0)).length,.ents (bA .i64 (fun y=>AV.agg (aC y)) (aR x11 x6 (x14.1,x14.2.1,x14.2.2.1,x14.2.2.2.1))) (aR x11 x6 (x14.1,x14.2.1,x14.2.2.1,x14.2.2.2.1)).length,aAN]) ([⟨(aO9 .i64 (fun y=>AV.agg (aC y)) (l:=x11) (q:=x6) (0,[],false,0) (x14.1,x14.2.1,x14.2.2.1,x14.2.2.2.1))⟩,⟨(aMO .i64 (fun y=>AV.agg (aC y)) c6 (0,[],false,0))⟩,⟨(aFV .i64 (fun y=>AV.agg (aC y)) x11 x6)⟩,⟨(j8 .i64 (fun y=>AV.agg (aC y)) c6)⟩,⟨(nF c5)⟩]++w8) (by kernel_rfl)
       rw[if_neg c5] at h;replace c5:=eqf c5
       obtain rfl:=osi h
       exact Tri.of (x:=(aHM x9 x10 x11 x12)) aE pN (u7++[dt,aAN]) ([⟨(nT c5)⟩]++w8) (by kernel_rfl)
     rw[if_neg c3] at h;replace c3:=eqf c3
     obtain⟨x14,e4,h⟩:=bsm h
     obtain⟨x16,e5,h⟩:=bsm h
     obtain rfl:=osi h
     exact Tri.of (x:=(aHM x9 x10 x11 x12)) aE pN [df,(aKM x13),df,df,.call ⟨true,[]⟩ (.int .i64 x14) [],.n x2.length,.norm 2 ⟨[(5,[]),(10,[]),(75,[]),(76,[]),(77,[])],[⟨.tmp 5,[],none⟩],false,[],[]⟩,.out (.st .normal (aEX x9 x11 x12 x13 x16)),aAN] ([⟨(LT.block (lK x2 x5 x6 x7 x8 x9 x10 x11 x12 x13 _ k x14 0 e5))⟩,⟨(aS aB x2)⟩,⟨(vU k x9 x7 _ e4)⟩,⟨c3⟩,⟨(nF c2)⟩]++w4) (by kernel_rfl)
   rw[if_neg c2] at h;replace c2:=eqf c2
   obtain rfl:=osi h
   exact Tri.of (x:=(aHM x9 x10 x11 x12)) aE pN [df,(aKM x13),dt,aAN] ([⟨(nT c2)⟩]++w4) (by kernel_rfl)
 rw[if_neg c0] at h;replace c0:=eqf c0
 obtain rfl:=osi h
 exact Tri.of (x:=(aHM x9 x10 x11 x12)) aE pN [dt,aAN] [⟨(nT c0)⟩] (by kernel_rfl)
end Go.Ws

namespace Go.Ws
open Go.Proofs
set_option linter.unusedSimpArgs false
set_option linter.unusedVariables false
set_option maxRecDepth 1000000
set_option maxHeartbeats 4000000
noncomputable def aBD (x9:aG) (x10:Ty8) (x11:Ty2) (x12:Ty7):Ctx:=⟨Try.f48,[(.row [(.sl 2 (List.map aB x9)),(.sl 3 (List.map aD x10)),(.mp 1),(.ref 4 2 0 0 x12.length .virt)]),(.map (bA .i64 (fun y=>AV.agg (aC y)) x11) x11.length),(.arr 4 (List.map aA x12) 0 0 false)],false⟩
def aPX (x13:Int × aG × Bool × Int × Int):Ans:=.call ⟨true,[]⟩ (.tup [(.agg [(.int .i64 x13.1),(.sl 2 (List.map aB x13.2.1)),(.bool x13.2.2.1),(.int .i64 x13.2.2.2.1)]),(.int .i64 x13.2.2.2.2)]) []
def aGC (x15:Ty8):Ans:=.call ⟨true,[]⟩ (.sl 3 (List.map aD x15)) []
def aGF (x13:Int × aG × Bool × Int × aG × Int):Ans:=.call ⟨true,[]⟩ (.tup [(.agg [(.int .i64 x13.1),(.sl 2 (List.map aB x13.2.1)),(.bool x13.2.2.1),(.int .i64 x13.2.2.2.1)]),(.sl 2 (List.map aB x13.2.2.2.2.1)),(.int .i64 x13.2.2.2.2.2)]) []
def aKR (x6:Int) (x11:Ty2) (x13:Int × aG × Bool × Int × aG × Int):Ans:=.ents (bA .i64 (fun y=>AV.agg (aC y)) (aR x11 x6 (x13.1,x13.2.1,x13.2.2.1,x13.2.2.2.1))) (aR x11 x6 (x13.1,x13.2.1,x13.2.2.1,x13.2.2.2.1)).length
def aJN (x14:aG × Int):Ans:=.call ⟨true,[]⟩ (.tup [(.sl 2 (List.map aB x14.1)),(.int .i64 x14.2)]) []
theorem aBK (k:Nat) (x1:Int) (x2:aG) (x3:Bool) (x4:Int) (x5:Int) (x6:Int) (x7:Int) (x8:Int) (x9:aG) (x10:Ty8) (x11:Ty2) (x12:Ty7) (r:aG × Ty8 × Ty2 × Int) (h:kS k x1 x2 x3 x4 x5 x6 x7 x8 x9 x10 x11 x12=some r):Tri Try.prog 48 [(.hp 0 0),(.agg [(.int .i64 x1),(.sl 2 (List.map aB x2)),(.bool x3),(.int .i64 x4)]),(.agg [(.int .i64 x5),(.int .i64 x6),(.int .u8 x7),(.int .i64 x8)])] [(.row [(.sl 2 (List.map aB x9)),(.sl 3 (List.map aD x10)),(.mp 1),(.ref 4 2 0 0 x12.length .virt)]),(.map (bA .i64 (fun y=>AV.agg (aC y)) x11) x11.length),(.arr 4 (List.map aA x12) 0 0 false)] (.int .i64 r.2.2.2) [(.row [(.sl 2 (List.map aB r.1)),(.sl 3 (List.map aD r.2.1)),(.mp 1),(.ref 4 2 0 0 x12.length .virt)]),(.map (bA .i64 (fun y=>AV.agg (aC y)) r.2.2.1) r.2.2.1.length),(.arr 4 (List.map aA x12) 0 0 false)]:=by
 unfold kS at h
 by_cases c0:eqI x5 4=true
 · rw[if_pos c0] at h
   obtain⟨x13,e1,h⟩:=bsm h
   let w2:List Prf:=[⟨(aDT k x1 x2 x3 x4 (!eqI x8 0) _ e1)⟩,⟨c0⟩]
   by_cases c2:eqI x13.2.2.2.2 0=true
   · rw[if_pos c2] at h
     obtain⟨x14,e3,h⟩:=bsm h
     let u3:List Ans:=[dt,(aPX x13),df,.ents (bA .i64 (fun y=>AV.agg (aC y)) (aR x11 x6 (x13.1,x13.2.1,x13.2.2.1,x13.2.2.2.1))) (aR x11 x6 (x13.1,x13.2.1,x13.2.2.1,x13.2.2.2.1)).length,.call ⟨true,[[],[(0,2)]]⟩ (.tup [(.sl 2 (List.map aB x14.1)),(.int .i64 x14.2)]) [],df,df,df,df]
     let w4:List Prf:=[⟨(nF c0)⟩,⟨(nF c0)⟩,⟨(nF c0)⟩,⟨(nF c0)⟩,⟨(iZ k x9 [] _ e3)⟩,⟨(jK .i64 (fun y=>AV.agg (aC y)) x11 x6 (x13.1,x13.2.1,x13.2.2.1,x13.2.2.2.1))⟩,⟨(nF c2)⟩]++w2
     by_cases c4:eqI x13.1 2=true
     · rw[if_pos c4] at h
       obtain⟨x15,e5,h⟩:=bsm h
       obtain rfl:=osi h
       exact Tri.of (x:=(aBD x9 x10 x11 x12)) aE jN (u3++[dt,(aGC x15),.norm 0 ⟨[(6,[])],[],false,[],[]⟩]) ([⟨(kY k x10 x6 _ e5)⟩,⟨c4⟩]++w4) (by kernel_rfl)
     rw[if_neg c4] at h;replace c4:=eqf c4
     obtain rfl:=osi h
     exact Tri.of (x:=(aBD x9 x10 x11 x12)) aE jN (u3++[df,.norm 0 ⟨[(6,[])],[],false,[],[]⟩]) ([⟨c4⟩]++w4) (by kernel_rfl)
   rw[if_neg c2] at h;replace c2:=eqf c2
   obtain rfl:=osi h
   exact Tri.of (x:=(aBD x9 x10 x11 x12)) aE jN [dt,(aPX x13),dt,.norm 0 ⟨[(6,[])],[],false,[],[]⟩] ([⟨(nT c2)⟩]++w2) (by kernel_rfl)
 rw[if_neg c0] at h;replace c0:=eqf c0
 by_cases c1:eqI x5 5=true
 · rw[if_pos c1] at h
   obtain⟨x13,e2,h⟩:=bsm h
   let w8:List Prf:=[⟨(aBA k x1 x2 x3 x4 _ e2)⟩,⟨c1⟩,⟨c0⟩]
   by_cases c3:eqI x13.2.2.2.2.2 0=true
   · rw[if_pos c3] at h
     obtain⟨x14,e4,h⟩:=bsm h
     obtain⟨x15,e5,h⟩:=bsm h
     obtain rfl:=osi h
     exact Tri.of (x:=(aBD x9 x10 x11 x12)) aE jN [df,dt,(aGF x13),df,(aKR x6 x11 x13),(aJN x14),dt,dt,dt,dt,dt,(aGC x15),.norm 0 ⟨[(6,[])],[],false,[],[]⟩] ([⟨(kY k x10 x6 _ e5)⟩,⟨rT⟩,⟨(nT c0)⟩,⟨(nT c0)⟩,⟨(nT c0)⟩,⟨(nT c0)⟩,⟨(iZ k x9 x13.2.2.2.2.1 _ e4)⟩,⟨(jK .i64 (fun y=>AV.agg (aC y)) x11 x6 (x13.1,x13.2.1,x13.2.2.1,x13.2.2.2.1))⟩,⟨(nF c3)⟩]++w8) (by kernel_rfl)
   rw[if_neg c3] at h;replace c3:=eqf c3
   obtain rfl:=osi h
   exact Tri.of (x:=(aBD x9 x10 x11 x12)) aE jN [df,dt,(aGF x13),dt,.norm 0 ⟨[(6,[])],[],false,[],[]⟩] ([⟨(nT c3)⟩]++w8) (by kernel_rfl)
 rw[if_neg c1] at h;replace c1:=eqf c1
 by_cases c2:eqI x8 1=true
 · rw[if_pos c2] at h
   obtain⟨x13,e3,h⟩:=bsm h
   let u11:List Ans:=[df,df,dt,dt,dt,dt,dt,(aGF x13)]
   let w12:List Prf:=[⟨(qO k x1 x2 x3 x4 x8 _ e3)⟩,⟨rT⟩,⟨c2⟩,⟨c2⟩,⟨c2⟩,⟨c2⟩,⟨c1⟩,⟨c0⟩]
   by_cases c4:eqI x13.2.2.2.2.2 0=true
   · rw[if_pos c4] at h
     obtain⟨x14,e5,h⟩:=bsm h
     obtain⟨x15,e6,h⟩:=bsm h
     obtain rfl:=osi h
     exact Tri.of (x:=(aBD x9 x10 x11 x12)) aE jN (u11++[df,(aKR x6 x11 x13),(aJN x14),dt,dt,dt,dt,dt,(aGC x15),.norm 0 ⟨[(6,[])],[],false,[],[]⟩]) ([⟨(kY k x10 x6 _ e6)⟩,⟨rT⟩,⟨(nT c0)⟩,⟨(nT c0)⟩,⟨(nT c0)⟩,⟨(nT c0)⟩,⟨(iZ k x9 x13.2.2.2.2.1 _ e5)⟩,⟨(jK .i64 (fun y=>AV.agg (aC y)) x11 x6 (x13.1,x13.2.1,x13.2.2.1,x13.2.2.2.1))⟩,⟨(nF c4)⟩]++w12) (by kernel_rfl)
   rw[if_neg c4] at h;replace c4:=eqf c4
   obtain rfl:=osi h
   exact Tri.of (x:=(aBD x9 x10 x11 x12)) aE jN (u11++[dt,.norm 0 ⟨[(6,[])],[],false,[],[]⟩]) ([⟨(nT c4)⟩]++w12) (by kernel_rfl)
 rw[if_neg c2] at h;replace c2:=eqf c2
 let w14:List Prf:=[⟨c2⟩,⟨c2⟩,⟨c2⟩,⟨c2⟩,⟨c1⟩,⟨c0⟩]
 by_cases c3:eqI x8 2=true
 · rw[if_pos c3] at h
   obtain⟨x13,e4,h⟩:=bsm h
   let u15:List Ans:=[df,df,df,df,df,df,dt,(aGF x13)]
   let w16:List Prf:=[⟨(qO k x1 x2 x3 x4 x8 _ e4)⟩,⟨c3⟩]++w14
   by_cases c5:eqI x13.2.2.2.2.2 0=true
   · rw[if_pos c5] at h
     obtain⟨x14,e6,h⟩:=bsm h
     obtain⟨x15,e7,h⟩:=bsm h
     obtain rfl:=osi h
     exact Tri.of (x:=(aBD x9 x10 x11 x12)) aE jN (u15++[df,(aKR x6 x11 x13),(aJN x14),dt,dt,dt,dt,dt,(aGC x15),.norm 0 ⟨[(6,[])],[],false,[],[]⟩]) ([⟨(kY k x10 x6 _ e7)⟩,⟨rT⟩,⟨(nT c0)⟩,⟨(nT c0)⟩,⟨(nT c0)⟩,⟨(nT c0)⟩,⟨(iZ k x9 x13.2.2.2.2.1 _ e6)⟩,⟨(jK .i64 (fun y=>AV.agg (aC y)) x11 x6 (x13.1,x13.2.1,x13.2.2.1,x13.2.2.2.1))⟩,⟨(nF c5)⟩]++w16) (by kernel_rfl)
   rw[if_neg c5] at h;replace c5:=eqf c5
   obtain rfl:=osi h
   exact Tri.of (x:=(aBD x9 x10 x11 x12)) aE jN (u15++[dt,.norm 0 ⟨[(6,[])],[],false,[],[]⟩]) ([⟨(nT c5)⟩]++w16) (by kernel_rfl)
 rw[if_neg c3] at h;replace c3:=eqf c3
 obtain rfl:=osi h
 exact Tri.of (x:=(aBD x9 x10 x11 x12)) aE jN [df,df,df,df,df,df,df,dt,.norm 0 ⟨[(6,[])],[],false,[],[]⟩] ([⟨(nT (rfl:eqI 2 0=false))⟩,⟨c3⟩]++w14) (by kernel_rfl)
end Go.Ws

namespace Go.Ws
open Go.Proofs
set_option linter.unusedSimpArgs false
set_option linter.unusedVariables false
set_option maxRecDepth 1000000
set_option maxHeartbeats 4000000
noncomputable def X34_3 (x9:aG) (x10:Ty8) (x11:Ty2) (x12:Ty7):Ctx:=⟨Try.f34,[(.row [(.sl 2 (List.map aB x9)),(.sl 3 (List.map aD x10)),(.mp 1),(.ref 4 2 0 0 x12.length .virt)]),(.map (bA .i64 (fun y=>AV.agg (aC y)) x11) x11.length),(.arr 4 (List.map aA x12) 0 0 false)],false⟩
def aGA:Ans:=.norm 0 ⟨[(6,[]),(7,[])],[],false,[],[]⟩
def aPI (x9:aG) (x12:Ty7) (x13:Ty8 × Ty2 × Int × Int):Ans:=.call ⟨true,[]⟩ (.tup [(.int .i64 x13.2.2.2),(.int .i64 x13.2.2.1)]) [(.row [(.sl 2 (List.map aB x9)),(.sl 3 (List.map aD x13.1)),(.mp 1),(.ref 4 2 0 0 x12.length .virt)]),(.map (bA .i64 (fun y=>AV.agg (aC y)) x13.2.1) x13.2.1.length),(.arr 4 (List.map aA x12) 0 0 false)]
theorem tL (k:Nat) (x1:Int) (x2:aG) (x3:Bool) (x4:Int) (x5:Int) (x6:Int) (x7:Int) (x8:Int) (x9:aG) (x10:Ty8) (x11:Ty2) (x12:Ty7) (r:Int × Int × Ty8 × Ty2 × aG) (h:iQ k x1 x2 x3 x4 x5 x6 x7 x8 x9 x10 x11 x12=some r):Tri Try.prog 34 [(.hp 0 0),(.agg [(.int .i64 x1),(.sl 2 (List.map aB x2)),(.bool x3),(.int .i64 x4)]),(.agg [(.int .i64 x5),(.int .i64 x6),(.int .u8 x7),(.int .i64 x8)])] [(.row [(.sl 2 (List.map aB x9)),(.sl 3 (List.map aD x10)),(.mp 1),(.ref 4 2 0 0 x12.length .virt)]),(.map (bA .i64 (fun y=>AV.agg (aC y)) x11) x11.length),(.arr 4 (List.map aA x12) 0 0 false)] (.tup [(.int .i64 r.1),(.int .i64 r.2.1)]) [(.row [(.sl 2 (List.map aB r.2.2.2.2)),(.sl 3 (List.map aD r.2.2.1)),(.mp 1),(.ref 4 2 0 0 x12.length .virt)]),(.map (bA .i64 (fun y=>AV.agg (aC y)) r.2.2.2.1) r.2.2.2.1.length),(.arr 4 (List.map aA x12) 0 0 false)]:=by
 unfold iQ at h
 by_cases c0:eqI x5 1=true
 · rw[if_pos c0] at h
   obtain rfl:=osi h
   exact Tri.of (x:=(X34_3 x9 x10 x11 x12)) aE vI [dt,.ents (bA .i64 (fun y=>AV.agg (aC y)) (aR x11 x6 (x1,x2,x3,x4))) (aR x11 x6 (x1,x2,x3,x4)).length,aGA] [⟨(jK .i64 (fun y=>AV.agg (aC y)) x11 x6 (x1,x2,x3,x4))⟩,⟨c0⟩] (by kernel_rfl)
 rw[if_neg c0] at h;replace c0:=eqf c0
 by_cases c1:eqI x5 2=true
 · rw[if_pos c1] at h
   obtain⟨x13,e2,h⟩:=bsm h
   obtain rfl:=osi h
   exact Tri.of (x:=(X34_3 x9 x10 x11 x12)) aE vI [df,dt,dt,(aPI x9 x12 x13),aGA] [⟨(rK k x1 x2 x3 x4 x5 x6 x7 x8 x9 x10 x11 x12 _ e2)⟩,⟨c1⟩,⟨c1⟩,⟨c0⟩] (by kernel_rfl)
 rw[if_neg c1] at h;replace c1:=eqf c1
 by_cases c2:eqI x5 3=true
 · rw[if_pos c2] at h
   obtain⟨x13,e3,h⟩:=bsm h
   obtain rfl:=osi h
   exact Tri.of (x:=(X34_3 x9 x10 x11 x12)) aE vI [df,df,dt,(aPI x9 x12 x13),aGA] [⟨(rK k x1 x2 x3 x4 x5 x6 x7 x8 x9 x10 x11 x12 _ e3)⟩,⟨c2⟩,⟨c1⟩,⟨c0⟩] (by kernel_rfl)
 rw[if_neg c2] at h;replace c2:=eqf c2
 obtain⟨x13,e3,h⟩:=bsm h
 obtain rfl:=osi h
 exact Tri.of (x:=(X34_3 x9 x10 x11 x12)) aE vI [df,df,df,.call ⟨true,[]⟩ (.int .i64 x13.2.2.2) [(.row [(.sl 2 (List.map aB x13.1)),(.sl 3 (List.map aD x13.2.1)),(.mp 1),(.ref 4 2 0 0 x12.length .virt)]),(.map (bA .i64 (fun y=>AV.agg (aC y)) x13.2.2.1) x13.2.2.1.length),(.arr 4 (List.map aA x12) 0 0 false)],aGA] [⟨(aBK k x1 x2 x3 x4 x5 x6 x7 x8 x9 x10 x11 x12 _ e3)⟩,⟨c2⟩,⟨c1⟩,⟨c0⟩] (by kernel_rfl)
end Go.Ws

namespace Go.Ws
open Go.Proofs
set_option linter.unusedSimpArgs false
set_option linter.unusedVariables false
set_option maxRecDepth 1000000
set_option maxHeartbeats 4000000
noncomputable def aA6 (x5:aG) (x6:Ty8) (x7:Ty2) (x8:Ty7):Ctx:=⟨Try.f21,[(.row [(.sl 2 (List.map aB x5)),(.sl 3 (List.map aD x6)),(.mp 1),(.ref 4 2 0 0 x8.length .virt)]),(.map (bA .i64 (fun y=>AV.agg (aC y)) x7) x7.length),(.arr 4 (List.map aA x8) 0 0 false)],false⟩
def aPE (x5:aG) (x6:Ty8) (x7:Ty2) (x8:Ty7):Ans:=.call ⟨true,[]⟩ (.bool (!false)) [(.row [(.sl 2 (List.map aB x5)),(.sl 3 (List.map aD x6)),(.mp 1),(.ref 4 2 0 0 x8.length .virt)]),(.map (bA .i64 (fun y=>AV.agg (aC y)) x7) x7.length),(.arr 4 (List.map aA x8) 0 0 false)]
def sC:Ans:=.norm 0 ⟨[(4,[]),(5,[])],[],false,[],[none,none,some 1]⟩
theorem vE (k:Nat) (x1:Int) (x2:Int) (x3:Int) (x4:Int) (x5:aG) (x6:Ty8) (x7:Ty2) (x8:Ty7) (r:Int × Int × aG × Ty8 × Ty2 × Ty7) (h:kF k x1 x2 x3 x4 x5 x6 x7 x8=some r):Tri Try.prog 21 [(.hp 0 0),(.agg [(.int .i64 x1),(.int .i64 x2),(.int .u8 x3),(.int .i64 x4)])] [(.row [(.sl 2 (List.map aB x5)),(.sl 3 (List.map aD x6)),(.mp 1),(.ref 4 2 0 0 x8.length .virt)]),(.map (bA .i64 (fun y=>AV.agg (aC y)) x7) x7.length),(.arr 4 (List.map aA x8) 0 0 false)] (.tup [(.int .i64 r.2.1),(.int .i64 r.1)]) [(.row [(.sl 2 (List.map aB r.2.2.1)),(.sl 3 (List.map aD r.2.2.2.1)),(.mp 1),(.ref 4 2 1 0 r.2.2.2.2.2.length .virt)]),(.map (bA .i64 (fun y=>AV.agg (aC y)) r.2.2.2.2.1) r.2.2.2.2.1.length),(.arr 4 (List.map aA r.2.2.2.2.2) 1 1 false)]:=by
 unfold kF at h
 let w2:List Prf:=[⟨(nF (nT rfl))⟩,⟨(tS x5 x6 x7 x8)⟩]
 by_cases c0:ltI x1 1=true
 · rw[if_pos c0] at h
   obtain rfl:=osi h
   exact Tri.of (x:=(aA6 x5 x6 x7 x8)) aE jG [(aPE x5 x6 x7 x8),df,dt,dt,dt,dt,dt,dt,dt,dt,dt,dt,dt,dt,dt,sC] ([⟨rT⟩,⟨rT⟩,⟨rT⟩,⟨rT⟩,⟨rT⟩,⟨rT⟩,⟨rT⟩,⟨rT⟩,⟨rT⟩,⟨c0⟩,⟨c0⟩,⟨c0⟩,⟨c0⟩]++w2) (by kernel_rfl)
 rw[if_neg c0] at h;replace c0:=eqf c0
 let u3:List Ans:=[(aPE x5 x6 x7 x8),df,df,df,df,df]
 by_cases c1:ltI 6 x1=true
 · rw[if_pos c1] at h
   obtain rfl:=osi h
   exact Tri.of (x:=(aA6 x5 x6 x7 x8)) aE jG (u3++[dt,dt,dt,dt,dt,dt,dt,dt,dt,sC]) ([⟨rT⟩,⟨rT⟩,⟨rT⟩,⟨rT⟩,⟨rT⟩,⟨c1⟩,⟨c1⟩,⟨c1⟩,⟨c1⟩,⟨c0⟩,⟨c0⟩,⟨c0⟩,⟨c0⟩]++w2) (by kernel_rfl)
 rw[if_neg c1] at h;replace c1:=eqf c1
 let w6:List Prf:=[⟨c1⟩,⟨c1⟩,⟨c1⟩,⟨c1⟩,⟨c0⟩,⟨c0⟩,⟨c0⟩,⟨c0⟩]++w2
 by_cases c2:ltI x2 0=true
 · rw[if_pos c2] at h
   obtain rfl:=osi h
   exact Tri.of (x:=(aA6 x5 x6 x7 x8)) aE jG (u3++[df,df,df,df,dt,dt,dt,dt,dt,sC]) ([⟨rT⟩,⟨c2⟩,⟨c2⟩,⟨c2⟩,⟨c2⟩]++w6) (by kernel_rfl)
 rw[if_neg c2] at h;replace c2:=eqf c2
 let u7:List Ans:=u3++[df,df,df,df,df,df,df,df]
 by_cases c3:ltI x2 1000=true
 · rw[if_pos c3] at h
   let w10:List Prf:=[⟨(nF c3)⟩,⟨c2⟩,⟨c2⟩,⟨c2⟩,⟨c2⟩]++w6
   by_cases c4:k9 x7 x2=true
   · rw[if_pos c4] at h
     obtain⟨x9,e5,h⟩:=bsm h
     let w12:List Prf:=[⟨(g4 .i64 (fun y=>AV.agg (aC y)) e5)⟩]++w10
     by_cases c6:eqB true (eqI x1 1)=true
     · rw[if_pos c6] at h
       obtain rfl:=osi h
       exact Tri.of (x:=(aA6 x5 x6 x7 x8)) aE jG (u7++[df,.opt (some (.agg [(.int .i64 x9.1),(.sl 2 (List.map aB x9.2.1)),(.bool x9.2.2.1),(.int .i64 x9.2.2.2)])),dt,dt,sC]) ([⟨rT⟩,⟨c6⟩]++w12) (by kernel_rfl)
     rw[if_neg c6] at h;replace c6:=eqf c6
     obtain⟨x10,e7,h⟩:=bsm h
     let u13:List Ans:=u7++[df,.opt (some (.agg [(.int .i64 x9.1),(.sl 2 (List.map aB x9.2.1)),(.bool x9.2.2.1),(.int .i64 x9.2.2.2)])),df,.call ⟨true,[]⟩ (.tup [(.int .i64 x10.1),(.int .i64 x10.2.1)]) [(.row [(.sl 2 (List.map aB x10.2.2.2.2)),(.sl 3 (List.map aD x10.2.2.1)),(.mp 1),(.ref 4 2 0 0 x8.length .virt)]),(.map (bA .i64 (fun y=>AV.agg (aC y)) x10.2.2.2.1) x10.2.2.2.1.length),(.arr 4 (List.map aA x8) 0 0 false)]]
     let w14:List Prf:=[⟨(tL k x9.1 x9.2.1 x9.2.2.1 x9.2.2.2 x1 x2 x3 x4 x5 x6 x7 x8 _ e7)⟩,⟨c6⟩]++w12
     by_cases c8:eqI x10.2.1 0=true
     · rw[if_pos c8] at h
       by_cases c9:cR (((x8++[(x1,x2,x3,x4)]).length)*32)=true
       · rw[if_pos c9] at h
         obtain rfl:=osi h
         exact Tri.of (x:=(aA6 x5 x6 x7 x8)) aE jG (u13++[df,.rows (List.map aA [(x1,x2,x3,x4)]),.n ((x8++[(x1,x2,x3,x4)]).length),.n x8.length,dt,.rows (List.map aA (x8++[(x1,x2,x3,x4)])),sC]) ([⟨(aAV aA x8 [(x1,x2,x3,x4)])⟩,⟨(wT x8.length)⟩,⟨(aS aA x8)⟩,⟨c9⟩,⟨(by simp only[wl,List.length_map,List.map_nil,List.map_cons]<;>omega:x8.length+(List.map aA [(x1,x2,x3,x4)]).length=(x8++[(x1,x2,x3,x4)]).length)⟩,⟨(b8 aA (l:=[(x1,x2,x3,x4)]) (n:=1) rfl)⟩,⟨(eT aA (Nat.le_refl 1):0+1≤(List.map aA [(x1,x2,x3,x4)]).length)⟩,⟨(nF c8)⟩]++w14) (by kernel_rfl)
       rw[if_neg c9] at h;replace c9:=eqf c9
       cases h
     rw[if_neg c8] at h;replace c8:=eqf c8
     obtain rfl:=osi h
     exact Tri.of (x:=(aA6 x5 x6 x7 x8)) aE jG (u13++[dt,sC]) ([⟨(nT c8)⟩]++w14) (by kernel_rfl)
   rw[if_neg c4] at h;replace c4:=eqf c4
   let w16:List Prf:=[⟨(j8 .i64 (fun y=>AV.agg (aC y)) c4)⟩]++w10
   by_cases c5:eqB false (eqI x1 1)=true
   · rw[if_pos c5] at h
     obtain rfl:=osi h
     exact Tri.of (x:=(aA6 x5 x6 x7 x8)) aE jG (u7++[df,.opt none,dt,df,sC]) ([⟨rF⟩,⟨c5⟩]++w16) (by kernel_rfl)
   rw[if_neg c5] at h;replace c5:=eqf c5
   obtain⟨x9,e6,h⟩:=bsm h
   let u17:List Ans:=u7++[df,.opt none,df,.call ⟨true,[]⟩ (.tup [(.int .i64 x9.1),(.int .i64 x9.2.1)]) [(.row [(.sl 2 (List.map aB x9.2.2.2.2)),(.sl 3 (List.map aD x9.2.2.1)),(.mp 1),(.ref 4 2 0 0 x8.length .virt)]),(.map (bA .i64 (fun y=>AV.agg (aC y)) x9.2.2.2.1) x9.2.2.2.1.length),(.arr 4 (List.map aA x8) 0 0 false)]]
   let w18:List Prf:=[⟨(tL k 0 [] false 0 x1 x2 x3 x4 x5 x6 x7 x8 _ e6)⟩,⟨c5⟩]++w16
   by_cases c7:eqI x9.2.1 0=true
   · rw[if_pos c7] at h
     by_cases c8:cR (((x8++[(x1,x2,x3,x4)]).length)*32)=true
     · rw[if_pos c8] at h
       obtain rfl:=osi h
       exact Tri.of (x:=(aA6 x5 x6 x7 x8)) aE jG (u17++[df,.rows (List.map aA [(x1,x2,x3,x4)]),.n ((x8++[(x1,x2,x3,x4)]).length),.n x8.length,dt,.rows (List.map aA (x8++[(x1,x2,x3,x4)])),sC]) ([⟨(aAV aA x8 [(x1,x2,x3,x4)])⟩,⟨(wT x8.length)⟩,⟨(aS aA x8)⟩,⟨c8⟩,⟨(by simp only[wl,List.length_map,List.map_nil,List.map_cons]<;>omega:x8.length+(List.map aA [(x1,x2,x3,x4)]).length=(x8++[(x1,x2,x3,x4)]).length)⟩,⟨(b8 aA (l:=[(x1,x2,x3,x4)]) (n:=1) rfl)⟩,⟨(eT aA (Nat.le_refl 1):0+1≤(List.map aA [(x1,x2,x3,x4)]).length)⟩,⟨(nF c7)⟩]++w18) (by kernel_rfl)
     rw[if_neg c8] at h;replace c8:=eqf c8
     cases h
   rw[if_neg c7] at h;replace c7:=eqf c7
   obtain rfl:=osi h
   exact Tri.of (x:=(aA6 x5 x6 x7 x8)) aE jG (u17++[dt,sC]) ([⟨(nT c7)⟩]++w18) (by kernel_rfl)
 rw[if_neg c3] at h;replace c3:=eqf c3
 obtain rfl:=osi h
 exact Tri.of (x:=(aA6 x5 x6 x7 x8)) aE jG (u7++[dt,sC]) ([⟨(nT c3)⟩,⟨c2⟩,⟨c2⟩,⟨c2⟩,⟨c2⟩]++w6) (by kernel_rfl)
end Go.Ws

namespace Go.Ws
open Go.Proofs
set_option linter.unusedSimpArgs false
set_option linter.unusedVariables false
set_option maxRecDepth 1000000
set_option maxHeartbeats 4000000
noncomputable def X27:Ctx:=⟨Try.f27,[],false⟩
noncomputable def L27_0:Code:=at_ Try.f27 [1,1,0,1,4,5]
def S27_0 (x1:Ty7) (dC:Int) (eO:aG) (eP:Ty8) (eE:Ty2) (eF:Ty7):St:=⟨mkT 26 [(4,(.hp 0 0)),(10,(.sl 4 (List.map aA x1))),(11,(.int .i64 (nI x1.length))),(12,(.int .i64 dC))],[(.row [(.sl 2 (List.map aB eO)),(.sl 3 (List.map aD eP)),(.mp 1),(.ref 4 2 0 0 eF.length .virt)]),(.map (bA .i64 (fun y=>AV.agg (aC y)) eE) eE.length),(.arr 4 (List.map aA eF) 0 0 false)]⟩
def aJJ (v27002_1:aG) (v27002_2:Ty8) (aM7:Ty2) (aM8:Ty7):St:=⟨mkT 26 [(4,(.hp 0 0))],[(.row [(.sl 2 (List.map aB v27002_1)),(.sl 3 (List.map aD v27002_2)),(.mp 1),(.ref 4 2 0 0 aM8.length .virt)]),(.map (bA .i64 (fun y=>AV.agg (aC y)) aM7) aM7.length),(.arr 4 (List.map aA aM8) 0 0 false)]⟩
def O27_0 (x1:Ty7) (y:Ty0):GX:=match y with
 | .inl y=>.st (.exit 0) (aJJ y.1 y.2.1 y.2.2.1 y.2.2.2)
 | .inr y=>.fin (Sum.elim (fun y=>(.tup [(.hp 0 0),(.int .i64 0)])) (fun y=>(.tup [.nilp,(.int .i64 4)])) y) (Sum.elim (fun y=>[(.row [(.sl 2 (List.map aB y.1)),(.sl 3 (List.map aD y.2.1)),(.mp 1),(.ref 4 2 0 0 y.2.2.2.length .virt)]),(.map (bA .i64 (fun y=>AV.agg (aC y)) y.2.2.1) y.2.2.1.length),(.arr 4 (List.map aA y.2.2.2) 0 0 false)]) (fun y=>[]) y)
theorem qQ (x1:Ty7) (y:Ty0):∀(k:Nat) (dC:Int) (eO:aG) (eP:Ty8) (eE:Ty2) (eF:Ty7),eZ k x1 dC eO eP eE eF=some y→LT Try.prog X27 L27_0 (S27_0 x1 dC eO eP eE eF) (O27_0 x1 y)
 | 0,dC,eO,eP,eE,eF,h=>by cases h
 | k+1,dC,eO,eP,eE,eF,h=>by
  rw[eZ] at h
  by_cases cL0:ltI dC (nI x1.length)=true
  · rw[if_pos cL0] at h
    by_cases cL1:inI dC x1.length=true
    · rw[if_pos cL1] at h
      obtain⟨iO,eL2,h⟩:=bsm h
      obtain⟨dD,eL3,h⟩:=bsm h
      let u1:List Ans:=[dt,.n x1.length,.row [(.int .i64 iO.1),(.int .i64 iO.2.1),(.int .u8 iO.2.2.1),(.int .i64 iO.2.2.2)],.call ⟨true,[]⟩ (.tup [(.int .i64 dD.2.1),(.int .i64 dD.1)]) [(.row [(.sl 2 (List.map aB dD.2.2.1)),(.sl 3 (List.map aD dD.2.2.2.1)),(.mp 1),(.ref 4 2 1 0 dD.2.2.2.2.2.length .virt)]),(.map (bA .i64 (fun y=>AV.agg (aC y)) dD.2.2.2.2.1) dD.2.2.2.2.1.length),(.arr 4 (List.map aA dD.2.2.2.2.2) 1 1 false)]]
      let w2:List Prf:=[⟨(vE k iO.1 iO.2.1 iO.2.2.1 iO.2.2.2 eO eP eE eF _ eL3)⟩,⟨(b7 (e:=aA) eL2 4 0 4 (by decide))⟩,⟨cL1⟩,⟨(aS aA x1)⟩,⟨cL0⟩]
      by_cases cL4:eqI dD.1 0=true
      · rw[if_pos cL4] at h
        exact LT.next aE (hs:=⟨[(4,[]),(10,[]),(11,[]),(12,[])],[⟨.tmp 4,[],none⟩,⟨.cell 0 2,[],none⟩,⟨.cell 0 3,[],some 4⟩],false,[],[]⟩) (es:=none) (u1++[df,.n dD.2.2.2.2.2.length,.rows (List.map aA dD.2.2.2.2.2)]) ([⟨(fF aA (l:=dD.2.2.2.2.2) (n:=dD.2.2.2.2.2.length) rfl)⟩,⟨(rfl:dD.2.2.2.2.2.length=dD.2.2.2.2.2.length)⟩,⟨(zle dD.2.2.2.2.2.length)⟩,⟨(nF cL4)⟩]++w2) (by kernel_rfl) (qQ x1 y k (aH .i64 dC 1) dD.2.2.1 dD.2.2.2.1 dD.2.2.2.2.1 dD.2.2.2.2.2 h)
      rw[if_neg cL4] at h;replace cL4:=eqf cL4
      obtain rfl:=osi h
      show LT _ _ _ _ (.fin (.tup [.nilp,(.int .i64 4)]) [])
      exact LT.done aE (hs:=⟨[],[],false,[],[]⟩) (es:=none) (u1++[dt,.norm 0 ⟨[(2,[]),(3,[])],[],false,[],[]⟩]) ([⟨(nT cL4)⟩]++w2) (by kernel_rfl) (fun s h=>by cases h)
    rw[if_neg cL1] at h;replace cL1:=eqf cL1
    cases h
  rw[if_neg cL0] at h;replace cL0:=eqf cL0
  obtain rfl:=osi h
  show LT _ _ _ _ (.st (.exit 0) (aJJ eO eP eE eF))
  exact LT.done aE (hs:=⟨[],[],false,[],[]⟩) (es:=(some ⟨[(4,[])],[⟨.tmp 4,[],none⟩,⟨.cell 0 2,[],none⟩,⟨.cell 0 3,[],none⟩],false,[],[]⟩)) [df] [⟨cL0⟩] (by kernel_rfl) (fun s h=>by cases h)
theorem y4 (k:Nat) (x1:Ty7) (r:Ty1) (h:p8 k x1=some r):Tri Try.prog 27 [(.sl 4 (List.map aA x1))] [] (Sum.elim (fun y=>(.tup [(.hp 0 0),(.int .i64 0)])) (fun y=>(.tup [.nilp,(.int .i64 4)])) r) (Sum.elim (fun y=>[(.row [(.sl 2 (List.map aB y.1)),(.sl 3 (List.map aD y.2.1)),(.mp 1),(.ref 4 2 0 0 y.2.2.2.length .virt)]),(.map (bA .i64 (fun y=>AV.agg (aC y)) y.2.2.1) y.2.2.1.length),(.arr 4 (List.map aA y.2.2.2) 0 0 false)]) (fun y=>[]) r):=by
 unfold p8 at h
 let u3:List Ans:=[.call ⟨true,[]⟩ (.hp 0 0) [(.row [.nils,.nils,(.mp 1),.nils]),(.map (bA .i64 (fun y=>AV.agg (aC y)) ([]:Ty2)) ([]:Ty2).length)],.n x1.length,.norm 2 ⟨[(4,[]),(10,[]),(11,[]),(12,[])],[⟨.tmp 4,[(0,2),(1,3)],none⟩,⟨.cell 0 2,[],none⟩,⟨.cell 0 3,[],some 4⟩],false,[],[]⟩,.n 0,.rows (List.map aA [])]
 let w4:List Prf:=[⟨(fF aA (l:=[]) (n:=0) rfl)⟩,⟨(rfl:0=0)⟩,⟨(zle 0)⟩,⟨(aS aA x1)⟩,⟨(aE8)⟩]
 obtain⟨x2,e0,h⟩:=bsm h
 cases x2 with
 | inl x3 =>
  simp only[Sum.elim_inl] at h
  obtain rfl:=osi h
  exact Tri.of (x:=X27) aE aPZ (u3++[.out (.st .normal (aJJ x3.1 x3.2.1 x3.2.2.1 x3.2.2.2)),.norm 0 ⟨[(2,[]),(3,[])],[⟨.tmp 2,[],none⟩,⟨.cell 0 2,[],none⟩,⟨.cell 0 3,[],none⟩],false,[],[]⟩]) ([⟨(LT.block (qQ x1 _ k 0 [] [] ([]:Ty2) [] e0))⟩]++w4) (by kernel_rfl)
 | inr x3 =>
  simp only[Sum.elim_inr] at h
  obtain rfl:=osi h
  exact Tri.of (x:=X27) aE aPZ (u3++[.out (.fin (Sum.elim (fun y=>(.tup [(.hp 0 0),(.int .i64 0)])) (fun y=>(.tup [.nilp,(.int .i64 4)])) x3) (Sum.elim (fun y=>[(.row [(.sl 2 (List.map aB y.1)),(.sl 3 (List.map aD y.2.1)),(.mp 1),(.ref 4 2 0 0 y.2.2.2.length .virt)]),(.map (bA .i64 (fun y=>AV.agg (aC y)) y.2.2.1) y.2.2.1.length),(.arr 4 (List.map aA y.2.2.2) 0 0 false)]) (fun y=>[]) x3))]) ([⟨(LT.blockFin (id:=0) (qQ x1 _ k 0 [] [] ([]:Ty2) [] e0))⟩]++w4) (by kernel_rfl)
end Go.Ws

namespace Go.Ws
open Go.Proofs
set_option linter.unusedSimpArgs false
set_option linter.unusedVariables false
set_option maxRecDepth 1000000
set_option maxHeartbeats 4000000
noncomputable def X9:Ctx:=⟨Try.f9,[],false⟩
noncomputable def L9_0:Code:=at_ Try.f9 [1,1,1,0,1,4,5]
def S9_0 (x1:Ty7) (dZ:Int) (eA:aG):St:=⟨mkT 33 [(6,(.mp 0)),(17,(.sl 4 (List.map aA x1))),(18,(.int .i64 (nI x1.length))),(19,(.int .i64 dZ))],[(.map (bA .i64 (fun y=>(bG y).headD aK) eA) eA.length)]⟩
def aOJ (aQI:aG):St:=⟨mkT 33 [(6,(.mp 0))],[(.map (bA .i64 (fun y=>(bG y).headD aK) aQI) aQI.length)]⟩
def O9_0 (x1:Ty7) (y:(aG)):GX:=.st (.exit 0) (aOJ y)
theorem r8 (x1:Ty7) (y:(aG)):∀(k:Nat) (dZ:Int) (eA:aG),fB k x1 dZ eA=some y→LT Try.prog X9 L9_0 (S9_0 x1 dZ eA) (O9_0 x1 y)
 | 0,dZ,eA,h=>by cases h
 | k+1,dZ,eA,h=>by
  rw[fB] at h
  by_cases cL0:ltI dZ (nI x1.length)=true
  · rw[if_pos cL0] at h
    by_cases cL1:inI dZ x1.length=true
    · rw[if_pos cL1] at h
      obtain⟨i5,eL2,h⟩:=bsm h
      let u1:List Ans:=[dt,.n x1.length,.row [(.int .i64 i5.1),(.int .i64 i5.2.1),(.int .u8 i5.2.2.1),(.int .i64 i5.2.2.2)]]
      let w2:List Prf:=[⟨(b7 (e:=aA) eL2 4 0 4 (by decide))⟩,⟨cL1⟩,⟨(aS aA x1)⟩,⟨cL0⟩]
      by_cases cL3:eqI i5.1 6=true
      · rw[if_pos cL3] at h
        exact LT.next aE (hs:=⟨[(6,[]),(17,[]),(18,[]),(19,[])],[⟨.tmp 6,[],none⟩],false,[],[]⟩) (es:=none) (u1++[dt,.ents (bA .i64 (fun y=>(bG y).headD aK) (aR eA i5.2.1 i5.2.2.2)) (aR eA i5.2.1 i5.2.2.2).length]) ([⟨(jK .i64 (fun y=>(bG y).headD aK) eA i5.2.1 i5.2.2.2)⟩,⟨cL3⟩]++w2) (by kernel_rfl) (r8 x1 y k (aH .i64 dZ 1) (aR eA i5.2.1 i5.2.2.2) h)
      rw[if_neg cL3] at h;replace cL3:=eqf cL3
      exact LT.next aE (hs:=⟨[(6,[]),(17,[]),(18,[]),(19,[])],[⟨.tmp 6,[],none⟩],false,[],[]⟩) (es:=none) (u1++[df]) ([⟨cL3⟩]++w2) (by kernel_rfl) (r8 x1 y k (aH .i64 dZ 1) eA h)
    rw[if_neg cL1] at h;replace cL1:=eqf cL1
    cases h
  rw[if_neg cL0] at h;replace cL0:=eqf cL0
  obtain rfl:=osi h
  show LT _ _ _ _ (.st (.exit 0) (aOJ eA))
  exact LT.done aE (hs:=⟨[],[],false,[],[]⟩) (es:=(some ⟨[(6,[])],[⟨.tmp 6,[],none⟩],false,[],[]⟩)) [df] [⟨cL0⟩] (by kernel_rfl) (fun s h=>by cases h)
theorem hI (k:Nat) (x1:Ty7) (r:(Sum (aG) (Unit))) (h:lJ k x1=some r):Tri Try.prog 9 [(.sl 4 (List.map aA x1))] [] (Sum.elim (fun y=>(.tup [(.mp 0),(.int .i64 0)])) (fun y=>(.tup [.mapn,(.int .i64 4)])) r) (Sum.elim (fun y=>[(.map (bA .i64 (fun y=>(bG y).headD aK) y) y.length)]) (fun y=>[]) r):=by
 unfold lJ at h
 obtain⟨x2,e0,h⟩:=bsm h
 cases x2 with
 | inl x3 =>
  simp only[Sum.elim_inl] at h
  obtain⟨x5,e2,h⟩:=bsm h
  obtain rfl:=osi h
  exact Tri.of (x:=X9) aE facts9 [.call ⟨true,[]⟩ (.tup [(.hp 0 0),(.int .i64 0)]) [(.row [(.sl 2 (List.map aB x3.1)),(.sl 3 (List.map aD x3.2.1)),(.mp 1),(.ref 4 2 0 0 x3.2.2.2.length .virt)]),(.map (bA .i64 (fun y=>AV.agg (aC y)) x3.2.2.1) x3.2.2.1.length),(.arr 4 (List.map aA x3.2.2.2) 0 0 false)],df,.n x1.length,.norm 2 ⟨[(6,[]),(17,[]),(18,[]),(19,[])],[⟨.tmp 6,[],none⟩],false,[],[]⟩,.out (.st .normal (aOJ x5)),.norm 0 ⟨[(2,[]),(3,[])],[⟨.tmp 2,[],none⟩],false,[],[]⟩] [⟨(LT.block (r8 x1 _ k 0 ([]:aG) e2))⟩,⟨(aS aA x1)⟩,⟨(nF (rfl:eqI 0 0=true))⟩,⟨(y4 k x1 (.inl x3) e0)⟩] (by kernel_rfl)
 | inr x3 =>
  simp only[Sum.elim_inr] at h
  obtain rfl:=osi h
  exact Tri.of (x:=X9) aE facts9 [.call ⟨true,[]⟩ (.tup [.nilp,(.int .i64 4)]) [],dt,.norm 0 ⟨[(2,[]),(3,[])],[],false,[],[]⟩] [⟨(nT (rfl:eqI 4 0=false))⟩,⟨(y4 k x1 (.inr x3) e0)⟩] (by kernel_rfl)
end Go.Ws

namespace Go.Ws
open Go.Proofs
set_option linter.unusedSimpArgs false
set_option linter.unusedVariables false
set_option maxRecDepth 1000000
set_option maxHeartbeats 4000000
noncomputable def X14:Ctx:=⟨Try.f14,[],true⟩
noncomputable def L14_2:Code:=at_ Try.f14 [1,1,1,0,1,4,5]
def S14_2 (x1:Ty7) (fA:Int):St:=⟨mkT 39 [(4,.mapn),(5,(.int .i64 4)),(6,(.int .i64 0)),(14,(.sl 4 (List.map aA x1))),(15,(.int .i64 (nI x1.length))),(16,(.int .i64 fA))],[]⟩
def aKE:St:=⟨mkT 39 [(5,(.int .i64 4)),(6,(.int .i64 0))],[]⟩
def O14_2 (x1:Ty7) (y:(Unit)):GX:=.st (.exit 0) (aKE)
noncomputable def L14_1:Code:=at_ Try.f14 [1,1,1,0,1,4,5]
def S14_1 (x1:Ty7) (x3:aG) (eG:Int) (dL:Int):St:=⟨mkT 39 [(4,(.mp 0)),(5,(.int .i64 0)),(6,(.int .i64 eG)),(14,(.sl 4 (List.map aA x1))),(15,(.int .i64 (nI x1.length))),(16,(.int .i64 dL))],[(.map (bA .i64 (fun y=>(bG y).headD aK) x3) x3.length)]⟩
def aJX (v14012_1:Int):St:=⟨mkT 39 [(5,(.int .i64 0)),(6,(.int .i64 v14012_1))],[]⟩
def O14_1 (x1:Ty7) (x3:aG) (y:(Int)):GX:=.st (.exit 0) (aJX y)
theorem uP (x1:Ty7) (y:(Unit)):∀(k:Nat) (fA:Int),fY k x1 fA=some y→LT Try.prog X14 L14_2 (S14_2 x1 fA) (O14_2 x1 y)
 | 0,fA,h=>by cases h
 | k+1,fA,h=>by
  rw[fY] at h
  by_cases cL0:ltI fA (nI x1.length)=true
  · rw[if_pos cL0] at h
    by_cases cL1:inI fA x1.length=true
    · rw[if_pos cL1] at h
      obtain⟨z6,eL2,h⟩:=bsm h
      exact LT.next aE (hs:=⟨[(4,[]),(5,[]),(6,[]),(14,[]),(15,[]),(16,[])],[],false,[],[]⟩) (es:=none) [dt,.n x1.length,.row [(.int .i64 z6.1),(.int .i64 z6.2.1),(.int .u8 z6.2.2.1),(.int .i64 z6.2.2.2)],df,df,df,df,df,df,df,df,df,df,df] [⟨rF⟩,⟨rF⟩,⟨rF⟩,⟨rF⟩,⟨rF⟩,⟨rF⟩,⟨rF⟩,⟨(rfl:eqI 4 0=false)⟩,⟨(rfl:eqI 4 0=false)⟩,⟨(rfl:eqI 4 0=false)⟩,⟨(rfl:eqI 4 0=false)⟩,⟨(b7 (e:=aA) eL2 4 0 4 (by decide))⟩,⟨cL1⟩,⟨(aS aA x1)⟩,⟨cL0⟩] (by kernel_rfl) (uP x1 y k (aH .i64 fA 1) h)
    rw[if_neg cL1] at h;replace cL1:=eqf cL1
    cases h
  rw[if_neg cL0] at h;replace cL0:=eqf cL0
  obtain rfl:=osi h
  show LT _ _ _ _ (.st (.exit 0) (aKE))
  exact LT.done aE (hs:=⟨[],[],false,[],[]⟩) (es:=(some ⟨[(5,[]),(6,[])],[],false,[],[]⟩)) [df] [⟨cL0⟩] (by kernel_rfl) (fun s h=>by cases h)
theorem kL (x1:Ty7) (x3:aG) (y:(Int)):∀(k:Nat) (eG:Int) (dL:Int),dS k x1 x3 eG dL=some y→LT Try.prog X14 L14_1 (S14_1 x1 x3 eG dL) (O14_1 x1 x3 y)
 | 0,eG,dL,h=>by cases h
 | k+1,eG,dL,h=>by
  rw[dS] at h
  by_cases cL0:ltI dL (nI x1.length)=true
  · rw[if_pos cL0] at h
    by_cases cL1:inI dL x1.length=true
    · rw[if_pos cL1] at h
      obtain⟨pF,eL2,h⟩:=bsm h
      let u1:List Ans:=[dt,.n x1.length,.row [(.int .i64 pF.1),(.int .i64 pF.2.1),(.int .u8 pF.2.2.1),(.int .i64 pF.2.2.2)],dt,dt,dt,dt]
      let w2:List Prf:=[⟨(rfl:eqI 0 0=true)⟩,⟨(rfl:eqI 0 0=true)⟩,⟨(rfl:eqI 0 0=true)⟩,⟨(rfl:eqI 0 0=true)⟩,⟨(b7 (e:=aA) eL2 4 0 4 (by decide))⟩,⟨cL1⟩,⟨(aS aA x1)⟩,⟨cL0⟩]
      by_cases cL3:eqI pF.1 5=true
      · rw[if_pos cL3] at h
        by_cases cL4:k9 x3 pF.2.1=true
        · rw[if_pos cL4] at h
          obtain⟨aD3,eL5,h⟩:=bsm h
          let u5:List Ans:=u1++[dt,dt,dt,dt,.opt (some (.int .i64 aD3)),dt,dt]
          let w6:List Prf:=[⟨cL3⟩,⟨cL3⟩,⟨(g4 .i64 (fun y=>(bG y).headD aK) eL5)⟩,⟨cL3⟩,⟨cL3⟩,⟨cL3⟩,⟨cL3⟩]++w2
          by_cases cL6:eqI aD3 2=true
          · rw[if_pos cL6] at h
            exact LT.next aE (hs:=⟨[(4,[]),(5,[]),(6,[]),(14,[]),(15,[]),(16,[])],[⟨.tmp 4,[],none⟩],false,[],[]⟩) (es:=none) (u5++[dt]) ([⟨cL6⟩]++w6) (by kernel_rfl) (kL x1 x3 y k (aH .i64 eG 1) (aH .i64 dL 1) h)
          rw[if_neg cL6] at h;replace cL6:=eqf cL6
          exact LT.next aE (hs:=⟨[(4,[]),(5,[]),(6,[]),(14,[]),(15,[]),(16,[])],[⟨.tmp 4,[],none⟩],false,[],[]⟩) (es:=none) (u5++[df]) ([⟨cL6⟩]++w6) (by kernel_rfl) (kL x1 x3 y k eG (aH .i64 dL 1) h)
        rw[if_neg cL4] at h;replace cL4:=eqf cL4
        exact LT.next aE (hs:=⟨[(4,[]),(5,[]),(6,[]),(14,[]),(15,[]),(16,[])],[⟨.tmp 4,[],none⟩],false,[],[]⟩) (es:=none) (u1++[dt,dt,dt,dt,.opt none,dt,dt,df]) ([⟨(rfl:eqI 0 2=false)⟩,⟨cL3⟩,⟨cL3⟩,⟨(j8 .i64 (fun y=>(bG y).headD aK) cL4)⟩,⟨cL3⟩,⟨cL3⟩,⟨cL3⟩,⟨cL3⟩]++w2) (by kernel_rfl) (kL x1 x3 y k eG (aH .i64 dL 1) h)
      rw[if_neg cL3] at h;replace cL3:=eqf cL3
      exact LT.next aE (hs:=⟨[(4,[]),(5,[]),(6,[]),(14,[]),(15,[]),(16,[])],[⟨.tmp 4,[],none⟩],false,[],[]⟩) (es:=none) (u1++[df,df,df,df,df,df,df]) ([⟨rF⟩,⟨cL3⟩,⟨cL3⟩,⟨cL3⟩,⟨cL3⟩,⟨cL3⟩,⟨cL3⟩]++w2) (by kernel_rfl) (kL x1 x3 y k eG (aH .i64 dL 1) h)
    rw[if_neg cL1] at h;replace cL1:=eqf cL1
    cases h
  rw[if_neg cL0] at h;replace cL0:=eqf cL0
  obtain rfl:=osi h
  show LT _ _ _ _ (.st (.exit 0) (aJX eG))
  exact LT.done aE (hs:=⟨[],[],false,[],[]⟩) (es:=(some ⟨[(5,[]),(6,[])],[],false,[],[]⟩)) [df] [⟨cL0⟩] (by kernel_rfl) (fun s h=>by cases h)
theorem yN (k:Nat) (x1:Ty7) (r:Int × Int) (h:mQ k x1=some r):Tri Try.prog 14 [(.sl 4 (List.map aA x1))] [] (.tup [(.int .i64 r.1),(.int .i64 r.2)]) []:=by
 unfold mQ at h
 obtain⟨x2,e0,h⟩:=bsm h
 cases x2 with
 | inl x3 =>
  simp only[Sum.elim_inl] at h
  obtain⟨x5,e2,h⟩:=bsm h
  obtain rfl:=osi h
  exact Tri.of (x:=X14) aE aON [.call ⟨true,[]⟩ (.tup [(.mp 0),(.int .i64 0)]) [(.map (bA .i64 (fun y=>(bG y).headD aK) x3) x3.length)],.n x1.length,.norm 2 ⟨[(4,[]),(5,[]),(6,[]),(14,[]),(15,[]),(16,[])],[⟨.tmp 4,[],none⟩],false,[],[]⟩,.out (.st .normal (aJX x5))] [⟨(LT.block (kL x1 x3 _ k 0 0 e2))⟩,⟨(aS aA x1)⟩,⟨(hI k x1 (.inl x3) e0)⟩] (by kernel_rfl)
 | inr x3 =>
  simp only[Sum.elim_inr] at h
  obtain⟨x5,e2,h⟩:=bsm h
  obtain rfl:=osi h
  exact Tri.of (x:=X14) aE aON [.call ⟨true,[]⟩ (.tup [.mapn,(.int .i64 4)]) [],.n x1.length,.norm 2 ⟨[(4,[]),(5,[]),(6,[]),(14,[]),(15,[]),(16,[])],[],false,[],[]⟩,.out (.st .normal (aKE))] [⟨(LT.block (uP x1 _ k 0 e2))⟩,⟨(aS aA x1)⟩,⟨(hI k x1 (.inr x3) e0)⟩] (by kernel_rfl)
end Go.Ws

namespace Go.Ws
open Go.Proofs
set_option linter.unusedSimpArgs false
set_option linter.unusedVariables false
set_option maxRecDepth 1000000
set_option maxHeartbeats 4000000
noncomputable def X12:Ctx:=⟨Try.f12,[],true⟩
noncomputable def L12_0:Code:=at_ Try.f12 [1,1,1,1,0,1,4,5]
def S12_0 (x1:Ty7) (x3:aG) (b5:Int) (aL:aG):St:=⟨mkT 46 [(4,(.mp 0)),(6,(.ref 2 1 0 0 aL.length .virt)),(17,(.sl 4 (List.map aA x1))),(18,(.int .i64 (nI x1.length))),(19,(.int .i64 b5))],[(.map (bA .i64 (fun y=>(bG y).headD aK) x3) x3.length),(.arr 2 (List.map aB aL) 0 0 false)]⟩
def aJT (aM9:aG):St:=⟨mkT 46 [(6,(.ref 2 0 0 0 aM9.length .virt))],[(.arr 2 (List.map aB aM9) 0 0 false)]⟩
def O12_0 (x1:Ty7) (x3:aG) (y:(aG)):GX:=.st (.exit 0) (aJT y)
theorem kJ (x1:Ty7) (x3:aG) (y:(aG)):∀(k:Nat) (b5:Int) (aL:aG),cS k x1 x3 b5 aL=some y→LT Try.prog X12 L12_0 (S12_0 x1 x3 b5 aL) (O12_0 x1 x3 y)
 | 0,b5,aL,h=>by cases h
 | k+1,b5,aL,h=>by
  rw[cS] at h
  by_cases cL0:ltI b5 (nI x1.length)=true
  · rw[if_pos cL0] at h
    by_cases cL1:inI b5 x1.length=true
    · rw[if_pos cL1] at h
      obtain⟨cQ,eL2,h⟩:=bsm h
      let u1:List Ans:=[dt,.n x1.length,.row [(.int .i64 cQ.1),(.int .i64 cQ.2.1),(.int .u8 cQ.2.2.1),(.int .i64 cQ.2.2.2)]]
      let w2:List Prf:=[⟨(b7 (e:=aA) eL2 4 0 4 (by decide))⟩,⟨cL1⟩,⟨(aS aA x1)⟩,⟨cL0⟩]
      by_cases cL3:eqI cQ.1 3=true
      · rw[if_pos cL3] at h
        by_cases cL4:k9 x3 cQ.2.1=true
        · rw[if_pos cL4] at h
          obtain⟨xL,eL5,h⟩:=bsm h
          let u5:List Ans:=u1++[dt,dt,dt,dt,.opt (some (.int .i64 xL)),dt,dt]
          let w6:List Prf:=[⟨cL3⟩,⟨cL3⟩,⟨(g4 .i64 (fun y=>(bG y).headD aK) eL5)⟩,⟨cL3⟩,⟨cL3⟩,⟨cL3⟩,⟨cL3⟩]++w2
          by_cases cL6:eqI xL 1=true
          · rw[if_pos cL6] at h
            by_cases cL7:cR (((aL++[cQ.2.2]).length)*16)=true
            · rw[if_pos cL7] at h
              exact LT.next aE (hs:=⟨[(4,[]),(6,[]),(17,[]),(18,[]),(19,[])],[⟨.tmp 4,[],none⟩,⟨.tmp 6,[],some 2⟩],false,[],[]⟩) (es:=none) (u5++[dt,.rows (List.map aB [cQ.2.2]),.n ((aL++[cQ.2.2]).length),.n aL.length,dt,.rows (List.map aB (aL++[cQ.2.2])),.n ((aL++[cQ.2.2]).length),.rows (List.map aB (aL++[cQ.2.2]))]) ([⟨(fF aB (l:=(aL++[cQ.2.2])) (n:=((aL++[cQ.2.2]).length)) rfl)⟩,⟨(rfl:(aL++[cQ.2.2]).length=(aL++[cQ.2.2]).length)⟩,⟨(zle ((aL++[cQ.2.2]).length))⟩,⟨(aAV aB aL [cQ.2.2])⟩,⟨(wT aL.length)⟩,⟨(aS aB aL)⟩,⟨cL7⟩,⟨(by simp only[wl,List.length_map,List.map_nil,List.map_cons]<;>omega:aL.length+(List.map aB [cQ.2.2]).length=(aL++[cQ.2.2]).length)⟩,⟨(b8 aB (l:=[cQ.2.2]) (n:=1) rfl)⟩,⟨(eT aB (Nat.le_refl 1):0+1≤(List.map aB [cQ.2.2]).length)⟩,⟨cL6⟩]++w6) (by kernel_rfl) (kJ x1 x3 y k (aH .i64 b5 1) (aL++[cQ.2.2]) h)
            rw[if_neg cL7] at h;replace cL7:=eqf cL7
            cases h
          rw[if_neg cL6] at h;replace cL6:=eqf cL6
          exact LT.next aE (hs:=⟨[(4,[]),(6,[]),(17,[]),(18,[]),(19,[])],[⟨.tmp 4,[],none⟩,⟨.tmp 6,[],some 2⟩],false,[],[]⟩) (es:=none) (u5++[df,.n aL.length,.rows (List.map aB aL)]) ([⟨(fF aB (l:=aL) (n:=aL.length) rfl)⟩,⟨(rfl:aL.length=aL.length)⟩,⟨(zle aL.length)⟩,⟨cL6⟩]++w6) (by kernel_rfl) (kJ x1 x3 y k (aH .i64 b5 1) aL h)
        rw[if_neg cL4] at h;replace cL4:=eqf cL4
        exact LT.next aE (hs:=⟨[(4,[]),(6,[]),(17,[]),(18,[]),(19,[])],[⟨.tmp 4,[],none⟩,⟨.tmp 6,[],some 2⟩],false,[],[]⟩) (es:=none) (u1++[dt,dt,dt,dt,.opt none,dt,dt,df,.n aL.length,.rows (List.map aB aL)]) ([⟨(fF aB (l:=aL) (n:=aL.length) rfl)⟩,⟨(rfl:aL.length=aL.length)⟩,⟨(zle aL.length)⟩,⟨(rfl:eqI 0 1=false)⟩,⟨cL3⟩,⟨cL3⟩,⟨(j8 .i64 (fun y=>(bG y).headD aK) cL4)⟩,⟨cL3⟩,⟨cL3⟩,⟨cL3⟩,⟨cL3⟩]++w2) (by kernel_rfl) (kJ x1 x3 y k (aH .i64 b5 1) aL h)
      rw[if_neg cL3] at h;replace cL3:=eqf cL3
      exact LT.next aE (hs:=⟨[(4,[]),(6,[]),(17,[]),(18,[]),(19,[])],[⟨.tmp 4,[],none⟩,⟨.tmp 6,[],some 2⟩],false,[],[]⟩) (es:=none) (u1++[df,df,df,df,df,df,df,.n aL.length,.rows (List.map aB aL)]) ([⟨(fF aB (l:=aL) (n:=aL.length) rfl)⟩,⟨(rfl:aL.length=aL.length)⟩,⟨(zle aL.length)⟩,⟨rF⟩,⟨cL3⟩,⟨cL3⟩,⟨cL3⟩,⟨cL3⟩,⟨cL3⟩,⟨cL3⟩]++w2) (by kernel_rfl) (kJ x1 x3 y k (aH .i64 b5 1) aL h)
    rw[if_neg cL1] at h;replace cL1:=eqf cL1
    cases h
  rw[if_neg cL0] at h;replace cL0:=eqf cL0
  obtain rfl:=osi h
  show LT _ _ _ _ (.st (.exit 0) (aJT aL))
  exact LT.done aE (hs:=⟨[],[],false,[],[]⟩) (es:=(some ⟨[(6,[])],[⟨.tmp 6,[],none⟩],false,[],[]⟩)) [df] [⟨cL0⟩] (by kernel_rfl) (fun s h=>by cases h)
theorem pK (k:Nat) (x1:Ty7) (r:aG × Int) (h:jV k x1=some r):Tri Try.prog 12 [(.sl 4 (List.map aA x1))] [] (.tup [(.sl 2 (List.map aB r.1)),(.int .i64 r.2)]) []:=by
 unfold jV at h
 obtain⟨x2,e0,h⟩:=bsm h
 cases x2 with
 | inl x3 =>
  simp only[Sum.elim_inl] at h
  obtain⟨x5,e2,h⟩:=bsm h
  obtain⟨x6,e4,h⟩:=bsm h
  obtain rfl:=osi h
  exact Tri.of (x:=X12) aE aQB [.call ⟨true,[]⟩ (.tup [(.mp 0),(.int .i64 0)]) [(.map (bA .i64 (fun y=>(bG y).headD aK) x3) x3.length)],df,.n x1.length,.norm 2 ⟨[(4,[]),(6,[]),(17,[]),(18,[]),(19,[])],[⟨.tmp 4,[],none⟩,⟨.tmp 6,[],some 2⟩],false,[],[]⟩,.n 0,.rows (List.map aB []),.out (.st .normal (aJT x5)),.call ⟨true,[[(0,2)]]⟩ (.tup [(.sl 2 (List.map aB x6.1)),(.int .i64 x6.2)]) [],.rows (List.map aB x5)] [⟨(iZ k [] x5 _ e4)⟩,⟨(b8 aB (l:=x5) (n:=x5.length) rfl)⟩,⟨(eT aB (Nat.le_refl x5.length):0+x5.length≤(List.map aB x5).length)⟩,⟨(LT.block (kJ x1 x3 _ k 0 [] e2))⟩,⟨(fF aB (l:=[]) (n:=0) rfl)⟩,⟨(rfl:0=0)⟩,⟨(zle 0)⟩,⟨(aS aA x1)⟩,⟨(nF (rfl:eqI 0 0=true))⟩,⟨(hI k x1 (.inl x3) e0)⟩] (by kernel_rfl)
 | inr x3 =>
  simp only[Sum.elim_inr] at h
  obtain rfl:=osi h
  exact Tri.of (x:=X12) aE aQB [.call ⟨true,[]⟩ (.tup [.mapn,(.int .i64 4)]) [],dt,.norm 0 ⟨[(2,[(0,2)]),(3,[])],[],false,[],[]⟩] [⟨(nT (rfl:eqI 4 0=false))⟩,⟨(hI k x1 (.inr x3) e0)⟩] (by kernel_rfl)
end Go.Ws

namespace Go.Ws
open Go.Proofs
set_option linter.unusedSimpArgs false
set_option linter.unusedVariables false
set_option maxRecDepth 1000000
set_option maxHeartbeats 4000000
theorem aHW (x1:aG):Tri Try.prog 18 [(.ps [(.mp 0),.mapn,(.mp 0)])] [(.map (bA .i64 (fun y=>(bG y).headD aK) x1) x1.length)] (.bool (qH x1)) [(.map (bA .i64 (fun y=>(bG y).headD aK) x1) x1.length)]:=aRK
end Go.Ws

namespace Go.Ws
open Go.Proofs
set_option linter.unusedSimpArgs false
set_option linter.unusedVariables false
set_option maxRecDepth 1000000
set_option maxHeartbeats 4000000
theorem aD5 (x1:aG) (x2:aG):Tri Try.prog 18 [(.ps [(.mp 0),(.mp 1)])] [(.map (bA .i64 (fun y=>(bG y).headD aK) x1) x1.length),(.map (bA .i64 (fun y=>(bG y).headD aK) x2) x2.length)] (.bool (oX x1 x2)) [(.map (bA .i64 (fun y=>(bG y).headD aK) x1) x1.length),(.map (bA .i64 (fun y=>(bG y).headD aK) x2) x2.length)]:=agree_01
end Go.Ws

namespace Go.Ws
open Go.Proofs
set_option linter.unusedSimpArgs false
set_option linter.unusedVariables false
set_option maxRecDepth 1000000
set_option maxHeartbeats 4000000
noncomputable def X8:Ctx:=⟨Try.f8,[],true⟩
def A8_0 (x6:aG):Ans:=.call ⟨true,[]⟩ (.tup [(.mp 0),(.int .i64 0)]) [(.map (bA .i64 (fun y=>(bG y).headD aK) x6) x6.length)]
def A8_1:Ans:=.call ⟨true,[]⟩ (.tup [.mapn,(.int .i64 4)]) []
theorem zQ (k:Nat) (r:Bool) (h:qG k=some r):Tri Try.prog 8 [] [] (.bool r) []:=by
 unfold qG at h
 let u1:List Ans:=[.call ⟨true,[]⟩ (.sl 4 (List.map aA aJ)) [],.n aJ.length]
 let w2:List Prf:=[⟨(aS aA aJ)⟩,⟨(aFO)⟩]
 by_cases c0:eqI (nI aJ.length) 0=true
 · rw[if_pos c0] at h
   obtain rfl:=osi h
   exact Tri.of (x:=X8) aE mB (u1++[dt]) ([⟨c0⟩]++w2) (by kernel_rfl)
 rw[if_neg c0] at h;replace c0:=eqf c0
 obtain⟨x1,e1,h⟩:=bsm h
 cases x1 with
 | inl x2 =>
  simp only[Sum.elim_inl] at h
  obtain⟨x3,e3,h⟩:=bsm h
  obtain⟨x4,e4,h⟩:=bsm h
  by_cases c5:leI 1 aJ.length=true
  · rw[if_pos c5] at h
    let u5:List Ans:=u1++[df,.call ⟨true,[]⟩ (.tup [(.mp 0),(.int .i64 0)]) [(.map (bA .i64 (fun y=>(bG y).headD aK) x2) x2.length)],.call ⟨true,[]⟩ (.tup [(.int .i64 x3.1),(.int .i64 x3.2)]) [],.call ⟨true,[]⟩ (.tup [(.sl 2 (List.map aB x4.1)),(.int .i64 x4.2)]) [],.n aJ.length,.rows (List.map aA (List.drop 1 aJ))]
    let w6:List Prf:=[⟨(aMK aA (l:=aJ) (n:=aJ.length) rfl 1)⟩,⟨c5⟩,⟨(aS aA aJ)⟩,⟨(pK k aJ _ e4)⟩,⟨(yN k aJ _ e3)⟩,⟨(hI k aJ (.inl x2) e1)⟩,⟨c0⟩]++w2
    obtain⟨x5,e6,h⟩:=bsm h
    cases x5 with
    | inl x6 =>
     simp only[Sum.elim_inl] at h
     let u7:List Ans:=u5++[(A8_0 x6),dt,dt,.n x2.length,dt,dt]
     let w8:List Prf:=[⟨(rfl:eqI 0 0=true)⟩,⟨(rfl:eqI 0 0=true)⟩,⟨(aFF .i64 (fun y=>(bG y).headD aK) x2)⟩,⟨(rfl:eqI 0 0=true)⟩,⟨(rfl:eqI 0 0=true)⟩,⟨(hI k (List.drop 1 aJ) (.inl x6) e6)⟩]++w6
     by_cases c8:eqI (nI x2.length) 1=true
     · rw[if_pos c8] at h
       by_cases c9:k9 x2 1=true
       · rw[if_pos c9] at h
         obtain⟨x7,e10,h⟩:=bsm h
         let u11:List Ans:=u7++[dt,dt,.opt (some (.int .i64 x7)),dt,dt]
         let w12:List Prf:=[⟨c8⟩,⟨c8⟩,⟨(g4 .i64 (fun y=>(bG y).headD aK) e10)⟩,⟨c8⟩,⟨c8⟩]++w8
         by_cases c11:eqI x7 2=true
         · rw[if_pos c11] at h
           by_cases c12:eqI x3.1 1=true
           · rw[if_pos c12] at h
             let w16:List Prf:=[⟨c12⟩,⟨c12⟩,⟨c12⟩,⟨c11⟩,⟨c11⟩,⟨c11⟩]++w12
             by_cases c13:eqI x3.2 0=true
             · rw[if_pos c13] at h
               let u17:List Ans:=u11++[dt,dt,dt,dt,dt,dt,dt,dt,.n x4.1.length,dt,dt]
               let w18:List Prf:=[⟨c13⟩,⟨c13⟩,⟨(aS aB x4.1)⟩,⟨c13⟩,⟨c13⟩]++w16
               by_cases c14:eqI (nI x4.1.length) 0=true
               · rw[if_pos c14] at h
                 by_cases c15:eqI x4.2 0=true
                 · rw[if_pos c15] at h
                   obtain rfl:=osi h
                   exact Tri.of (x:=X8) aE mB (u17++[dt,dt,dt,dt,dt,dt,df,df,df,df,df,df,df,df,df,df,df,df,df]) ([⟨rF⟩,⟨rF⟩,⟨rF⟩,⟨rF⟩,⟨rF⟩,⟨rF⟩,⟨rF⟩,⟨rF⟩,⟨(rfl:eqI 0 4=false)⟩,⟨(rfl:eqI 0 4=false)⟩,⟨(rfl:eqI 0 4=false)⟩,⟨(rfl:eqI 0 4=false)⟩,⟨(rfl:eqI 0 4=false)⟩,⟨c15⟩,⟨c15⟩,⟨c15⟩,⟨c14⟩,⟨c14⟩,⟨c14⟩]++w18) (by kernel_rfl)
                 rw[if_neg c15] at h;replace c15:=eqf c15
                 obtain rfl:=osi h
                 exact Tri.of (x:=X8) aE mB (u17++[dt,dt,dt,df,df,df,df,df,df,df,df,df,df,df,df,df,df,df,df]) ([⟨rF⟩,⟨rF⟩,⟨rF⟩,⟨rF⟩,⟨rF⟩,⟨rF⟩,⟨rF⟩,⟨rF⟩,⟨rF⟩,⟨rF⟩,⟨rF⟩,⟨rF⟩,⟨rF⟩,⟨c15⟩,⟨c15⟩,⟨c15⟩,⟨c14⟩,⟨c14⟩,⟨c14⟩]++w18) (by kernel_rfl)
               rw[if_neg c14] at h;replace c14:=eqf c14
               obtain rfl:=osi h
               exact Tri.of (x:=X8) aE mB (u17++[df,df,df,df,df,df,df,df,df,df,df,df,df,df,df,df,df,df,df]) ([⟨rF⟩,⟨rF⟩,⟨rF⟩,⟨rF⟩,⟨rF⟩,⟨rF⟩,⟨rF⟩,⟨rF⟩,⟨rF⟩,⟨rF⟩,⟨rF⟩,⟨rF⟩,⟨rF⟩,⟨rF⟩,⟨rF⟩,⟨rF⟩,⟨c14⟩,⟨c14⟩,⟨c14⟩]++w18) (by kernel_rfl)
             rw[if_neg c13] at h;replace c13:=eqf c13
             obtain rfl:=osi h
             exact Tri.of (x:=X8) aE mB (u11++[dt,dt,dt,dt,dt,dt,df,df,df,df,df,df,df,df,df,df,df,df,df,df,df,df,df,df,df,df,df,df,df]) ([⟨rF⟩,⟨rF⟩,⟨rF⟩,⟨rF⟩,⟨rF⟩,⟨rF⟩,⟨rF⟩,⟨rF⟩,⟨rF⟩,⟨rF⟩,⟨rF⟩,⟨rF⟩,⟨rF⟩,⟨rF⟩,⟨rF⟩,⟨rF⟩,⟨rF⟩,⟨rF⟩,⟨rF⟩,⟨c13⟩,⟨c13⟩,⟨c13⟩,⟨c13⟩]++w16) (by kernel_rfl)
           rw[if_neg c12] at h;replace c12:=eqf c12
           obtain rfl:=osi h
           exact Tri.of (x:=X8) aE mB (u11++[dt,dt,dt,df,df,df,df,df,df,df,df,df,df,df,df,df,df,df,df,df,df,df,df,df,df,df,df,df,df]) ([⟨rF⟩,⟨rF⟩,⟨rF⟩,⟨rF⟩,⟨rF⟩,⟨rF⟩,⟨rF⟩,⟨rF⟩,⟨rF⟩,⟨rF⟩,⟨rF⟩,⟨rF⟩,⟨rF⟩,⟨rF⟩,⟨rF⟩,⟨rF⟩,⟨rF⟩,⟨rF⟩,⟨rF⟩,⟨rF⟩,⟨rF⟩,⟨rF⟩,⟨rF⟩,⟨c12⟩,⟨c12⟩,⟨c12⟩,⟨c11⟩,⟨c11⟩,⟨c11⟩]++w12) (by kernel_rfl)
         rw[if_neg c11] at h;replace c11:=eqf c11
         obtain rfl:=osi h
         exact Tri.of (x:=X8) aE mB (u11++[df,df,df,df,df,df,df,df,df,df,df,df,df,df,df,df,df,df,df,df,df,df,df,df,df,df,df,df,df]) ([⟨rF⟩,⟨rF⟩,⟨rF⟩,⟨rF⟩,⟨rF⟩,⟨rF⟩,⟨rF⟩,⟨rF⟩,⟨rF⟩,⟨rF⟩,⟨rF⟩,⟨rF⟩,⟨rF⟩,⟨rF⟩,⟨rF⟩,⟨rF⟩,⟨rF⟩,⟨rF⟩,⟨rF⟩,⟨rF⟩,⟨rF⟩,⟨rF⟩,⟨rF⟩,⟨rF⟩,⟨rF⟩,⟨rF⟩,⟨c11⟩,⟨c11⟩,⟨c11⟩]++w12) (by kernel_rfl)
       rw[if_neg c9] at h;replace c9:=eqf c9
       obtain rfl:=osi h
       exact Tri.of (x:=X8) aE mB (u7++[dt,dt,.opt none,dt,dt,df,df,df,df,df,df,df,df,df,df,df,df,df,df,df,df,df,df,df,df,df,df,df,df,df,df,df,df,df]) ([⟨rF⟩,⟨rF⟩,⟨rF⟩,⟨rF⟩,⟨rF⟩,⟨rF⟩,⟨rF⟩,⟨rF⟩,⟨rF⟩,⟨rF⟩,⟨rF⟩,⟨rF⟩,⟨rF⟩,⟨rF⟩,⟨rF⟩,⟨rF⟩,⟨rF⟩,⟨rF⟩,⟨rF⟩,⟨rF⟩,⟨rF⟩,⟨rF⟩,⟨rF⟩,⟨rF⟩,⟨rF⟩,⟨rF⟩,⟨(rfl:eqI 0 2=false)⟩,⟨(rfl:eqI 0 2=false)⟩,⟨(rfl:eqI 0 2=false)⟩,⟨c8⟩,⟨c8⟩,⟨(j8 .i64 (fun y=>(bG y).headD aK) c9)⟩,⟨c8⟩,⟨c8⟩]++w8) (by kernel_rfl)
     rw[if_neg c8] at h;replace c8:=eqf c8
     obtain rfl:=osi h
     exact Tri.of (x:=X8) aE mB (u7++[df,df,df,df,df,df,df,df,df,df,df,df,df,df,df,df,df,df,df,df,df,df,df,df,df,df,df,df,df,df,df,df,df]) ([⟨rF⟩,⟨rF⟩,⟨rF⟩,⟨rF⟩,⟨rF⟩,⟨rF⟩,⟨rF⟩,⟨rF⟩,⟨rF⟩,⟨rF⟩,⟨rF⟩,⟨rF⟩,⟨rF⟩,⟨rF⟩,⟨rF⟩,⟨rF⟩,⟨rF⟩,⟨rF⟩,⟨rF⟩,⟨rF⟩,⟨rF⟩,⟨rF⟩,⟨rF⟩,⟨rF⟩,⟨rF⟩,⟨rF⟩,⟨rF⟩,⟨rF⟩,⟨rF⟩,⟨c8⟩,⟨c8⟩,⟨c8⟩,⟨c8⟩]++w8) (by kernel_rfl)
    | inr x6 =>
     simp only[Sum.elim_inr] at h
     let u21:List Ans:=u5++[A8_1,dt,dt,.n x2.length,dt,dt]
     let w22:List Prf:=[⟨(rfl:eqI 0 0=true)⟩,⟨(rfl:eqI 0 0=true)⟩,⟨(aFF .i64 (fun y=>(bG y).headD aK) x2)⟩,⟨(rfl:eqI 0 0=true)⟩,⟨(rfl:eqI 0 0=true)⟩,⟨(hI k (List.drop 1 aJ) (.inr x6) e6)⟩]++w6
     by_cases c8:eqI (nI x2.length) 1=true
     · rw[if_pos c8] at h
       by_cases c9:k9 x2 1=true
       · rw[if_pos c9] at h
         obtain⟨x7,e10,h⟩:=bsm h
         let u25:List Ans:=u21++[dt,dt,.opt (some (.int .i64 x7)),dt,dt]
         let w26:List Prf:=[⟨c8⟩,⟨c8⟩,⟨(g4 .i64 (fun y=>(bG y).headD aK) e10)⟩,⟨c8⟩,⟨c8⟩]++w22
         by_cases c11:eqI x7 2=true
         · rw[if_pos c11] at h
           by_cases c12:eqI x3.1 1=true
           · rw[if_pos c12] at h
             let w30:List Prf:=[⟨c12⟩,⟨c12⟩,⟨c12⟩,⟨c11⟩,⟨c11⟩,⟨c11⟩]++w26
             by_cases c13:eqI x3.2 0=true
             · rw[if_pos c13] at h
               let u31:List Ans:=u25++[dt,dt,dt,dt,dt,dt,dt,dt,.n x4.1.length,dt,dt]
               let w32:List Prf:=[⟨c13⟩,⟨c13⟩,⟨(aS aB x4.1)⟩,⟨c13⟩,⟨c13⟩]++w30
               by_cases c14:eqI (nI x4.1.length) 0=true
               · rw[if_pos c14] at h
                 by_cases c15:eqI x4.2 0=true
                 · rw[if_pos c15] at h
                   let u35:List Ans:=u31++[dt,dt,dt,dt,dt,dt,dt,dt,dt,dt,.call ⟨true,[]⟩ (.bool (qH x2)) [(.map (bA .i64 (fun y=>(bG y).headD aK) x2) x2.length)],dt]
                   let w36:List Prf:=[⟨(rfl:eqI 4 4=true)⟩,⟨(aHW x2)⟩,⟨(rfl:eqI 4 4=true)⟩,⟨(rfl:eqI 4 4=true)⟩,⟨(rfl:eqI 4 4=true)⟩,⟨(rfl:eqI 4 4=true)⟩,⟨c15⟩,⟨c15⟩,⟨c15⟩,⟨c14⟩,⟨c14⟩,⟨c14⟩]++w32
                   by_cases c16:(qH x2)=true
                   · rw[if_pos c16] at h
                     obtain rfl:=osi h
                     exact Tri.of (x:=X8) aE mB (u35++[dt,dt,dt,.ents (bA .i64 (fun y=>(bG y).headD aK) (aR ([]:aG) 1 1)) (aR ([]:aG) 1 1).length,dt,dt,dt,.call ⟨true,[]⟩ (.bool (oX x2 (aR ([]:aG) 1 1))) [(.map (bA .i64 (fun y=>(bG y).headD aK) x2) x2.length),(.map (bA .i64 (fun y=>(bG y).headD aK) (aR ([]:aG) 1 1)) (aR ([]:aG) 1 1).length)],dt,dt]) ([⟨c16⟩,⟨c16⟩,⟨(aD5 x2 (aR ([]:aG) 1 1))⟩,⟨c16⟩,⟨c16⟩,⟨c16⟩,⟨(jK .i64 (fun y=>(bG y).headD aK) ([]:aG) 1 1)⟩,⟨c16⟩,⟨c16⟩,⟨c16⟩]++w36) (by kernel_rfl)
                   rw[if_neg c16] at h;replace c16:=eqf c16
                   obtain rfl:=osi h
                   exact Tri.of (x:=X8) aE mB (u35++[df,df,df,df,df,df,df,df]) ([⟨c16⟩,⟨c16⟩,⟨c16⟩,⟨c16⟩,⟨c16⟩,⟨c16⟩,⟨c16⟩,⟨c16⟩]++w36) (by kernel_rfl)
                 rw[if_neg c15] at h;replace c15:=eqf c15
                 obtain rfl:=osi h
                 exact Tri.of (x:=X8) aE mB (u31++[dt,dt,dt,df,df,df,df,df,df,df,df,df,df,df,df,df,df,df,df]) ([⟨rF⟩,⟨rF⟩,⟨rF⟩,⟨rF⟩,⟨rF⟩,⟨rF⟩,⟨rF⟩,⟨rF⟩,⟨rF⟩,⟨rF⟩,⟨rF⟩,⟨rF⟩,⟨rF⟩,⟨c15⟩,⟨c15⟩,⟨c15⟩,⟨c14⟩,⟨c14⟩,⟨c14⟩]++w32) (by kernel_rfl)
               rw[if_neg c14] at h;replace c14:=eqf c14
               obtain rfl:=osi h
               exact Tri.of (x:=X8) aE mB (u31++[df,df,df,df,df,df,df,df,df,df,df,df,df,df,df,df,df,df,df]) ([⟨rF⟩,⟨rF⟩,⟨rF⟩,⟨rF⟩,⟨rF⟩,⟨rF⟩,⟨rF⟩,⟨rF⟩,⟨rF⟩,⟨rF⟩,⟨rF⟩,⟨rF⟩,⟨rF⟩,⟨rF⟩,⟨rF⟩,⟨rF⟩,⟨c14⟩,⟨c14⟩,⟨c14⟩]++w32) (by kernel_rfl)
             rw[if_neg c13] at h;replace c13:=eqf c13
             obtain rfl:=osi h
             exact Tri.of (x:=X8) aE mB (u25++[dt,dt,dt,dt,dt,dt,df,df,df,df,df,df,df,df,df,df,df,df,df,df,df,df,df,df,df,df,df,df,df]) ([⟨rF⟩,⟨rF⟩,⟨rF⟩,⟨rF⟩,⟨rF⟩,⟨rF⟩,⟨rF⟩,⟨rF⟩,⟨rF⟩,⟨rF⟩,⟨rF⟩,⟨rF⟩,⟨rF⟩,⟨rF⟩,⟨rF⟩,⟨rF⟩,⟨rF⟩,⟨rF⟩,⟨rF⟩,⟨c13⟩,⟨c13⟩,⟨c13⟩,⟨c13⟩]++w30) (by kernel_rfl)
           rw[if_neg c12] at h;replace c12:=eqf c12
           obtain rfl:=osi h
           exact Tri.of (x:=X8) aE mB (u25++[dt,dt,dt,df,df,df,df,df,df,df,df,df,df,df,df,df,df,df,df,df,df,df,df,df,df,df,df,df,df]) ([⟨rF⟩,⟨rF⟩,⟨rF⟩,⟨rF⟩,⟨rF⟩,⟨rF⟩,⟨rF⟩,⟨rF⟩,⟨rF⟩,⟨rF⟩,⟨rF⟩,⟨rF⟩,⟨rF⟩,⟨rF⟩,⟨rF⟩,⟨rF⟩,⟨rF⟩,⟨rF⟩,⟨rF⟩,⟨rF⟩,⟨rF⟩,⟨rF⟩,⟨rF⟩,⟨c12⟩,⟨c12⟩,⟨c12⟩,⟨c11⟩,⟨c11⟩,⟨c11⟩]++w26) (by kernel_rfl)
         rw[if_neg c11] at h;replace c11:=eqf c11
         obtain rfl:=osi h
         exact Tri.of (x:=X8) aE mB (u25++[df,df,df,df,df,df,df,df,df,df,df,df,df,df,df,df,df,df,df,df,df,df,df,df,df,df,df,df,df]) ([⟨rF⟩,⟨rF⟩,⟨rF⟩,⟨rF⟩,⟨rF⟩,⟨rF⟩,⟨rF⟩,⟨rF⟩,⟨rF⟩,⟨rF⟩,⟨rF⟩,⟨rF⟩,⟨rF⟩,⟨rF⟩,⟨rF⟩,⟨rF⟩,⟨rF⟩,⟨rF⟩,⟨rF⟩,⟨rF⟩,⟨rF⟩,⟨rF⟩,⟨rF⟩,⟨rF⟩,⟨rF⟩,⟨rF⟩,⟨c11⟩,⟨c11⟩,⟨c11⟩]++w26) (by kernel_rfl)
       rw[if_neg c9] at h;replace c9:=eqf c9
       obtain rfl:=osi h
       exact Tri.of (x:=X8) aE mB (u21++[dt,dt,.opt none,dt,dt,df,df,df,df,df,df,df,df,df,df,df,df,df,df,df,df,df,df,df,df,df,df,df,df,df,df,df,df,df]) ([⟨rF⟩,⟨rF⟩,⟨rF⟩,⟨rF⟩,⟨rF⟩,⟨rF⟩,⟨rF⟩,⟨rF⟩,⟨rF⟩,⟨rF⟩,⟨rF⟩,⟨rF⟩,⟨rF⟩,⟨rF⟩,⟨rF⟩,⟨rF⟩,⟨rF⟩,⟨rF⟩,⟨rF⟩,⟨rF⟩,⟨rF⟩,⟨rF⟩,⟨rF⟩,⟨rF⟩,⟨rF⟩,⟨rF⟩,⟨(rfl:eqI 0 2=false)⟩,⟨(rfl:eqI 0 2=false)⟩,⟨(rfl:eqI 0 2=false)⟩,⟨c8⟩,⟨c8⟩,⟨(j8 .i64 (fun y=>(bG y).headD aK) c9)⟩,⟨c8⟩,⟨c8⟩]++w22) (by kernel_rfl)
     rw[if_neg c8] at h;replace c8:=eqf c8
     obtain rfl:=osi h
     exact Tri.of (x:=X8) aE mB (u21++[df,df,df,df,df,df,df,df,df,df,df,df,df,df,df,df,df,df,df,df,df,df,df,df,df,df,df,df,df,df,df,df,df]) ([⟨rF⟩,⟨rF⟩,⟨rF⟩,⟨rF⟩,⟨rF⟩,⟨rF⟩,⟨rF⟩,⟨rF⟩,⟨rF⟩,⟨rF⟩,⟨rF⟩,⟨rF⟩,⟨rF⟩,⟨rF⟩,⟨rF⟩,⟨rF⟩,⟨rF⟩,⟨rF⟩,⟨rF⟩,⟨rF⟩,⟨rF⟩,⟨rF⟩,⟨rF⟩,⟨rF⟩,⟨rF⟩,⟨rF⟩,⟨rF⟩,⟨rF⟩,⟨rF⟩,⟨c8⟩,⟨c8⟩,⟨c8⟩,⟨c8⟩]++w22) (by kernel_rfl)
  rw[if_neg c5] at h;replace c5:=eqf c5
  cases h
 | inr x2 =>
  simp only[Sum.elim_inr] at h
  obtain⟨x3,e3,h⟩:=bsm h
  obtain⟨x4,e4,h⟩:=bsm h
  by_cases c5:leI 1 aJ.length=true
  · rw[if_pos c5] at h
    let u37:List Ans:=u1++[df,A8_1,.call ⟨true,[]⟩ (.tup [(.int .i64 x3.1),(.int .i64 x3.2)]) [],.call ⟨true,[]⟩ (.tup [(.sl 2 (List.map aB x4.1)),(.int .i64 x4.2)]) [],.n aJ.length,.rows (List.map aA (List.drop 1 aJ))]
    let w38:List Prf:=[⟨(aMK aA (l:=aJ) (n:=aJ.length) rfl 1)⟩,⟨c5⟩,⟨(aS aA aJ)⟩,⟨(pK k aJ _ e4)⟩,⟨(yN k aJ _ e3)⟩,⟨(hI k aJ (.inr x2) e1)⟩,⟨c0⟩]++w2
    obtain⟨x5,e6,h⟩:=bsm h
    cases x5 with
    | inl x6 =>
     simp only[Sum.elim_inl] at h
     obtain rfl:=osi h
     exact Tri.of (x:=X8) aE mB (u37++[(A8_0 x6),df,df,df,df,df,df,df,df,df,df,df,df,df,df,df,df,df,df,df,df,df,df,df,df,df,df,df,df,df,df,df,df,df,df,df,df,df]) ([⟨rF⟩,⟨rF⟩,⟨rF⟩,⟨rF⟩,⟨rF⟩,⟨rF⟩,⟨rF⟩,⟨rF⟩,⟨rF⟩,⟨rF⟩,⟨rF⟩,⟨rF⟩,⟨rF⟩,⟨rF⟩,⟨rF⟩,⟨rF⟩,⟨rF⟩,⟨rF⟩,⟨rF⟩,⟨rF⟩,⟨rF⟩,⟨rF⟩,⟨rF⟩,⟨rF⟩,⟨rF⟩,⟨rF⟩,⟨rF⟩,⟨rF⟩,⟨rF⟩,⟨rF⟩,⟨rF⟩,⟨rF⟩,⟨rF⟩,⟨(rfl:eqI 4 0=false)⟩,⟨(rfl:eqI 4 0=false)⟩,⟨(rfl:eqI 4 0=false)⟩,⟨(rfl:eqI 4 0=false)⟩,⟨(hI k (List.drop 1 aJ) (.inl x6) e6)⟩]++w38) (by kernel_rfl)
    | inr x6 =>
     simp only[Sum.elim_inr] at h
     obtain rfl:=osi h
     exact Tri.of (x:=X8) aE mB (u37++[A8_1,df,df,df,df,df,df,df,df,df,df,df,df,df,df,df,df,df,df,df,df,df,df,df,df,df,df,df,df,df,df,df,df,df,df,df,df,df]) ([⟨rF⟩,⟨rF⟩,⟨rF⟩,⟨rF⟩,⟨rF⟩,⟨rF⟩,⟨rF⟩,⟨rF⟩,⟨rF⟩,⟨rF⟩,⟨rF⟩,⟨rF⟩,⟨rF⟩,⟨rF⟩,⟨rF⟩,⟨rF⟩,⟨rF⟩,⟨rF⟩,⟨rF⟩,⟨rF⟩,⟨rF⟩,⟨rF⟩,⟨rF⟩,⟨rF⟩,⟨rF⟩,⟨rF⟩,⟨rF⟩,⟨rF⟩,⟨rF⟩,⟨rF⟩,⟨rF⟩,⟨rF⟩,⟨rF⟩,⟨(rfl:eqI 4 0=false)⟩,⟨(rfl:eqI 4 0=false)⟩,⟨(rfl:eqI 4 0=false)⟩,⟨(rfl:eqI 4 0=false)⟩,⟨(hI k (List.drop 1 aJ) (.inr x6) e6)⟩]++w38) (by kernel_rfl)
  rw[if_neg c5] at h;replace c5:=eqf c5
  cases h
end Go.Ws

namespace Go.Ws
open Go.Proofs
set_option linter.unusedSimpArgs false
set_option linter.unusedVariables false
set_option maxRecDepth 1000000
set_option maxHeartbeats 4000000
noncomputable def X35_1001:Ctx:=⟨Try.f35,[],false⟩
theorem v9 (k:Nat) (x1:Ty7) (r:Unit) (h:gZ k x1=some r):Tri Try.prog 35 [(.inl 4 (List.map aA x1))] [] (.ref 4 0 0 0 x1.length .virt) [(.arr 4 (List.map aA x1) 0 0 false)]:=by
 unfold gZ at h
 by_cases c0:cR (x1.length*32)=true
 · rw[if_pos c0] at h
   obtain rfl:=osi h
   exact Tri.of (x:=X35_1001) aE aP1 [df,.n x1.length,.norm 0 ⟨[(2,[])],[⟨.tmp 2,[],some 4⟩],false,[],[]⟩,.n x1.length,.rows (List.map aA x1)] [⟨(fF aA (l:=x1) (n:=x1.length) rfl)⟩,⟨(rfl:x1.length=x1.length)⟩,⟨(zle x1.length)⟩,⟨c0⟩,⟨(aS aA x1)⟩,⟨rF⟩] (by kernel_rfl)
 rw[if_neg c0] at h;replace c0:=eqf c0
 cases h
end Go.Ws

namespace Go.Ws
open Go.Proofs
set_option linter.unusedSimpArgs false
set_option linter.unusedVariables false
set_option maxRecDepth 1000000
set_option maxHeartbeats 4000000
noncomputable def X35_1002:Ctx:=⟨Try.f35,[],false⟩
theorem wL:Tri Try.prog 35 [.nils] [] (.ref 4 0 0 0 0 .virt) [(.arr 4 (List.map aA []) 0 0 false)]:=by
 obtain⟨r,h⟩:∃r,oE=r:=⟨_,rfl⟩
 try rw[h]
 unfold oE at h
 obtain rfl:=h
 exact Tri.of (x:=X35_1002) aE aP1 [dt,.norm 0 ⟨[(2,[])],[⟨.tmp 2,[],some 4⟩],false,[],[]⟩,.n 0,.rows (List.map aA [])] [⟨(fF aA (l:=[]) (n:=0) rfl)⟩,⟨(rfl:0=0)⟩,⟨(zle 0)⟩,⟨rT⟩] (by kernel_rfl)
end Go.Ws

namespace Go.Ws
open Go.Proofs
set_option linter.unusedSimpArgs false
set_option linter.unusedVariables false
set_option maxRecDepth 1000000
set_option maxHeartbeats 4000000
theorem t7 (k:Nat) (x1:Ty7) (r:Unit) (h:kW k x1=some r):Tri Try.prog 35 [(.sl 4 (List.map aA x1))] [] (.ref 4 0 0 0 x1.length .virt) [(.arr 4 (List.map aA x1) 0 0 false)]:=by
 refine Tri.slOf (v9 k x1 r h) fun h0=>?_
 have hx:x1=[]:=by simpa using h0
 subst hx
 exact wL
end Go.Ws

namespace Go.Ws
open Go.Proofs
set_option linter.unusedSimpArgs false
set_option linter.unusedVariables false
set_option maxRecDepth 1000000
set_option maxHeartbeats 4000000
noncomputable def X22 (x1:aG) (x2:Ty8) (x3:Ty2) (x4:Ty7):Ctx:=⟨Try.f22,[(.row [(.sl 2 (List.map aB x1)),(.sl 3 (List.map aD x2)),(.mp 1),(.ref 4 2 0 0 x4.length .virt)]),(.map (bA .i64 (fun y=>AV.agg (aC y)) x3) x3.length),(.arr 4 (List.map aA x4) 0 0 false)],false⟩
theorem aD8 (k:Nat) (x1:aG) (x2:Ty8) (x3:Ty2) (x4:Ty7) (r:Unit) (h:nE k x1 x2 x3 x4=some r):Tri Try.prog 22 [(.hp 0 0)] [(.row [(.sl 2 (List.map aB x1)),(.sl 3 (List.map aD x2)),(.mp 1),(.ref 4 2 0 0 x4.length .virt)]),(.map (bA .i64 (fun y=>AV.agg (aC y)) x3) x3.length),(.arr 4 (List.map aA x4) 0 0 false)] (.ref 4 3 0 0 x4.length .virt) [(.row [(.sl 2 (List.map aB x1)),(.sl 3 (List.map aD x2)),(.mp 1),(.ref 4 2 0 0 x4.length .virt)]),(.map (bA .i64 (fun y=>AV.agg (aC y)) x3) x3.length),(.arr 4 (List.map aA x4) 0 0 true),(.arr 4 (List.map aA x4) 0 0 false)]:=by
 unfold nE at h
 obtain⟨x5,e0,h⟩:=bsm h
 obtain rfl:=osi h
 exact Tri.of (x:=(X22 x1 x2 x3 x4)) aE aPJ [.call ⟨true,[]⟩ (.bool (!false)) [(.row [(.sl 2 (List.map aB x1)),(.sl 3 (List.map aD x2)),(.mp 1),(.ref 4 2 0 0 x4.length .virt)]),(.map (bA .i64 (fun y=>AV.agg (aC y)) x3) x3.length),(.arr 4 (List.map aA x4) 0 0 false)],df,.call ⟨true,[]⟩ (.ref 4 0 0 0 x4.length .virt) [(.arr 4 (List.map aA x4) 0 0 false)],.rows (List.map aA x4),.norm 0 ⟨[(2,[])],[⟨.tmp 2,[],none⟩],false,[],[]⟩] [⟨(t7 k x4 _ e0)⟩,⟨(b8 aA (l:=x4) (n:=x4.length) rfl)⟩,⟨(eT aA (Nat.le_refl x4.length):0+x4.length≤(List.map aA x4).length)⟩,⟨(nF (nT rfl))⟩,⟨(tS x1 x2 x3 x4)⟩] (by kernel_rfl)
end Go.Ws

namespace Go.Ws
open Go.Proofs
set_option linter.unusedSimpArgs false
set_option linter.unusedVariables false
set_option maxRecDepth 1000000
set_option maxHeartbeats 4000000
noncomputable def X33_4 (x1:aG) (x2:Ty8) (x3:Ty2) (x4:Ty7):Ctx:=⟨Try.f33,[(.row [(.sl 2 (List.map aB x1)),(.sl 3 (List.map aD x2)),(.mp 1),(.ref 4 2 0 0 x4.length .virt)]),(.map (bA .i64 (fun y=>AV.agg (aC y)) x3) x3.length),(.arr 4 (List.map aA x4) 0 0 true)],false⟩
theorem lR (x1:aG) (x2:Ty8) (x3:Ty2) (x4:Ty7):Tri Try.prog 33 [(.hp 0 0)] [(.row [(.sl 2 (List.map aB x1)),(.sl 3 (List.map aD x2)),(.mp 1),(.ref 4 2 0 0 x4.length .virt)]),(.map (bA .i64 (fun y=>AV.agg (aC y)) x3) x3.length),(.arr 4 (List.map aA x4) 0 0 true)] (.bool (!false)) [(.row [(.sl 2 (List.map aB x1)),(.sl 3 (List.map aD x2)),(.mp 1),(.ref 4 2 0 0 x4.length .virt)]),(.map (bA .i64 (fun y=>AV.agg (aC y)) x3) x3.length),(.arr 4 (List.map aA x4) 0 0 true)]:=by
 obtain⟨r,h⟩:∃r,rP x1 x2 x3 x4=r:=⟨_,rfl⟩
 try rw[h]
 unfold rP at h
 obtain rfl:=h
 exact Tri.of (x:=(X33_4 x1 x2 x3 x4)) aE aOS [dt,dt,dt,dt,dt,dt,.norm 0 ⟨[(2,[])],[],false,[],[]⟩] [⟨(nT rfl)⟩,⟨(nT rfl)⟩,⟨(nT rfl)⟩,⟨(nT rfl)⟩,⟨(nT rfl)⟩,⟨(nT rfl)⟩] (by kernel_rfl)
end Go.Ws

namespace Go.Ws
open Go.Proofs
set_option linter.unusedSimpArgs false
set_option linter.unusedVariables false
set_option maxRecDepth 1000000
set_option maxHeartbeats 4000000
noncomputable def X22_1 (x1:aG) (x2:Ty8) (x3:Ty2) (x4:Ty7):Ctx:=⟨Try.f22,[(.row [(.sl 2 (List.map aB x1)),(.sl 3 (List.map aD x2)),(.mp 1),(.ref 4 2 0 0 x4.length .virt)]),(.map (bA .i64 (fun y=>AV.agg (aC y)) x3) x3.length),(.arr 4 (List.map aA x4) 0 0 true)],false⟩
theorem uU (k:Nat) (x1:aG) (x2:Ty8) (x3:Ty2) (x4:Ty7) (r:Unit) (h:jO k x1 x2 x3 x4=some r):Tri Try.prog 22 [(.hp 0 0)] [(.row [(.sl 2 (List.map aB x1)),(.sl 3 (List.map aD x2)),(.mp 1),(.ref 4 2 0 0 x4.length .virt)]),(.map (bA .i64 (fun y=>AV.agg (aC y)) x3) x3.length),(.arr 4 (List.map aA x4) 0 0 true)] (.ref 4 3 0 0 x4.length .virt) [(.row [(.sl 2 (List.map aB x1)),(.sl 3 (List.map aD x2)),(.mp 1),(.ref 4 2 0 0 x4.length .virt)]),(.map (bA .i64 (fun y=>AV.agg (aC y)) x3) x3.length),(.arr 4 (List.map aA x4) 0 0 true),(.arr 4 (List.map aA x4) 0 0 false)]:=by
 unfold jO at h
 obtain⟨x5,e0,h⟩:=bsm h
 obtain rfl:=osi h
 exact Tri.of (x:=(X22_1 x1 x2 x3 x4)) aE aPJ [.call ⟨true,[]⟩ (.bool (!false)) [(.row [(.sl 2 (List.map aB x1)),(.sl 3 (List.map aD x2)),(.mp 1),(.ref 4 2 0 0 x4.length .virt)]),(.map (bA .i64 (fun y=>AV.agg (aC y)) x3) x3.length),(.arr 4 (List.map aA x4) 0 0 true)],df,.call ⟨true,[]⟩ (.ref 4 0 0 0 x4.length .virt) [(.arr 4 (List.map aA x4) 0 0 false)],.rows (List.map aA x4),.norm 0 ⟨[(2,[])],[⟨.tmp 2,[],none⟩],false,[],[]⟩] [⟨(t7 k x4 _ e0)⟩,⟨(b8 aA (l:=x4) (n:=x4.length) rfl)⟩,⟨(eT aA (Nat.le_refl x4.length):0+x4.length≤(List.map aA x4).length)⟩,⟨(nF (nT rfl))⟩,⟨(lR x1 x2 x3 x4)⟩] (by kernel_rfl)
end Go.Ws

namespace Go.Ws
open Go.Proofs
set_option linter.unusedSimpArgs false
set_option linter.unusedVariables false
set_option maxRecDepth 1000000
set_option maxHeartbeats 4000000
noncomputable def X25:Ctx:=⟨Try.f25,[],true⟩
noncomputable def L25_0:Code:=at_ Try.f25 [1,0,1,4,5]
def S25_0 (x1:aG) (x2:Int) (dF:Int):St:=⟨mkT 24 [(0,(.sl 2 (List.map aB x1))),(1,(.int .u8 x2)),(5,(.int .i64 dF))],[]⟩
def aJV:St:=⟨mkT 24 [],[]⟩
def O25_0 (x1:aG) (x2:Int) (y:(Sum (Unit) (Int))):GX:=match y with
 | .inl y=>.st (.exit 0) (aJV)
 | .inr y=>.fin (.int .i64 y) []
theorem tF (x1:aG) (x2:Int) (y:(Sum (Unit) (Int))):∀(k:Nat) (dF:Int),gP k x1 x2 dF=some y→LT Try.prog X25 L25_0 (S25_0 x1 x2 dF) (O25_0 x1 x2 y)
 | 0,dF,h=>by cases h
 | k+1,dF,h=>by
  rw[gP] at h
  by_cases cL0:ltI dF (nI x1.length)=true
  · rw[if_pos cL0] at h
    by_cases cL1:inI dF x1.length=true
    · rw[if_pos cL1] at h
      obtain⟨pG,eL2,h⟩:=bsm h
      let u3:List Ans:=[.n x1.length,dt,.n x1.length,.row [(.int .u8 pG.1)]]
      let w4:List Prf:=[⟨(b7 (e:=aB) eL2 2 0 1 (by decide))⟩,⟨cL1⟩,⟨(aS aB x1)⟩,⟨cL0⟩,⟨(aS aB x1)⟩]
      by_cases cL3:eqI pG.1 x2=true
      · rw[if_pos cL3] at h
        obtain rfl:=osi h
        show LT _ _ _ _ (.fin (.int .i64 pG.2) [])
        exact LT.done aE (hs:=⟨[],[],false,[],[]⟩) (es:=none) (u3++[dt,.n x1.length,.row [(.int .i64 pG.2)]]) ([⟨(b7 (e:=aB) eL2 2 1 1 (by decide))⟩,⟨cL1⟩,⟨(aS aB x1)⟩,⟨cL3⟩]++w4) (by kernel_rfl) (fun s h=>by cases h)
      rw[if_neg cL3] at h;replace cL3:=eqf cL3
      exact LT.next aE (hs:=⟨[(0,[]),(1,[]),(5,[])],[],false,[],[]⟩) (es:=none) (u3++[df]) ([⟨cL3⟩]++w4) (by kernel_rfl) (tF x1 x2 y k (aH .i64 dF 1) h)
    rw[if_neg cL1] at h;replace cL1:=eqf cL1
    cases h
  rw[if_neg cL0] at h;replace cL0:=eqf cL0
  obtain rfl:=osi h
  show LT _ _ _ _ (.st (.exit 0) (aJV))
  exact LT.done aE (hs:=⟨[],[],false,[],[]⟩) (es:=(some ⟨[],[],false,[],[]⟩)) [.n x1.length,df] [⟨cL0⟩,⟨(aS aB x1)⟩] (by kernel_rfl) (fun s h=>by cases h)
theorem aKS (k:Nat) (x1:aG) (x2:Int) (r:Int) (h:t4 k x1 x2=some r):Tri Try.prog 25 [(.sl 2 (List.map aB x1)),(.int .u8 x2)] [] (.int .i64 r) []:=by
 unfold t4 at h
 obtain⟨x3,e0,h⟩:=bsm h
 cases x3 with
 | inl x4 =>
  simp only[Sum.elim_inl] at h
  obtain rfl:=osi h
  exact Tri.of (x:=X25) aE aPP [.norm 2 ⟨[(0,[]),(1,[]),(5,[])],[],false,[],[]⟩,.out (.st .normal (aJV))] [⟨(LT.block (tF x1 x2 _ k 0 e0))⟩] (by kernel_rfl)
 | inr x4 =>
  simp only[Sum.elim_inr] at h
  obtain rfl:=osi h
  exact Tri.of (x:=X25) aE aPP [.norm 2 ⟨[(0,[]),(1,[]),(5,[])],[],false,[],[]⟩,.out (.fin (.int .i64 x4) [])] [⟨(LT.blockFin (id:=0) (tF x1 x2 _ k 0 e0))⟩] (by kernel_rfl)
end Go.Ws

namespace Go.Ws
open Go.Proofs
set_option linter.unusedSimpArgs false
set_option linter.unusedVariables false
set_option maxRecDepth 1000000
set_option maxHeartbeats 4000000
noncomputable def X16:Ctx:=⟨Try.f16,[],true⟩
noncomputable def L16_0:Code:=at_ Try.f16 [1,1,0,1,4,5]
def S16_0 (x1:aG) (x2:aG) (cH:Int):St:=⟨mkT 26 [(0,(.sl 2 (List.map aB x1))),(1,(.sl 2 (List.map aB x2))),(5,(.int .i64 cH))],[]⟩
def aKX:St:=⟨mkT 26 [],[]⟩
def O16_0 (x1:aG) (x2:aG) (y:xC):GX:=match y with
 | .inl y=>.st (.exit 0) (aKX)
 | .inr y=>.fin (.bool y) []
theorem rY (x1:aG) (x2:aG) (y:xC):∀(k:Nat) (cH:Int),fZ k x1 x2 cH=some y→LT Try.prog X16 L16_0 (S16_0 x1 x2 cH) (O16_0 x1 x2 y)
 | 0,cH,h=>by cases h
 | k+1,cH,h=>by
  rw[fZ] at h
  by_cases cL0:ltI cH (nI x1.length)=true
  · rw[if_pos cL0] at h
    by_cases cL1:inI cH x1.length=true
    · rw[if_pos cL1] at h
      obtain⟨oK,eL2,h⟩:=bsm h
      by_cases cL3:inI cH x2.length=true
      · rw[if_pos cL3] at h
        obtain⟨oL,eL4,h⟩:=bsm h
        let u3:List Ans:=[.n x1.length,dt,.n x1.length,.row [(.int .u8 oK.1),(.int .i64 oK.2)],.n x2.length,.row [(.int .u8 oL.1),(.int .i64 oL.2)]]
        let w4:List Prf:=[⟨(b7 (e:=aB) eL4 2 0 2 (by decide))⟩,⟨cL3⟩,⟨(aS aB x2)⟩,⟨(b7 (e:=aB) eL2 2 0 2 (by decide))⟩,⟨cL1⟩,⟨(aS aB x1)⟩,⟨cL0⟩,⟨(aS aB x1)⟩]
        by_cases cL5:eqI oK.1 oL.1=true
        · rw[if_pos cL5] at h
          by_cases cL6:eqI oK.2 oL.2=true
          · rw[if_pos cL6] at h
            exact LT.next aE (hs:=⟨[(0,[]),(1,[]),(5,[])],[],false,[],[]⟩) (es:=none) (u3++[df]) ([⟨(nF (aT cL5 cL6))⟩]++w4) (by kernel_rfl) (rY x1 x2 y k (aH .i64 cH 1) h)
          rw[if_neg cL6] at h;replace cL6:=eqf cL6
          obtain rfl:=osi h
          show LT _ _ _ _ (.fin (.bool false) [])
          exact LT.done aE (hs:=⟨[],[],false,[],[]⟩) (es:=none) (u3++[dt]) ([⟨(nT (aF2 cL5 cL6))⟩]++w4) (by kernel_rfl) (fun s h=>by cases h)
        rw[if_neg cL5] at h;replace cL5:=eqf cL5
        obtain rfl:=osi h
        show LT _ _ _ _ (.fin (.bool false) [])
        exact LT.done aE (hs:=⟨[],[],false,[],[]⟩) (es:=none) (u3++[dt]) ([⟨(nT (aF1 (b:=eqI oK.2 oL.2) cL5))⟩]++w4) (by kernel_rfl) (fun s h=>by cases h)
      rw[if_neg cL3] at h;replace cL3:=eqf cL3
      cases h
    rw[if_neg cL1] at h;replace cL1:=eqf cL1
    cases h
  rw[if_neg cL0] at h;replace cL0:=eqf cL0
  obtain rfl:=osi h
  show LT _ _ _ _ (.st (.exit 0) (aKX))
  exact LT.done aE (hs:=⟨[],[],false,[],[]⟩) (es:=(some ⟨[],[],false,[],[]⟩)) [.n x1.length,df] [⟨cL0⟩,⟨(aS aB x1)⟩] (by kernel_rfl) (fun s h=>by cases h)
theorem aIC (k:Nat) (x1:aG) (x2:aG) (r:Bool) (h:rS k x1 x2=some r):Tri Try.prog 16 [(.sl 2 (List.map aB x1)),(.sl 2 (List.map aB x2))] [] (.bool r) []:=by
 unfold rS at h
 let w6:List Prf:=[⟨(aS aB x2)⟩,⟨(aS aB x1)⟩]
 by_cases c0:eqI (nI x1.length) (nI x2.length)=true
 · rw[if_pos c0] at h
   let u7:List Ans:=[.n x1.length,.n x2.length,df,.norm 2 ⟨[(0,[]),(1,[]),(5,[])],[],false,[],[]⟩]
   obtain⟨x3,e1,h⟩:=bsm h
   cases x3 with
   | inl x4 =>
    simp only[Sum.elim_inl] at h
    obtain rfl:=osi h
    exact Tri.of (x:=X16) aE aKH (u7++[.out (.st .normal (aKX))]) ([⟨(LT.block (rY x1 x2 _ k 0 e1))⟩,⟨(nF c0)⟩]++w6) (by kernel_rfl)
   | inr x4 =>
    simp only[Sum.elim_inr] at h
    obtain rfl:=osi h
    exact Tri.of (x:=X16) aE aKH (u7++[.out (.fin (.bool x4) [])]) ([⟨(LT.blockFin (id:=0) (rY x1 x2 _ k 0 e1))⟩,⟨(nF c0)⟩]++w6) (by kernel_rfl)
 rw[if_neg c0] at h;replace c0:=eqf c0
 obtain rfl:=osi h
 exact Tri.of (x:=X16) aE aKH [.n x1.length,.n x2.length,dt] ([⟨(nT c0)⟩]++w6) (by kernel_rfl)
end Go.Ws

namespace Go.Ws
open Go.Proofs
set_option linter.unusedSimpArgs false
set_option linter.unusedVariables false
set_option maxRecDepth 1000000
set_option maxHeartbeats 4000000
noncomputable def X23 (x2:aG) (x3:Ty8) (x4:Ty2) (x5:Ty7):Ctx:=⟨Try.f23,[(.row [(.sl 2 (List.map aB x2)),(.sl 3 (List.map aD x3)),(.mp 1),(.ref 4 2 0 0 x5.length .virt)]),(.map (bA .i64 (fun y=>AV.agg (aC y)) x4) x4.length),(.arr 4 (List.map aA x5) 0 0 true)],false⟩
def A23_0 (x2:aG) (x3:Ty8) (x4:Ty2) (x5:Ty7):Ans:=.call ⟨true,[]⟩ (.bool (!false)) [(.row [(.sl 2 (List.map aB x2)),(.sl 3 (List.map aD x3)),(.mp 1),(.ref 4 2 0 0 x5.length .virt)]),(.map (bA .i64 (fun y=>AV.agg (aC y)) x4) x4.length),(.arr 4 (List.map aA x5) 0 0 true)]
def A23_1:Ans:=.norm 0 ⟨[(4,[]),(5,[])],[⟨.tmp 4,[],none⟩,⟨.cell 3 1,[],none⟩],false,[],[]⟩
theorem aDE (k:Nat) (x1:Int) (x2:aG) (x3:Ty8) (x4:Ty2) (x5:Ty7) (r:Int × Bool × Int × aG × Bool) (h:mA k x1 x2 x3 x4 x5=some r):Tri Try.prog 23 [(.hp 0 0),(.int .i64 x1)] [(.row [(.sl 2 (List.map aB x2)),(.sl 3 (List.map aD x3)),(.mp 1),(.ref 4 2 0 0 x5.length .virt)]),(.map (bA .i64 (fun y=>AV.agg (aC y)) x4) x4.length),(.arr 4 (List.map aA x5) 0 0 true)] (.tup [(.agg [(.int .i64 r.1),(.ref 2 3 0 0 r.2.2.2.1.length .virt),(.bool r.2.1),(.int .i64 r.2.2.1)]),(.bool r.2.2.2.2)]) [(.row [(.sl 2 (List.map aB x2)),(.sl 3 (List.map aD x3)),(.mp 1),(.ref 4 2 0 0 x5.length .virt)]),(.map (bA .i64 (fun y=>AV.agg (aC y)) x4) x4.length),(.arr 4 (List.map aA x5) 0 0 true),(.arr 2 (List.map aB r.2.2.2.1) 0 0 false)]:=by
 unfold mA at h
 let w2:List Prf:=[⟨(nF (nT rfl))⟩,⟨(lR x2 x3 x4 x5)⟩]
 by_cases c0:k9 x4 x1=true
 · rw[if_pos c0] at h
   obtain⟨x6,e1,h⟩:=bsm h
   obtain⟨x7,e2,h⟩:=bsm h
   obtain rfl:=osi h
   exact Tri.of (x:=(X23 x2 x3 x4 x5)) aE aPC [(A23_0 x2 x3 x4 x5),df,.opt (some (.agg [(.int .i64 x6.1),(.sl 2 (List.map aB x6.2.1)),(.bool x6.2.2.1),(.int .i64 x6.2.2.2)])),.call ⟨true,[]⟩ (.ref 2 0 0 0 x6.2.1.length .virt) [(.arr 2 (List.map aB x6.2.1) 0 0 false)],A23_1] ([⟨(gU k x6.2.1 _ e2)⟩,⟨(g4 .i64 (fun y=>AV.agg (aC y)) e1)⟩]++w2) (by kernel_rfl)
 rw[if_neg c0] at h;replace c0:=eqf c0
 obtain⟨x6,e1,h⟩:=bsm h
 obtain rfl:=osi h
 exact Tri.of (x:=(X23 x2 x3 x4 x5)) aE aPC [(A23_0 x2 x3 x4 x5),df,.opt none,.call ⟨true,[]⟩ (.ref 2 0 0 0 0 .virt) [(.arr 2 (List.map aB []) 0 0 false)],A23_1] ([⟨(gU k [] _ e1)⟩,⟨(j8 .i64 (fun y=>AV.agg (aC y)) c0)⟩]++w2) (by kernel_rfl)
end Go.Ws

namespace Go.Ws
open Go.Proofs
set_option linter.unusedSimpArgs false
set_option linter.unusedVariables false
set_option maxRecDepth 1000000
set_option maxHeartbeats 4000000
noncomputable def X24 (x2:aG) (x3:Ty8) (x4:Ty2) (x5:Ty7):Ctx:=⟨Try.f24,[(.row [(.sl 2 (List.map aB x2)),(.sl 3 (List.map aD x3)),(.mp 1),(.ref 4 2 0 0 x5.length .virt)]),(.map (bA .i64 (fun y=>AV.agg (aC y)) x4) x4.length),(.arr 4 (List.map aA x5) 0 0 true)],false⟩
theorem aD4 (k:Nat) (x1:Int) (x2:aG) (x3:Ty8) (x4:Ty2) (x5:Ty7) (r:Int) (h:nL k x1 x2 x3 x4 x5=some r):Tri Try.prog 24 [(.hp 0 0),(.int .u8 x1)] [(.row [(.sl 2 (List.map aB x2)),(.sl 3 (List.map aD x3)),(.mp 1),(.ref 4 2 0 0 x5.length .virt)]),(.map (bA .i64 (fun y=>AV.agg (aC y)) x4) x4.length),(.arr 4 (List.map aA x5) 0 0 true)] (.int .i64 r) [(.row [(.sl 2 (List.map aB x2)),(.sl 3 (List.map aD x3)),(.mp 1),(.ref 4 2 0 0 x5.length .virt)]),(.map (bA .i64 (fun y=>AV.agg (aC y)) x4) x4.length),(.arr 4 (List.map aA x5) 0 0 true)]:=by
 unfold nL at h
 obtain⟨x6,e0,h⟩:=bsm h
 obtain rfl:=osi h
 exact Tri.of (x:=(X24 x2 x3 x4 x5)) aE facts24 [.call ⟨true,[]⟩ (.bool (!false)) [(.row [(.sl 2 (List.map aB x2)),(.sl 3 (List.map aD x3)),(.mp 1),(.ref 4 2 0 0 x5.length .virt)]),(.map (bA .i64 (fun y=>AV.agg (aC y)) x4) x4.length),(.arr 4 (List.map aA x5) 0 0 true)],df,.call ⟨true,[]⟩ (.int .i64 x6) [],.norm 0 ⟨[(4,[])],[],false,[],[]⟩] [⟨(vU k x2 x1 _ e0)⟩,⟨(nF (nT rfl))⟩,⟨(lR x2 x3 x4 x5)⟩] (by kernel_rfl)
end Go.Ws

namespace Go.Ws
open Go.Proofs
set_option linter.unusedSimpArgs false
set_option linter.unusedVariables false
set_option maxRecDepth 1000000
set_option maxHeartbeats 4000000
noncomputable def aG7 (x9:aG) (x10:Ty8) (x11:Ty2) (x12:Ty7):Ctx:=⟨Try.f47,[(.row [(.sl 2 (List.map aB x9)),(.sl 3 (List.map aD x10)),(.mp 1),(.ref 4 2 0 0 x12.length .virt)]),(.map (bA .i64 (fun y=>AV.agg (aC y)) x11) x11.length),(.arr 4 (List.map aA x12) 0 0 true)],false⟩
noncomputable def L47_4_0:Code:=at_ Try.f47 [1,1,1,1,1,1,1,0,1,4,5]
def S47_4_0 (x2:aG) (x5:Int) (x6:Int) (x7:Int) (x8:Int) (x9:aG) (x11:Ty2) (x12:Ty7) (x13:Ty8 × Int) (eB:Int) (dH:Int):St:=⟨mkT 92 [(5,(.hp 3 0)),(10,(.int .i64 eB)),(75,(.sl 2 (List.map aB x2))),(76,(.int .i64 (nI x2.length))),(77,(.int .i64 dH))],[(.row [(.sl 2 (List.map aB x9)),(.sl 3 (List.map aD x13.1)),(.mp 1),(.ref 4 2 0 0 x12.length .virt)]),(.map (bA .i64 (fun y=>AV.agg (aC y)) x11) x11.length),(.arr 4 (List.map aA x12) 0 0 true),(.row [(.int .i64 x5),(.int .i64 x6),(.int .u8 x7),(.int .i64 x8)])]⟩
def aD6 (x9:aG) (x11:Ty2) (x12:Ty7) (x13:Ty8 × Int) (aRX:Int):St:=⟨mkT 92 [(10,(.int .i64 aRX))],[(.row [(.sl 2 (List.map aB x9)),(.sl 3 (List.map aD x13.1)),(.mp 1),(.ref 4 2 0 0 x12.length .virt)]),(.map (bA .i64 (fun y=>AV.agg (aC y)) x11) x11.length),(.arr 4 (List.map aA x12) 0 0 true)]⟩
def O47_4_0 (x2:aG) (x5:Int) (x6:Int) (x7:Int) (x8:Int) (x9:aG) (x10:Ty8) (x11:Ty2) (x12:Ty7) (x13:Ty8 × Int) (y:(Int)):GX:=.st (.exit 0) (aD6 x9 x11 x12 x13 y)
def aJZ (x13:Ty8 × Int):Ans:=.call ⟨true,[]⟩ (.tup [(.sl 3 (List.map aD x13.1)),(.int .i64 x13.2)]) []
def aAA:Ans:=.norm 0 ⟨[(6,[]),(7,[])],[],false,[],[]⟩
theorem lL (x2:aG) (x5:Int) (x6:Int) (x7:Int) (x8:Int) (x9:aG) (x10:Ty8) (x11:Ty2) (x12:Ty7) (x13:Ty8 × Int) (y:(Int)):∀(k:Nat) (eB:Int) (dH:Int),cG k x2 x5 x6 x7 x8 x9 x10 x11 x12 x13 eB dH=some y→LT Try.prog (aG7 x9 x10 x11 x12) L47_4_0 (S47_4_0 x2 x5 x6 x7 x8 x9 x11 x12 x13 eB dH) (O47_4_0 x2 x5 x6 x7 x8 x9 x10 x11 x12 x13 y)
 | 0,eB,dH,h=>by cases h
 | k+1,eB,dH,h=>by
  rw[cG] at h
  by_cases cL0:ltI dH (nI x2.length)=true
  · rw[if_pos cL0] at h
    by_cases cL1:inI dH x2.length=true
    · rw[if_pos cL1] at h
      obtain⟨sB,eL2,h⟩:=bsm h
      let u1:List Ans:=[dt,.n x2.length,.row [(.int .u8 sB.1),(.int .i64 sB.2)]]
      let w2:List Prf:=[⟨(b7 (e:=aB) eL2 2 0 2 (by decide))⟩,⟨cL1⟩,⟨(aS aB x2)⟩,⟨cL0⟩]
      by_cases cL3:eqI sB.1 x7=true
      · rw[if_pos cL3] at h
        exact LT.next aE (hs:=⟨[(5,[]),(10,[]),(75,[]),(76,[]),(77,[])],[⟨.tmp 5,[],none⟩],false,[],[]⟩) (es:=none) (u1++[dt]) ([⟨cL3⟩]++w2) (by kernel_rfl) (lL x2 x5 x6 x7 x8 x9 x10 x11 x12 x13 y k (aH .i64 eB sB.2) (aH .i64 dH 1) h)
      rw[if_neg cL3] at h;replace cL3:=eqf cL3
      exact LT.next aE (hs:=⟨[(5,[]),(10,[]),(75,[]),(76,[]),(77,[])],[⟨.tmp 5,[],none⟩],false,[],[]⟩) (es:=none) (u1++[df]) ([⟨cL3⟩]++w2) (by kernel_rfl) (lL x2 x5 x6 x7 x8 x9 x10 x11 x12 x13 y k eB (aH .i64 dH 1) h)
    rw[if_neg cL1] at h;replace cL1:=eqf cL1
    cases h
  rw[if_neg cL0] at h;replace cL0:=eqf cL0
  obtain rfl:=osi h
  show LT _ _ _ _ (.st (.exit 0) (aD6 x9 x11 x12 x13 eB))
  exact LT.done aE (hs:=⟨[],[],false,[],[]⟩) (es:=(some ⟨[(10,[])],[],false,[],[]⟩)) [df] [⟨cL0⟩] (by kernel_rfl) (fun s h=>by cases h)
theorem rN (k:Nat) (x1:Int) (x2:aG) (x3:Bool) (x4:Int) (x5:Int) (x6:Int) (x7:Int) (x8:Int) (x9:aG) (x10:Ty8) (x11:Ty2) (x12:Ty7) (r:Ty8 × Ty2 × Int × Int) (h:gT k x1 x2 x3 x4 x5 x6 x7 x8 x9 x10 x11 x12=some r):Tri Try.prog 47 [(.hp 0 0),(.agg [(.int .i64 x1),(.sl 2 (List.map aB x2)),(.bool x3),(.int .i64 x4)]),(.agg [(.int .i64 x5),(.int .i64 x6),(.int .u8 x7),(.int .i64 x8)])] [(.row [(.sl 2 (List.map aB x9)),(.sl 3 (List.map aD x10)),(.mp 1),(.ref 4 2 0 0 x12.length .virt)]),(.map (bA .i64 (fun y=>AV.agg (aC y)) x11) x11.length),(.arr 4 (List.map aA x12) 0 0 true)] (.tup [(.int .i64 r.2.2.2),(.int .i64 r.2.2.1)]) [(.row [(.sl 2 (List.map aB x9)),(.sl 3 (List.map aD r.1)),(.mp 1),(.ref 4 2 0 0 x12.length .virt)]),(.map (bA .i64 (fun y=>AV.agg (aC y)) r.2.1) r.2.1.length),(.arr 4 (List.map aA x12) 0 0 true)]:=by
 unfold gT at h
 by_cases c0:eqI x1 0=true
 · rw[if_pos c0] at h
   obtain⟨x13,e1,h⟩:=bsm h
   let w4:List Prf:=[⟨(aCE k x10 x6 x7 (eqI x5 3) _ e1)⟩,⟨(nF c0)⟩]
   by_cases c2:eqI x13.2 0=true
   · rw[if_pos c2] at h
     by_cases c3:eqI x5 3=true
     · rw[if_pos c3] at h
       obtain⟨x14,e4,h⟩:=bsm h
       let u7:List Ans:=[df,(aJZ x13),df,dt,.call ⟨true,[]⟩ (.tup [(.agg [(.int .i64 x14.1),(.sl 2 (List.map aB x14.2.1)),(.bool x14.2.2.1),(.int .i64 x14.2.2.2.1)]),(.int .i64 x14.2.2.2.2)]) []]
       let w8:List Prf:=[⟨(aE5 k x1 x2 x3 x4 x7 x8 _ e4)⟩,⟨c3⟩,⟨(nF c2)⟩]++w4
       by_cases c5:eqI x14.2.2.2.2 0=true
       · rw[if_pos c5] at h
         by_cases c6:k9 x11 x6=true
         · rw[if_pos c6] at h
           obtain⟨x15,e7,h⟩:=bsm h
           obtain rfl:=osi h
           exact Tri.of (x:=(aG7 x9 x10 x11 x12)) aE pN (u7++[df,.opt (some (.agg [(.int .i64 x15.1),(.sl 2 (List.map aB x15.2.1)),(.bool x15.2.2.1),(.int .i64 x15.2.2.2)])),.n (mIx x11 x6),.ents (bA .i64 (fun y=>AV.agg (aC y)) x11) x11.length,.ents (bA .i64 (fun y=>AV.agg (aC y)) (aR x11 x6 (x14.1,x14.2.1,x14.2.2.1,x14.2.2.2.1))) (aR x11 x6 (x14.1,x14.2.1,x14.2.2.1,x14.2.2.2.1)).length,aAA]) ([⟨(aKW .i64 (fun y=>AV.agg (aC y)) e7 (x14.1,x14.2.1,x14.2.2.1,x14.2.2.2.1))⟩,⟨(aMC .i64 (fun y=>AV.agg (aC y)) e7 (.agg [(.int .i64 0),(.sl 2 (List.map aB [])),(.bool false),(.int .i64 0)]))⟩,⟨(aFV .i64 (fun y=>AV.agg (aC y)) x11 x6)⟩,⟨(g4 .i64 (fun y=>AV.agg (aC y)) e7)⟩,⟨(nF c5)⟩]++w8) (by kernel_rfl)
         rw[if_neg c6] at h;replace c6:=eqf c6
         obtain rfl:=osi h
         exact Tri.of (x:=(aG7 x9 x10 x11 x12)) aE pN (u7++[df,.opt none,.n (mIx x11 x6),.ents (bA .i64 (fun y=>AV.agg (aC y)) (aR x11 x6 (0,[],false,0))) (aR x11 x6 (0,[],false,0)).length,.ents (bA .i64 (fun y=>AV.agg (aC y)) (aR x11 x6 (x14.1,x14.2.1,x14.2.2.1,x14.2.2.2.1))) (aR x11 x6 (x14.1,x14.2.1,x14.2.2.1,x14.2.2.2.1)).length,aAA]) ([⟨(aO9 .i64 (fun y=>AV.agg (aC y)) (l:=x11) (q:=x6) (0,[],false,0) (x14.1,x14.2.1,x14.2.2.1,x14.2.2.2.1))⟩,⟨(aMO .i64 (fun y=>AV.agg (aC y)) c6 (0,[],false,0))⟩,⟨(aFV .i64 (fun y=>AV.agg (aC y)) x11 x6)⟩,⟨(j8 .i64 (fun y=>AV.agg (aC y)) c6)⟩,⟨(nF c5)⟩]++w8) (by kernel_rfl)
       rw[if_neg c5] at h;replace c5:=eqf c5
       obtain rfl:=osi h
       exact Tri.of (x:=(aG7 x9 x10 x11 x12)) aE pN (u7++[dt,aAA]) ([⟨(nT c5)⟩]++w8) (by kernel_rfl)
     rw[if_neg c3] at h;replace c3:=eqf c3
     obtain⟨x14,e4,h⟩:=bsm h
     obtain⟨x16,e5,h⟩:=bsm h
     obtain rfl:=osi h
     exact Tri.of (x:=(aG7 x9 x10 x11 x12)) aE pN [df,(aJZ x13),df,df,.call ⟨true,[]⟩ (.int .i64 x14) [],.n x2.length,.norm 2 ⟨[(5,[]),(10,[]),(75,[]),(76,[]),(77,[])],[⟨.tmp 5,[],none⟩],false,[],[]⟩,.out (.st .normal (aD6 x9 x11 x12 x13 x16)),aAA] ([⟨(LT.block (lL x2 x5 x6 x7 x8 x9 x10 x11 x12 x13 _ k x14 0 e5))⟩,⟨(aS aB x2)⟩,⟨(vU k x9 x7 _ e4)⟩,⟨c3⟩,⟨(nF c2)⟩]++w4) (by kernel_rfl)
   rw[if_neg c2] at h;replace c2:=eqf c2
   obtain rfl:=osi h
   exact Tri.of (x:=(aG7 x9 x10 x11 x12)) aE pN [df,(aJZ x13),dt,aAA] ([⟨(nT c2)⟩]++w4) (by kernel_rfl)
 rw[if_neg c0] at h;replace c0:=eqf c0
 obtain rfl:=osi h
 exact Tri.of (x:=(aG7 x9 x10 x11 x12)) aE pN [dt,aAA] [⟨(nT c0)⟩] (by kernel_rfl)
end Go.Ws
