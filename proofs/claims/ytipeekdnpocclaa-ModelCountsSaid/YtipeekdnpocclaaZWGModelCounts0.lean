/-
  Walks, merged.
  Conditions: none.
-/
import Derived.Test.YtipeekdnpocclaaZPre
import Derived.Test.YtipeekdnpocclaaZPure
import Derived.Test.YtipeekdnpocclaaZIns72
import Derived.Test.YtipeekdnpocclaaZDel45
import Derived.Test.YtipeekdnpocclaaZIns44
import Derived.Test.YtipeekdnpocclaaZOppI
import Derived.Test.YtipeekdnpocclaaZAgr
set_option linter.unusedVariables false
set_option linter.unusedSimpArgs false
namespace Go.Ws
open Go.Proofs
set_option linter.unusedSimpArgs false
set_option linter.unusedVariables false
set_option maxRecDepth 1000000
set_option maxHeartbeats 4000000
noncomputable def X26:Ctx:=⟨Try.f26,[],true⟩
theorem aC3:Tri Try.prog 26 [] [] (.sl 4 (List.map aA (aJ))) []:=by
 obtain⟨r,h⟩:∃r,aJ=r:=⟨_,rfl⟩
 try rw[h]
 unfold aJ at h
 obtain rfl:=h
 exact Tri.of (x:=X26) aE facts26 [.rows (List.map aA [(1,1,0,0),(3,1,0,5),(4,1,0,1),(5,1,0,0),(6,1,0,2)])] [⟨(cH aA (l:=[(1,1,0,0),(3,1,0,5),(4,1,0,1),(5,1,0,0),(6,1,0,2)]) (n:=5) rfl)⟩,⟨(eR aA (Nat.le_refl 5):0+5≤(List.map aA [(1,1,0,0),(3,1,0,5),(4,1,0,1),(5,1,0,0),(6,1,0,2)]).length)⟩] (by kernel_rfl)
end Go.Ws

namespace Go.Ws
open Go.Proofs
set_option linter.unusedSimpArgs false
set_option linter.unusedVariables false
set_option maxRecDepth 1000000
set_option maxHeartbeats 4000000
noncomputable def X20:Ctx:=⟨Try.f20,[],false⟩
theorem aCP:Tri Try.prog 20 [] [] (.hp 0 0) [(.row [.nils,.nils,(.mp 1),.nils]),(.map (b8 .i64 (fun y=>AV.agg (aD y)) ([]:Ty2)) ([]:Ty2).length)]:=by
 obtain⟨r,h⟩:∃r,aEI=r:=⟨_,rfl⟩
 try rw[h]
 unfold aEI at h
 obtain rfl:=h
 exact Tri.of (x:=X20) aE facts20 [.norm 0 ⟨[(0,[])],[⟨.tmp 0,[],none⟩,⟨.cell 0 2,[],none⟩],false,[],[]⟩] [] (by kernel_rfl)
end Go.Ws

namespace Go.Ws
open Go.Proofs
set_option linter.unusedSimpArgs false
set_option linter.unusedVariables false
set_option maxRecDepth 1000000
set_option maxHeartbeats 4000000
noncomputable def X67_1001:Ctx:=⟨Try.f67,[],false⟩
theorem xK (k:Nat) (x1:Ty8) (r:Unit) (h:iT k x1=some r):Tri Try.prog 67 [(.inl 3 (List.map aC x1))] [] (.ref 3 0 0 0 x1.length .virt) [(.arr 3 (List.map aC x1) 0 0 false)]:=by
 unfold iT at h
 by_cases c0:dF (x1.length*24)=true
 · rw[if_pos c0] at h
   obtain rfl:=osi h
   exact Tri.of (x:=X67_1001) aE aMI [df,.n x1.length,.norm 0 ⟨[(2,[])],[⟨.tmp 2,[],some 3⟩],false,[],[]⟩,.n x1.length,.rows (List.map aC x1)] [⟨(eT aC (l:=x1) (n:=x1.length) rfl)⟩,⟨(rfl:x1.length=x1.length)⟩,⟨(zle x1.length)⟩,⟨c0⟩,⟨(aY aC x1)⟩,⟨rF⟩] (by kernel_rfl)
 rw[if_neg c0] at h;replace c0:=eqf c0
 cases h
end Go.Ws

namespace Go.Ws
open Go.Proofs
set_option linter.unusedSimpArgs false
set_option linter.unusedVariables false
set_option maxRecDepth 1000000
set_option maxHeartbeats 4000000
noncomputable def X67_1002:Ctx:=⟨Try.f67,[],false⟩
theorem wJ:Tri Try.prog 67 [.nils] [] (.ref 3 0 0 0 0 .virt) [(.arr 3 (List.map aC []) 0 0 false)]:=by
 obtain⟨r,h⟩:∃r,pR=r:=⟨_,rfl⟩
 try rw[h]
 unfold pR at h
 obtain rfl:=h
 exact Tri.of (x:=X67_1002) aE aMI [dt,.norm 0 ⟨[(2,[])],[⟨.tmp 2,[],some 3⟩],false,[],[]⟩,.n 0,.rows (List.map aC [])] [⟨(eT aC (l:=[]) (n:=0) rfl)⟩,⟨(rfl:0=0)⟩,⟨(zle 0)⟩,⟨rT⟩] (by kernel_rfl)
end Go.Ws

namespace Go.Ws
open Go.Proofs
set_option linter.unusedSimpArgs false
set_option linter.unusedVariables false
set_option maxRecDepth 1000000
set_option maxHeartbeats 4000000
theorem wA (k:Nat) (x1:Ty8) (r:Unit) (h:nB k x1=some r):Tri Try.prog 67 [(.sl 3 (List.map aC x1))] [] (.ref 3 0 0 0 x1.length .virt) [(.arr 3 (List.map aC x1) 0 0 false)]:=by
 refine Tri.slOf (xK k x1 r h) fun h0=>?_
 have hx:x1=[]:=by simpa using h0
 subst hx
 exact wJ
end Go.Ws

namespace Go.Ws
open Go.Proofs
set_option linter.unusedSimpArgs false
set_option linter.unusedVariables false
set_option maxRecDepth 1000000
set_option maxHeartbeats 4000000
noncomputable def X69:Ctx:=⟨Try.f69,[],true⟩
theorem aCV (x1:Int) (x2:Int):Tri Try.prog 69 [(.int .i64 x1),(.int .u8 x2)] [] (.bool (gY x1 x2)) []:=by
 obtain⟨r,h⟩:∃r,gY x1 x2=r:=⟨_,rfl⟩
 try rw[h]
 unfold gY at h
 by_cases c0:ltI x2 64=true
 · rw[if_pos c0] at h
   by_cases c1:ltI x1 0=true
   · rw[if_pos c1] at h
     obtain rfl:=h
     exact Tri.of (x:=X69) aE aIH [dt,dt,dt,df,df,df] [⟨(nF c1)⟩,⟨(nF c1)⟩,⟨(nF c1)⟩,⟨c0⟩,⟨c0⟩,⟨c0⟩] (by kernel_rfl)
   rw[if_neg c1] at h;replace c1:=eqf c1
   obtain rfl:=h
   exact Tri.of (x:=X69) aE aIH [dt,dt,dt,dt,dt,dt] [⟨(nT c1)⟩,⟨(nT c1)⟩,⟨(nT c1)⟩,⟨c0⟩,⟨c0⟩,⟨c0⟩] (by kernel_rfl)
 rw[if_neg c0] at h;replace c0:=eqf c0
 obtain rfl:=h
 exact Tri.of (x:=X69) aE aIH [df,df,df,df,df,df] [⟨rF⟩,⟨rF⟩,⟨rF⟩,⟨c0⟩,⟨c0⟩,⟨c0⟩] (by kernel_rfl)
end Go.Ws

namespace Go.Ws
open Go.Proofs
set_option linter.unusedSimpArgs false
set_option linter.unusedVariables false
set_option maxRecDepth 1000000
set_option maxHeartbeats 4000000
noncomputable def X65:Ctx:=⟨Try.f65,[],true⟩
theorem aA3 (x1:Int):Tri Try.prog 65 [(.int .u8 x1)] [] (.bool (g4 x1)) []:=by
 obtain⟨r,h⟩:∃r,g4 x1=r:=⟨_,rfl⟩
 try rw[h]
 unfold g4 at h
 obtain rfl:=h
 exact Tri.of (x:=X65) aE facts65 [] [] (by kernel_rfl)
end Go.Ws

namespace Go.Ws
open Go.Proofs
set_option linter.unusedSimpArgs false
set_option linter.unusedVariables false
set_option maxRecDepth 1000000
set_option maxHeartbeats 4000000
noncomputable def X53:Ctx:=⟨Try.f53,[],true⟩
theorem xM (x1:Int) (x2:Int):Tri Try.prog 53 [(.int .u8 x1),(.int .u8 x2)] [] (.int .i64 (bA x1 x2)) []:=by
 obtain⟨r,h⟩:∃r,bA x1 x2=r:=⟨_,rfl⟩
 try rw[h]
 unfold bA at h
 let u1:List Ans:=[.call ⟨true,[]⟩ (.bool (g4 x1)) [],.call ⟨true,[]⟩ (.bool (g4 x2)) []]
 let w2:List Prf:=[⟨(aA3 x2)⟩,⟨(aA3 x1)⟩]
 by_cases c0:(g4 x1)=true
 · rw[if_pos c0] at h
   by_cases c1:(g4 x2)=true
   · rw[if_pos c1] at h
     obtain rfl:=h
     exact Tri.of (x:=X53) aE yJ (u1++[dt,dt]) ([⟨c1⟩,⟨c0⟩]++w2) (by kernel_rfl)
   rw[if_neg c1] at h;replace c1:=eqf c1
   obtain rfl:=h
   exact Tri.of (x:=X53) aE yJ (u1++[dt,df]) ([⟨c1⟩,⟨c0⟩]++w2) (by kernel_rfl)
 rw[if_neg c0] at h;replace c0:=eqf c0
 by_cases c1:(g4 x2)=true
 · rw[if_pos c1] at h
   obtain rfl:=h
   exact Tri.of (x:=X53) aE yJ (u1++[df,dt]) ([⟨c1⟩,⟨c0⟩]++w2) (by kernel_rfl)
 rw[if_neg c1] at h;replace c1:=eqf c1
 by_cases c2:ltI x1 x2=true
 · rw[if_pos c2] at h
   obtain rfl:=h
   exact Tri.of (x:=X53) aE yJ (u1++[df,df,dt]) ([⟨c2⟩,⟨c1⟩,⟨c0⟩]++w2) (by kernel_rfl)
 rw[if_neg c2] at h;replace c2:=eqf c2
 by_cases c3:ltI x2 x1=true
 · rw[if_pos c3] at h
   obtain rfl:=h
   exact Tri.of (x:=X53) aE yJ (u1++[df,df,df,dt]) ([⟨c3⟩,⟨c2⟩,⟨c1⟩,⟨c0⟩]++w2) (by kernel_rfl)
 rw[if_neg c3] at h;replace c3:=eqf c3
 obtain rfl:=h
 exact Tri.of (x:=X53) aE yJ (u1++[df,df,df,df]) ([⟨c3⟩,⟨c2⟩,⟨c1⟩,⟨c0⟩]++w2) (by kernel_rfl)
end Go.Ws

namespace Go.Ws
open Go.Proofs
set_option linter.unusedSimpArgs false
set_option linter.unusedVariables false
set_option maxRecDepth 1000000
set_option maxHeartbeats 4000000
noncomputable def X100:Ctx:=⟨Try.f100,[],true⟩
theorem uC (x1:Int):Tri Try.prog 100 [(.int .i64 x1)] [] (.bool (eE x1)) []:=by
 obtain⟨r,h⟩:∃r,eE x1=r:=⟨_,rfl⟩
 try rw[h]
 unfold eE at h
 obtain rfl:=h
 exact Tri.of (x:=X100) aE facts100 [] [] (by kernel_rfl)
end Go.Ws

namespace Go.Ws
open Go.Proofs
set_option linter.unusedSimpArgs false
set_option linter.unusedVariables false
set_option maxRecDepth 1000000
set_option maxHeartbeats 4000000
noncomputable def X88:Ctx:=⟨Try.f88,[],true⟩
theorem aAG (x1:Int) (x2:Int):Tri Try.prog 88 [(.int .i64 x1),(.int .i64 x2)] [] (.int .i64 (dI x1 x2)) []:=by
 obtain⟨r,h⟩:∃r,dI x1 x2=r:=⟨_,rfl⟩
 try rw[h]
 unfold dI at h
 let u1:List Ans:=[.call ⟨true,[]⟩ (.bool (eE x1)) [],.call ⟨true,[]⟩ (.bool (eE x2)) []]
 let w2:List Prf:=[⟨(uC x2)⟩,⟨(uC x1)⟩]
 by_cases c0:(eE x1)=true
 · rw[if_pos c0] at h
   by_cases c1:(eE x2)=true
   · rw[if_pos c1] at h
     obtain rfl:=h
     exact Tri.of (x:=X88) aE yN (u1++[dt,dt]) ([⟨c1⟩,⟨c0⟩]++w2) (by kernel_rfl)
   rw[if_neg c1] at h;replace c1:=eqf c1
   obtain rfl:=h
   exact Tri.of (x:=X88) aE yN (u1++[dt,df]) ([⟨c1⟩,⟨c0⟩]++w2) (by kernel_rfl)
 rw[if_neg c0] at h;replace c0:=eqf c0
 by_cases c1:(eE x2)=true
 · rw[if_pos c1] at h
   obtain rfl:=h
   exact Tri.of (x:=X88) aE yN (u1++[df,dt]) ([⟨c1⟩,⟨c0⟩]++w2) (by kernel_rfl)
 rw[if_neg c1] at h;replace c1:=eqf c1
 by_cases c2:ltI x1 x2=true
 · rw[if_pos c2] at h
   obtain rfl:=h
   exact Tri.of (x:=X88) aE yN (u1++[df,df,dt]) ([⟨c2⟩,⟨c1⟩,⟨c0⟩]++w2) (by kernel_rfl)
 rw[if_neg c2] at h;replace c2:=eqf c2
 by_cases c3:ltI x2 x1=true
 · rw[if_pos c3] at h
   obtain rfl:=h
   exact Tri.of (x:=X88) aE yN (u1++[df,df,df,dt]) ([⟨c3⟩,⟨c2⟩,⟨c1⟩,⟨c0⟩]++w2) (by kernel_rfl)
 rw[if_neg c3] at h;replace c3:=eqf c3
 obtain rfl:=h
 exact Tri.of (x:=X88) aE yN (u1++[df,df,df,df]) ([⟨c3⟩,⟨c2⟩,⟨c1⟩,⟨c0⟩]++w2) (by kernel_rfl)
end Go.Ws

namespace Go.Ws
open Go.Proofs
set_option linter.unusedSimpArgs false
set_option linter.unusedVariables false
set_option maxRecDepth 1000000
set_option maxHeartbeats 4000000
noncomputable def X87:Ctx:=⟨Try.f87,[],true⟩
noncomputable def L87_0:Code:=at_ Try.f87 [1,1,0,1,4,5]
def S87_0 (x1:List Int) (cZ:Int):St:=⟨mkT 18 [(3,(.int .i64 0)),(6,(.sl 1 (List.map bE x1))),(7,(.int .i64 (nI x1.length))),(8,(.int .i64 cZ))],[]⟩
def aHZ:St:=⟨mkT 18 [(3,(.int .i64 0))],[]⟩
def O87_0 (x1:List Int) (y:(Sum (Unit) (Int))):GX:=match y with
 | .inl y=>.st (.exit 0) (aHZ)
 | .inr y=>.fin (.int .i64 y) []
theorem vW (x1:List Int) (y:(Sum (Unit) (Int))):∀(k:Nat) (cZ:Int),jX k x1 cZ=some y→LT Try.prog X87 L87_0 (S87_0 x1 cZ) (O87_0 x1 y)
 | 0,cZ,h=>by cases h
 | k+1,cZ,h=>by
  rw[jX] at h
  by_cases cL0:ltI cZ (nI x1.length)=true
  · rw[if_pos cL0] at h
    by_cases cL1:inI cZ x1.length=true
    · rw[if_pos cL1] at h
      obtain⟨pS,eL2,h⟩:=bsm h
      let u1:List Ans:=[dt,.n x1.length,.row [(.int .i64 pS)]]
      let w2:List Prf:=[⟨(cS (e:=bE) eL2 1 0 1 (by decide))⟩,⟨cL1⟩,⟨(aY bE x1)⟩,⟨cL0⟩]
      by_cases cL3:eqI pS 0=true
      · rw[if_pos cL3] at h
        exact LT.next aE (hs:=⟨[(3,[]),(6,[]),(7,[]),(8,[])],[],false,[],[]⟩) (es:=none) (u1++[df]) ([⟨(nF cL3)⟩]++w2) (by kernel_rfl) (vW x1 y k (aH .i64 cZ 1) h)
      rw[if_neg cL3] at h;replace cL3:=eqf cL3
      obtain rfl:=osi h
      show LT _ _ _ _ (.fin (.int .i64 pS) [])
      exact LT.done aE (hs:=⟨[],[],false,[],[]⟩) (es:=none) (u1++[dt]) ([⟨(nT cL3)⟩]++w2) (by kernel_rfl) (fun s h=>by cases h)
    rw[if_neg cL1] at h;replace cL1:=eqf cL1
    cases h
  rw[if_neg cL0] at h;replace cL0:=eqf cL0
  obtain rfl:=osi h
  show LT _ _ _ _ (.st (.exit 0) (aHZ))
  exact LT.done aE (hs:=⟨[],[],false,[],[]⟩) (es:=(some ⟨[(3,[])],[],false,[],[]⟩)) [df] [⟨cL0⟩] (by kernel_rfl) (fun s h=>by cases h)
theorem aOL (k:Nat) (x1:List Int) (r:Int) (h:aB1 k x1=some r):Tri Try.prog 87 [(.sl 1 (List.map bE x1))] [] (.int .i64 r) []:=by
 unfold aB1 at h
 let u3:List Ans:=[.n x1.length,.norm 2 ⟨[(3,[]),(6,[]),(7,[]),(8,[])],[],false,[],[]⟩]
 obtain⟨x2,e0,h⟩:=bsm h
 cases x2 with
 | inl x3 =>
  simp only[Sum.elim_inl] at h
  obtain rfl:=osi h
  exact Tri.of (x:=X87) aE aNH (u3++[.out (.st .normal (aHZ))]) [⟨(LT.block (vW x1 _ k 0 e0))⟩,⟨(aY bE x1)⟩] (by kernel_rfl)
 | inr x3 =>
  simp only[Sum.elim_inr] at h
  obtain rfl:=osi h
  exact Tri.of (x:=X87) aE aNH (u3++[.out (.fin (.int .i64 x3) [])]) [⟨(LT.blockFin (id:=0) (vW x1 _ k 0 e0))⟩,⟨(aY bE x1)⟩] (by kernel_rfl)
end Go.Ws

namespace Go.Ws
open Go.Proofs
set_option linter.unusedSimpArgs false
set_option linter.unusedVariables false
set_option maxRecDepth 1000000
set_option maxHeartbeats 4000000
noncomputable def X71:Ctx:=⟨Try.f71,[],true⟩
theorem tS (k:Nat) (x1:Int) (x2:Int) (x3:Bool) (x4:Int) (x5:Int) (x6:Bool) (r:Int) (h:mS k x1 x2 x3 x4 x5 x6=some r):Tri Try.prog 71 [(.agg [(.int .u8 x1),(.int .i64 x2),(.bool x3)]),(.agg [(.int .u8 x4),(.int .i64 x5),(.bool x6)])] [] (.int .i64 r) []:=by
 unfold mS at h
 obtain⟨x7,e0,h⟩:=bsm h
 obtain rfl:=osi h
 exact Tri.of (x:=X71) aE facts71 [.call ⟨true,[]⟩ (.int .i64 (bA x1 x4)) [],.call ⟨true,[]⟩ (.int .i64 (dI x2 x5)) [],.call ⟨true,[]⟩ (.int .i64 x7) [],.rows (List.map bE [(bA x1 x4),(dI x2 x5)])] [⟨(aOL k [(bA x1 x4),(dI x2 x5)] _ e0)⟩,⟨(cH bE (l:=[(bA x1 x4),(dI x2 x5)]) (n:=2) rfl)⟩,⟨(eR bE (Nat.le_refl 2):0+2≤(List.map bE [(bA x1 x4),(dI x2 x5)]).length)⟩,⟨(aAG x2 x5)⟩,⟨(xM x1 x4)⟩] (by kernel_rfl)
end Go.Ws

namespace Go.Ws
open Go.Proofs
set_option linter.unusedSimpArgs false
set_option linter.unusedVariables false
set_option maxRecDepth 1000000
set_option maxHeartbeats 4000000
noncomputable def X68:Ctx:=⟨Try.f68,[],true⟩
noncomputable def L68_0:Code:=at_ Try.f68 [1,0,1,4,5]
def S68_0 (x1:Ty8) (bD:Int):St:=⟨mkT 46 [(0,(.sl 3 (List.map aC x1))),(6,(.sl 3 (List.map aC x1))),(7,(.int .i64 (nI x1.length))),(8,(.int .i64 bD))],[]⟩
def aHO:St:=⟨mkT 46 [],[]⟩
def O68_0 (x1:Ty8) (y:aC9):GX:=match y with
 | .inl y=>.st (.exit 0) (aHO)
 | .inr y=>.fin (.bool y) []
theorem k7 (x1:Ty8) (y:aC9):∀(k:Nat) (bD:Int),eD k x1 bD=some y→LT Try.prog X68 L68_0 (S68_0 x1 bD) (O68_0 x1 y)
 | 0,bD,h=>by cases h
 | k+1,bD,h=>by
  rw[eD] at h
  by_cases cL0:ltI bD (nI x1.length)=true
  · rw[if_pos cL0] at h
    by_cases cL1:inI bD x1.length=true
    · rw[if_pos cL1] at h
      obtain⟨dK,eL2,h⟩:=bsm h
      let u1:List Ans:=[dt,.n x1.length,.row [(.int .u8 dK.1),(.int .i64 dK.2.1),(.bool dK.2.2)],.call ⟨true,[]⟩ (.bool (gY dK.2.1 dK.1)) []]
      let w2:List Prf:=[⟨(aCV dK.2.1 dK.1)⟩,⟨(cS (e:=aC) eL2 3 0 3 (by decide))⟩,⟨cL1⟩,⟨(aY aC x1)⟩,⟨cL0⟩]
      by_cases cL3:(gY dK.2.1 dK.1)=true
      · rw[if_pos cL3] at h
        by_cases cL4:eqI bD 0=true
        · rw[if_pos cL4] at h
          exact LT.next aE (hs:=⟨[(0,[]),(6,[]),(7,[]),(8,[])],[],false,[],[]⟩) (es:=none) (u1++[df,dt]) ([⟨cL4⟩,⟨(nF cL3)⟩]++w2) (by kernel_rfl) (k7 x1 y k (aH .i64 bD 1) h)
        rw[if_neg cL4] at h;replace cL4:=eqf cL4
        by_cases cL5:inI (qT .i64 bD 1) x1.length=true
        · rw[if_pos cL5] at h
          obtain⟨gK,eL6,h⟩:=bsm h
          obtain⟨u6,eL7,h⟩:=bsm h
          let u5:List Ans:=u1++[df,df,.n x1.length,.row [(.int .u8 gK.1),(.int .i64 gK.2.1),(.bool gK.2.2)],.call ⟨true,[]⟩ (.int .i64 u6) []]
          let w6:List Prf:=[⟨(tS k gK.1 gK.2.1 gK.2.2 dK.1 dK.2.1 dK.2.2 _ eL7)⟩,⟨(cS (e:=aC) eL6 3 0 3 (by decide))⟩,⟨cL5⟩,⟨(aY aC x1)⟩,⟨cL4⟩,⟨(nF cL3)⟩]++w2
          by_cases cL8:ltI u6 0=true
          · rw[if_pos cL8] at h
            let w8:List Prf:=[⟨(nF cL8)⟩,⟨(nF cL8)⟩,⟨(nF cL8)⟩,⟨(nF cL8)⟩,⟨(nF cL8)⟩,⟨(nF cL8)⟩]++w6
            by_cases cL9:eqI gK.1 dK.1=true
            · rw[if_pos cL9] at h
              let u9:List Ans:=u5++[df,df,df,df,df,df,dt,dt,dt]
              by_cases cL10:gK.2.2=true
              · rw[if_pos cL10] at h
                obtain rfl:=osi h
                show LT _ _ _ _ (.fin (.bool false) [])
                exact LT.done aE (hs:=⟨[],[],false,[],[]⟩) (es:=none) (u9++[dt,dt,dt,dt,df,dt,df,dt]) ([⟨rT⟩,⟨(nF cL8)⟩,⟨cL9⟩,⟨(nF cL8)⟩,⟨cL10⟩,⟨cL9⟩,⟨cL10⟩,⟨cL10⟩,⟨cL9⟩,⟨cL9⟩,⟨cL9⟩]++w8) (by kernel_rfl) (fun s h=>by cases h)
              rw[if_neg cL10] at h;replace cL10:=eqf cL10
              let w12:List Prf:=[⟨(nF cL8)⟩,⟨cL9⟩,⟨(nF cL8)⟩,⟨cL10⟩,⟨cL9⟩,⟨cL10⟩,⟨cL10⟩,⟨cL9⟩,⟨cL9⟩,⟨cL9⟩]++w8
              by_cases cL11:dK.2.2=true
              · rw[if_pos cL11] at h
                obtain rfl:=osi h
                show LT _ _ _ _ (.fin (.bool false) [])
                exact LT.done aE (hs:=⟨[],[],false,[],[]⟩) (es:=none) (u9++[df,df,dt,df,df,dt,df,dt]) ([⟨cL11⟩]++w12) (by kernel_rfl) (fun s h=>by cases h)
              rw[if_neg cL11] at h;replace cL11:=eqf cL11
              exact LT.next aE (hs:=⟨[(0,[]),(6,[]),(7,[]),(8,[])],[],false,[],[]⟩) (es:=none) (u9++[df,df,dt,df,df,dt,df,df]) ([⟨cL11⟩]++w12) (by kernel_rfl) (k7 x1 y k (aH .i64 bD 1) h)
            rw[if_neg cL9] at h;replace cL9:=eqf cL9
            exact LT.next aE (hs:=⟨[(0,[]),(6,[]),(7,[]),(8,[])],[],false,[],[]⟩) (es:=none) (u5++[df,df,df,df,df,df,df,df,df,df,df,df,df,df]) ([⟨rF⟩,⟨(nF cL8)⟩,⟨cL9⟩,⟨(nF cL8)⟩,⟨cL9⟩,⟨cL9⟩,⟨cL9⟩,⟨cL9⟩]++w8) (by kernel_rfl) (k7 x1 y k (aH .i64 bD 1) h)
          rw[if_neg cL8] at h;replace cL8:=eqf cL8
          obtain rfl:=osi h
          show LT _ _ _ _ (.fin (.bool false) [])
          exact LT.done aE (hs:=⟨[],[],false,[],[]⟩) (es:=none) (u5++[dt,dt,dt,dt,dt,dt,dt,dt,dt]) ([⟨rT⟩,⟨(nT cL8)⟩,⟨(nT cL8)⟩,⟨(nT cL8)⟩,⟨(nT cL8)⟩,⟨(nT cL8)⟩,⟨(nT cL8)⟩,⟨(nT cL8)⟩,⟨(nT cL8)⟩]++w6) (by kernel_rfl) (fun s h=>by cases h)
        rw[if_neg cL5] at h;replace cL5:=eqf cL5
        cases h
      rw[if_neg cL3] at h;replace cL3:=eqf cL3
      obtain rfl:=osi h
      show LT _ _ _ _ (.fin (.bool false) [])
      exact LT.done aE (hs:=⟨[],[],false,[],[]⟩) (es:=none) (u1++[dt]) ([⟨(nT cL3)⟩]++w2) (by kernel_rfl) (fun s h=>by cases h)
    rw[if_neg cL1] at h;replace cL1:=eqf cL1
    cases h
  rw[if_neg cL0] at h;replace cL0:=eqf cL0
  obtain rfl:=osi h
  show LT _ _ _ _ (.st (.exit 0) (aHO))
  exact LT.done aE (hs:=⟨[],[],false,[],[]⟩) (es:=(some ⟨[],[],false,[],[]⟩)) [df] [⟨cL0⟩] (by kernel_rfl) (fun s h=>by cases h)
theorem aFK (k:Nat) (x1:Ty8) (r:Bool) (h:pY k x1=some r):Tri Try.prog 68 [(.sl 3 (List.map aC x1))] [] (.bool r) []:=by
 unfold pY at h
 let u13:List Ans:=[.n x1.length,.norm 2 ⟨[(0,[]),(6,[]),(7,[]),(8,[])],[],false,[],[]⟩]
 obtain⟨x2,e0,h⟩:=bsm h
 cases x2 with
 | inl x3 =>
  simp only[Sum.elim_inl] at h
  obtain rfl:=osi h
  exact Tri.of (x:=X68) aE aNA (u13++[.out (.st .normal (aHO))]) [⟨(LT.block (k7 x1 _ k 0 e0))⟩,⟨(aY aC x1)⟩] (by kernel_rfl)
 | inr x3 =>
  simp only[Sum.elim_inr] at h
  obtain rfl:=osi h
  exact Tri.of (x:=X68) aE aNA (u13++[.out (.fin (.bool x3) [])]) [⟨(LT.blockFin (id:=0) (k7 x1 _ k 0 e0))⟩,⟨(aY aC x1)⟩] (by kernel_rfl)
end Go.Ws

namespace Go.Ws
open Go.Proofs
set_option linter.unusedSimpArgs false
set_option linter.unusedVariables false
set_option maxRecDepth 1000000
set_option maxHeartbeats 4000000
noncomputable def X70:Ctx:=⟨Try.f70,[],true⟩
noncomputable def L70_0:Code:=at_ Try.f70 [1,1,1,0,4,5]
def S70_0 (x1:Ty8) (x2:Int) (x3:Int) (x4:Bool) (bV:Int) (cD:Int):St:=⟨mkT 49 [(0,(.sl 3 (List.map aC x1))),(2,(.fn 71 [])),(4,(.hp 0 0)),(8,(.int .i64 (nI x1.length))),(9,(.int .i64 bV)),(10,(.int .i64 cD))],[(.row [(.int .u8 x2),(.int .i64 x3),(.bool x4)])]⟩
def aG1 (x1:Ty8) (x2:Int) (x3:Int) (x4:Bool) (v70002_1:Int):St:=⟨mkT 49 [(0,(.sl 3 (List.map aC x1))),(2,(.fn 71 [])),(4,(.hp 0 0)),(8,(.int .i64 (nI x1.length))),(9,(.int .i64 v70002_1))],[(.row [(.int .u8 x2),(.int .i64 x3),(.bool x4)])]⟩
def O70_0 (x1:Ty8) (x2:Int) (x3:Int) (x4:Bool) (y:(Int)):GX:=.st (.exit 0) (aG1 x1 x2 x3 x4 y)
theorem iJ (x1:Ty8) (x2:Int) (x3:Int) (x4:Bool) (y:(Int)):∀(k:Nat) (bV:Int) (cD:Int),aU k x1 x2 x3 x4 bV cD=some y→LT Try.prog X70 L70_0 (S70_0 x1 x2 x3 x4 bV cD) (O70_0 x1 x2 x3 x4 y)
 | 0,bV,cD,h=>by cases h
 | k+1,bV,cD,h=>by
  rw[aU] at h
  by_cases cL0:ltI bV cD=true
  · rw[if_pos cL0] at h
    by_cases cL1:inI (conv .i64 (rA .u64 (conv .u64 (aH .i64 bV cD)) 1)) x1.length=true
    · rw[if_pos cL1] at h
      obtain⟨kF,eL2,h⟩:=bsm h
      obtain⟨vA,eL3,h⟩:=bsm h
      let u1:List Ans:=[dt,.n x1.length,.row [(.int .u8 kF.1),(.int .i64 kF.2.1),(.bool kF.2.2)],.call ⟨true,[]⟩ (.int .i64 vA) []]
      let w2:List Prf:=[⟨(tS k kF.1 kF.2.1 kF.2.2 x2 x3 x4 _ eL3)⟩,⟨(cS (e:=aC) eL2 3 0 3 (by decide))⟩,⟨cL1⟩,⟨(aY aC x1)⟩,⟨cL0⟩]
      by_cases cL4:ltI vA 0=true
      · rw[if_pos cL4] at h
        exact LT.next aE (hs:=⟨[(0,[]),(2,[]),(4,[]),(8,[]),(9,[]),(10,[])],[⟨.tmp 4,[],none⟩],false,[],[]⟩) (es:=none) (u1++[dt]) ([⟨cL4⟩]++w2) (by kernel_rfl) (iJ x1 x2 x3 x4 y k (aH .i64 (conv .i64 (rA .u64 (conv .u64 (aH .i64 bV cD)) 1)) 1) cD h)
      rw[if_neg cL4] at h;replace cL4:=eqf cL4
      exact LT.next aE (hs:=⟨[(0,[]),(2,[]),(4,[]),(8,[]),(9,[]),(10,[])],[⟨.tmp 4,[],none⟩],false,[],[]⟩) (es:=none) (u1++[df]) ([⟨cL4⟩]++w2) (by kernel_rfl) (iJ x1 x2 x3 x4 y k bV (conv .i64 (rA .u64 (conv .u64 (aH .i64 bV cD)) 1)) h)
    rw[if_neg cL1] at h;replace cL1:=eqf cL1
    cases h
  rw[if_neg cL0] at h;replace cL0:=eqf cL0
  obtain rfl:=osi h
  show LT _ _ _ _ (.st (.exit 0) (aG1 x1 x2 x3 x4 bV))
  exact LT.done aE (hs:=⟨[],[],false,[],[]⟩) (es:=(some ⟨[(0,[]),(2,[]),(4,[]),(8,[]),(9,[])],[⟨.tmp 4,[],none⟩],false,[],[]⟩)) [df] [⟨cL0⟩] (by kernel_rfl) (fun s h=>by cases h)
theorem sS (k:Nat) (x1:Ty8) (x2:Int) (x3:Int) (x4:Bool) (r:Int × Bool) (h:fD k x1 x2 x3 x4=some r):Tri Try.prog 70 [(.sl 3 (List.map aC x1)),(.agg [(.int .u8 x2),(.int .i64 x3),(.bool x4)]),(.fn 71 [])] [] (.tup [(.int .i64 r.1),(.bool r.2)]) []:=by
 unfold fD at h
 obtain⟨x6,e0,h⟩:=bsm h
 let u3:List Ans:=[.n x1.length,.norm 2 ⟨[(0,[]),(2,[]),(4,[]),(8,[]),(9,[]),(10,[])],[⟨.tmp 4,[],none⟩],false,[],[]⟩,.out (.st .normal (aG1 x1 x2 x3 x4 x6))]
 let w4:List Prf:=[⟨(LT.block (iJ x1 x2 x3 x4 _ k 0 (nI x1.length) e0))⟩,⟨(aY aC x1)⟩]
 by_cases c2:ltI x6 (nI x1.length)=true
 · rw[if_pos c2] at h
   by_cases c3:inI x6 x1.length=true
   · rw[if_pos c3] at h
     obtain⟨x7,e4,h⟩:=bsm h
     obtain⟨x8,e5,h⟩:=bsm h
     obtain rfl:=osi h
     exact Tri.of (x:=X70) aE aNI (u3++[dt,dt,dt,dt,.n x1.length,dt,.row [(.int .u8 x7.1),(.int .i64 x7.2.1),(.bool x7.2.2)],dt,dt,.call ⟨true,[]⟩ (.int .i64 x8) [],dt,dt]) ([⟨c2⟩,⟨c2⟩,⟨(tS k x7.1 x7.2.1 x7.2.2 x2 x3 x4 _ e5)⟩,⟨c2⟩,⟨c2⟩,⟨(cS (e:=aC) e4 3 0 3 (by decide))⟩,⟨c2⟩,⟨c3⟩,⟨(aY aC x1)⟩,⟨c2⟩,⟨c2⟩,⟨c2⟩,⟨c2⟩]++w4) (by kernel_rfl)
   rw[if_neg c3] at h;replace c3:=eqf c3
   cases h
 rw[if_neg c2] at h;replace c2:=eqf c2
 obtain rfl:=osi h
 exact Tri.of (x:=X70) aE aNI (u3++[df,df,df,df,df,df,df,df,df]) ([⟨c2⟩,⟨c2⟩,⟨c2⟩,⟨c2⟩,⟨c2⟩,⟨c2⟩,⟨c2⟩,⟨c2⟩,⟨c2⟩]++w4) (by kernel_rfl)
end Go.Ws

namespace Go.Ws
open Go.Proofs
set_option linter.unusedSimpArgs false
set_option linter.unusedVariables false
set_option maxRecDepth 1000000
set_option maxHeartbeats 4000000
theorem aBY (k:Nat) (x1:Int) (x2:Ty8) (x3:Ty8) (r:Ty8) (h:nX k x1 x2 x3=some r):Tri Try.prog 72 [(.ref 3 0 0 0 x2.length .virt),(.int .i64 x1),(.ref 3 1 0 0 x3.length .full)] [(.arr 3 (List.map aC x2) 0 0 false),(.arr 3 (List.map aC x3) 0 0 false)] (.ref 3 0 1 0 r.length .full) [(.arr 3 (List.map aC r) 1 1 false),(.arr 3 (List.map aC x3) 0 0 false)]:=ins_ok72 _ h rfl
end Go.Ws

namespace Go.Ws
open Go.Proofs
set_option linter.unusedSimpArgs false
set_option linter.unusedVariables false
set_option maxRecDepth 1000000
set_option maxHeartbeats 4000000
noncomputable def X56:Ctx:=⟨Try.f56,[],true⟩
noncomputable def L56_0:Code:=at_ Try.f56 [1,1,1,0,1,4,5]
def S56_0 (x1:Ty8) (x2:Int) (x3:Int) (x4:Bool) (cE:Int):St:=⟨mkT 82 [(0,(.ref 3 0 0 0 x1.length .virt)),(1,(.int .i64 x2)),(2,(.int .u8 x3)),(3,(.bool x4)),(27,(.ref 3 0 0 0 x1.length .virt)),(28,(.int .i64 (nI x1.length))),(29,(.int .i64 cE))],[(.arr 3 (List.map aC x1) 0 0 false)]⟩
def aIS (x1:Ty8) (x2:Int) (x3:Int) (x4:Bool):St:=⟨mkT 82 [(0,(.ref 3 0 0 0 x1.length .virt)),(1,(.int .i64 x2)),(2,(.int .u8 x3)),(3,(.bool x4))],[(.arr 3 (List.map aC x1) 0 0 false)]⟩
def O56_0 (x1:Ty8) (x2:Int) (x3:Int) (x4:Bool) (y:(Sum (Unit) (Ty8 × Int))):GX:=match y with
 | .inl y=>.st (.exit 0) (aIS x1 x2 x3 x4)
 | .inr y=>.fin (.tup [(.sl 3 (List.map aC y.1)),(.int .i64 y.2)]) []
def A56_0:Ans:=.norm 2 ⟨[(0,[]),(1,[]),(2,[]),(3,[]),(27,[]),(28,[]),(29,[])],[⟨.tmp 0,[],none⟩],false,[],[]⟩
theorem lY (x1:Ty8) (x2:Int) (x3:Int) (x4:Bool) (y:(Sum (Unit) (Ty8 × Int))):∀(k:Nat) (cE:Int),eU k x1 x2 x3 x4 cE=some y→LT Try.prog X56 L56_0 (S56_0 x1 x2 x3 x4 cE) (O56_0 x1 x2 x3 x4 y)
 | 0,cE,h=>by cases h
 | k+1,cE,h=>by
  rw[eU] at h
  by_cases cL0:ltI cE (nI x1.length)=true
  · rw[if_pos cL0] at h
    by_cases cL1:inI cE x1.length=true
    · rw[if_pos cL1] at h
      obtain⟨iO,eL2,h⟩:=bsm h
      let w2:List Prf:=[⟨(cS (e:=aC) eL2 3 0 3 (by decide))⟩,⟨cL1⟩,⟨cL0⟩]
      by_cases cL3:eqI iO.1 x3=true
      · rw[if_pos cL3] at h
        let u3:List Ans:=[dt,.row [(.int .u8 iO.1),(.int .i64 iO.2.1),(.bool iO.2.2)],dt,dt,dt,dt,dt]
        let w4:List Prf:=[⟨cL3⟩,⟨cL3⟩,⟨cL3⟩,⟨cL3⟩,⟨cL3⟩]++w2
        by_cases cL4:eqI iO.2.1 x2=true
        · rw[if_pos cL4] at h
          exact LT.next aE (hs:=⟨[(0,[]),(1,[]),(2,[]),(3,[]),(27,[]),(28,[]),(29,[])],[⟨.tmp 0,[],none⟩],false,[],[]⟩) (es:=none) (u3++[df,df,df,df,df]) ([⟨rF⟩,⟨(nF cL4)⟩,⟨(nF cL4)⟩,⟨(nF cL4)⟩,⟨(nF cL4)⟩]++w4) (by kernel_rfl) (lY x1 x2 x3 x4 y k (aH .i64 cE 1) h)
        rw[if_neg cL4] at h;replace cL4:=eqf cL4
        by_cases cL5:x4=true
        · rw[if_pos cL5] at h
          obtain rfl:=osi h
          show LT _ _ _ _ (.fin (.tup [(.sl 3 (List.map aC ((x1,9).1))),(.int .i64 ((x1,9).2))]) [])
          exact LT.done aE (hs:=⟨[],[],false,[],[]⟩) (es:=none) (u3++[dt,dt,dt,dt,dt,dt,dt,dt,.rows (List.map aC x1)]) ([⟨(cH aC (l:=x1) (n:=x1.length) rfl)⟩,⟨(eR aC (Nat.le_refl x1.length):0+x1.length≤(List.map aC x1).length)⟩,⟨rT⟩,⟨(nT cL4)⟩,⟨cL5⟩,⟨(nT cL4)⟩,⟨cL5⟩,⟨cL5⟩,⟨(nT cL4)⟩,⟨(nT cL4)⟩]++w4) (by kernel_rfl) (fun s h=>by cases h)
        rw[if_neg cL5] at h;replace cL5:=eqf cL5
        let w8:List Prf:=[⟨(nT cL4)⟩,⟨cL5⟩,⟨(nT cL4)⟩,⟨cL5⟩,⟨cL5⟩,⟨(nT cL4)⟩,⟨(nT cL4)⟩]++w4
        by_cases cL6:iO.2.2=true
        · rw[if_pos cL6] at h
          obtain rfl:=osi h
          show LT _ _ _ _ (.fin (.tup [(.sl 3 (List.map aC ((x1,9).1))),(.int .i64 ((x1,9).2))]) [])
          exact LT.done aE (hs:=⟨[],[],false,[],[]⟩) (es:=none) (u3++[dt,dt,df,df,dt,df,dt,dt,.rows (List.map aC x1)]) ([⟨(cH aC (l:=x1) (n:=x1.length) rfl)⟩,⟨(eR aC (Nat.le_refl x1.length):0+x1.length≤(List.map aC x1).length)⟩,⟨cL6⟩]++w8) (by kernel_rfl) (fun s h=>by cases h)
        rw[if_neg cL6] at h;replace cL6:=eqf cL6
        exact LT.next aE (hs:=⟨[(0,[]),(1,[]),(2,[]),(3,[]),(27,[]),(28,[]),(29,[])],[⟨.tmp 0,[],none⟩],false,[],[]⟩) (es:=none) (u3++[dt,dt,df,df,dt,df,dt,df]) ([⟨cL6⟩]++w8) (by kernel_rfl) (lY x1 x2 x3 x4 y k (aH .i64 cE 1) h)
      rw[if_neg cL3] at h;replace cL3:=eqf cL3
      exact LT.next aE (hs:=⟨[(0,[]),(1,[]),(2,[]),(3,[]),(27,[]),(28,[]),(29,[])],[⟨.tmp 0,[],none⟩],false,[],[]⟩) (es:=none) [dt,.row [(.int .u8 iO.1),(.int .i64 iO.2.1),(.bool iO.2.2)],df,df,df,df,df,df,df,df,df,df] ([⟨rF⟩,⟨rF⟩,⟨rF⟩,⟨rF⟩,⟨rF⟩,⟨cL3⟩,⟨cL3⟩,⟨cL3⟩,⟨cL3⟩,⟨cL3⟩]++w2) (by kernel_rfl) (lY x1 x2 x3 x4 y k (aH .i64 cE 1) h)
    rw[if_neg cL1] at h;replace cL1:=eqf cL1
    cases h
  rw[if_neg cL0] at h;replace cL0:=eqf cL0
  obtain rfl:=osi h
  show LT _ _ _ _ (.st (.exit 0) (aIS x1 x2 x3 x4))
  exact LT.done aE (hs:=⟨[],[],false,[],[]⟩) (es:=(some ⟨[(0,[]),(1,[]),(2,[]),(3,[])],[⟨.tmp 0,[],none⟩],false,[],[]⟩)) [df] [⟨cL0⟩] (by kernel_rfl) (fun s h=>by cases h)
theorem aGZ (k:Nat) (x1:Ty8) (x2:Int) (x3:Int) (x4:Bool) (r:Ty8 × Int) (h:rW k x1 x2 x3 x4=some r):Tri Try.prog 56 [(.sl 3 (List.map aC x1)),(.int .i64 x2),(.int .u8 x3),(.bool x4)] [] (.tup [(.sl 3 (List.map aC r.1)),(.int .i64 r.2)]) []:=by
 unfold rW at h
 obtain⟨x5,e0,h⟩:=bsm h
 obtain⟨x6,e1,h⟩:=bsm h
 let u9:List Ans:=[.call ⟨true,[]⟩ (.ref 3 0 0 0 x1.length .virt) [(.arr 3 (List.map aC x1) 0 0 false)],.call ⟨true,[]⟩ (.bool x6) [],.rows (List.map aC x1)]
 let w10:List Prf:=[⟨(aFK k x1 _ e1)⟩,⟨(cH aC (l:=x1) (n:=x1.length) rfl)⟩,⟨(eR aC (Nat.le_refl x1.length):0+x1.length≤(List.map aC x1).length)⟩,⟨(wA k x1 _ e0)⟩]
 by_cases c2:x6=true
 · rw[if_pos c2] at h
   let u11:List Ans:=u9++[df,df,df,.call ⟨true,[]⟩ (.bool (gY x2 x3)) [],df,df]
   let w12:List Prf:=[⟨(nF c2)⟩,⟨(nF c2)⟩,⟨(aCV x2 x3)⟩,⟨(nF c2)⟩,⟨(nF c2)⟩,⟨(nF c2)⟩]++w10
   by_cases c3:(gY x2 x3)=true
   · rw[if_pos c3] at h
     obtain⟨x7,e4,h⟩:=bsm h
     cases x7 with
     | inl x8 =>
      simp only[Sum.elim_inl] at h
      obtain⟨x9,e6,h⟩:=bsm h
      let u15:List Ans:=u11++[df,A56_0,.out (.st .normal (aIS x1 x2 x3 x4)),.call ⟨true,[]⟩ (.tup [(.int .i64 x9.1),(.bool x9.2)]) [],.rows (List.map aC x1)]
      let w16:List Prf:=[⟨(sS k x1 x3 x2 x4 _ e6)⟩,⟨(cH aC (l:=x1) (n:=x1.length) rfl)⟩,⟨(eR aC (Nat.le_refl x1.length):0+x1.length≤(List.map aC x1).length)⟩,⟨(LT.block (lY x1 x2 x3 x4 _ k 0 e4))⟩,⟨(nF c3)⟩]++w12
      by_cases c7:x9.2=true
      · rw[if_pos c7] at h
        by_cases c8:inI x9.1 x1.length=true
        · rw[if_pos c8] at h
          obtain⟨x10,e9,h⟩:=bsm h
          let w18:List Prf:=[⟨(cS (e:=aC) e9 3 2 1 (by decide))⟩,⟨c8⟩,⟨(nF c7)⟩]++w16
          by_cases c10:x10.2.2=true
          · rw[if_pos c10] at h
            obtain rfl:=osi h
            exact Tri.of (x:=X56) aE yI (u15++[df,.row [(.bool x10.2.2)],dt,dt,.rows (List.map aC (List.set x1 (tN x9.1) (x10.1,x10.2.1,true))),.rows (List.map aC (List.set x1 (tN x9.1) (x10.1,x10.2.1,true)))]) ([⟨(cH aC (l:=(List.set x1 (tN x9.1) (x10.1,x10.2.1,true))) (n:=x1.length) (by simp:x1.length=List.length (α:=Int × Int × Bool) (List.set x1 (tN x9.1) (x10.1,x10.2.1,true))))⟩,⟨(eR aC (Nat.le_of_eq (by simp:x1.length=List.length (α:=Int × Int × Bool) (List.set x1 (tN x9.1) (x10.1,x10.2.1,true)))))⟩,⟨(t7 (e:=aC) e9 2 [(.bool true)] (x10.1,x10.2.1,true) rfl)⟩,⟨c8⟩,⟨c10⟩,⟨c10⟩]++w18) (by kernel_rfl)
          rw[if_neg c10] at h;replace c10:=eqf c10
          obtain rfl:=osi h
          exact Tri.of (x:=X56) aE yI (u15++[df,.row [(.bool x10.2.2)],df,df,.rows (List.map aC (List.set x1 (tN x9.1) (x10.1,x10.2.1,x4))),.rows (List.map aC (List.set x1 (tN x9.1) (x10.1,x10.2.1,x4)))]) ([⟨(cH aC (l:=(List.set x1 (tN x9.1) (x10.1,x10.2.1,x4))) (n:=x1.length) (by simp:x1.length=List.length (α:=Int × Int × Bool) (List.set x1 (tN x9.1) (x10.1,x10.2.1,x4))))⟩,⟨(eR aC (Nat.le_of_eq (by simp:x1.length=List.length (α:=Int × Int × Bool) (List.set x1 (tN x9.1) (x10.1,x10.2.1,x4)))))⟩,⟨(t7 (e:=aC) e9 2 [(.bool x4)] (x10.1,x10.2.1,x4) rfl)⟩,⟨c8⟩,⟨c10⟩,⟨c10⟩]++w18) (by kernel_rfl)
        rw[if_neg c8] at h;replace c8:=eqf c8
        cases h
      rw[if_neg c7] at h;replace c7:=eqf c7
      obtain⟨x10,e8,h⟩:=bsm h
      obtain rfl:=osi h
      exact Tri.of (x:=X56) aE yI (u15++[dt,.call ⟨false,[]⟩ (.ref 3 0 1 0 x10.length .full) [(.arr 3 (List.map aC x10) 1 1 false),(.arr 3 (List.map aC [(x3,x2,x4)]) 0 0 false)],.rows (List.map aC x10)]) ([⟨(cH aC (l:=x10) (n:=x10.length) rfl)⟩,⟨(eR aC (Nat.le_refl x10.length):0+x10.length≤(List.map aC x10).length)⟩,⟨(aBY k x9.1 x1 [(x3,x2,x4)] _ e8)⟩,⟨(nT c7)⟩]++w16) (by kernel_rfl)
     | inr x8 =>
      simp only[Sum.elim_inr] at h
      obtain rfl:=osi h
      exact Tri.of (x:=X56) aE yI (u11++[df,A56_0,.out (.fin (.tup [(.sl 3 (List.map aC x8.1)),(.int .i64 x8.2)]) [])]) ([⟨(LT.blockFin (id:=0) (lY x1 x2 x3 x4 _ k 0 e4))⟩,⟨(nF c3)⟩]++w12) (by kernel_rfl)
   rw[if_neg c3] at h;replace c3:=eqf c3
   obtain rfl:=osi h
   exact Tri.of (x:=X56) aE yI (u11++[dt,.rows (List.map aC x1)]) ([⟨(cH aC (l:=x1) (n:=x1.length) rfl)⟩,⟨(eR aC (Nat.le_refl x1.length):0+x1.length≤(List.map aC x1).length)⟩,⟨(nT c3)⟩]++w12) (by kernel_rfl)
 rw[if_neg c2] at h;replace c2:=eqf c2
 obtain rfl:=osi h
 exact Tri.of (x:=X56) aE yI (u9++[dt,dt,dt,dt,dt,dt,.rows (List.map aC x1)]) ([⟨(cH aC (l:=x1) (n:=x1.length) rfl)⟩,⟨(eR aC (Nat.le_refl x1.length):0+x1.length≤(List.map aC x1).length)⟩,⟨rT⟩,⟨(nT c2)⟩,⟨(nT c2)⟩,⟨(nT c2)⟩,⟨(nT c2)⟩,⟨(nT c2)⟩]++w10) (by kernel_rfl)
end Go.Ws

namespace Go.Ws
open Go.Proofs
set_option linter.unusedSimpArgs false
set_option linter.unusedVariables false
set_option maxRecDepth 1000000
set_option maxHeartbeats 4000000
noncomputable def X36_1001:Ctx:=⟨Try.f36,[],false⟩
theorem uS (k:Nat) (x1:aG) (r:Unit) (h:gF k x1=some r):Tri Try.prog 36 [(.inl 2 (List.map aB x1))] [] (.ref 2 0 0 0 x1.length .virt) [(.arr 2 (List.map aB x1) 0 0 false)]:=by
 unfold gF at h
 by_cases c0:dF (x1.length*16)=true
 · rw[if_pos c0] at h
   obtain rfl:=osi h
   exact Tri.of (x:=X36_1001) aE aMV [df,.n x1.length,.norm 0 ⟨[(2,[])],[⟨.tmp 2,[],some 2⟩],false,[],[]⟩,.n x1.length,.rows (List.map aB x1)] [⟨(eT aB (l:=x1) (n:=x1.length) rfl)⟩,⟨(rfl:x1.length=x1.length)⟩,⟨(zle x1.length)⟩,⟨c0⟩,⟨(aY aB x1)⟩,⟨rF⟩] (by kernel_rfl)
 rw[if_neg c0] at h;replace c0:=eqf c0
 cases h
end Go.Ws

namespace Go.Ws
open Go.Proofs
set_option linter.unusedSimpArgs false
set_option linter.unusedVariables false
set_option maxRecDepth 1000000
set_option maxHeartbeats 4000000
noncomputable def X36_1002:Ctx:=⟨Try.f36,[],false⟩
theorem uT:Tri Try.prog 36 [.nils] [] (.ref 2 0 0 0 0 .virt) [(.arr 2 (List.map aB []) 0 0 false)]:=by
 obtain⟨r,h⟩:∃r,mY=r:=⟨_,rfl⟩
 try rw[h]
 unfold mY at h
 obtain rfl:=h
 exact Tri.of (x:=X36_1002) aE aMV [dt,.norm 0 ⟨[(2,[])],[⟨.tmp 2,[],some 2⟩],false,[],[]⟩,.n 0,.rows (List.map aB [])] [⟨(eT aB (l:=[]) (n:=0) rfl)⟩,⟨(rfl:0=0)⟩,⟨(zle 0)⟩,⟨rT⟩] (by kernel_rfl)
end Go.Ws

namespace Go.Ws
open Go.Proofs
set_option linter.unusedSimpArgs false
set_option linter.unusedVariables false
set_option maxRecDepth 1000000
set_option maxHeartbeats 4000000
theorem jO (k:Nat) (x1:aG) (r:Unit) (h:gB k x1=some r):Tri Try.prog 36 [(.sl 2 (List.map aB x1))] [] (.ref 2 0 0 0 x1.length .virt) [(.arr 2 (List.map aB x1) 0 0 false)]:=by
 refine Tri.slOf (uS k x1 r h) fun h0=>?_
 have hx:x1=[]:=by simpa using h0
 subst hx
 exact uT
end Go.Ws

namespace Go.Ws
open Go.Proofs
set_option linter.unusedSimpArgs false
set_option linter.unusedVariables false
set_option maxRecDepth 1000000
set_option maxHeartbeats 4000000
noncomputable def X73:Ctx:=⟨Try.f73,[],false⟩
theorem aCB (k:Nat) (x1:Int) (x2:aG) (x3:Bool) (x4:Int) (r:Unit) (h:mD k x1 x2 x3 x4=some r):Tri Try.prog 73 [(.agg [(.int .i64 x1),(.sl 2 (List.map aB x2)),(.bool x3),(.int .i64 x4)])] [] (.agg [(.int .i64 x1),(.ref 2 0 0 0 x2.length .virt),(.bool x3),(.int .i64 x4)]) [(.arr 2 (List.map aB x2) 0 0 false)]:=by
 unfold mD at h
 obtain⟨x5,e0,h⟩:=bsm h
 obtain rfl:=osi h
 exact Tri.of (x:=X73) aE aMW [.call ⟨true,[]⟩ (.ref 2 0 0 0 x2.length .virt) [(.arr 2 (List.map aB x2) 0 0 false)],.norm 0 ⟨[(2,[])],[⟨.tmp 2,[],none⟩,⟨.cell 0 1,[],none⟩],false,[],[]⟩] [⟨(jO k x2 _ e0)⟩] (by kernel_rfl)
end Go.Ws

namespace Go.Ws
open Go.Proofs
set_option linter.unusedSimpArgs false
set_option linter.unusedVariables false
set_option maxRecDepth 1000000
set_option maxHeartbeats 4000000
noncomputable def X75:Ctx:=⟨Try.f75,[],true⟩
theorem aBF (x1:Int) (x2:Int):Tri Try.prog 75 [(.agg [(.int .u8 x1),(.int .i64 x2)])] [] (.bool (g6 x1 x2)) []:=by
 obtain⟨r,h⟩:∃r,g6 x1 x2=r:=⟨_,rfl⟩
 try rw[h]
 unfold g6 at h
 obtain rfl:=h
 exact Tri.of (x:=X75) aE facts75 [] [] (by kernel_rfl)
end Go.Ws

namespace Go.Ws
open Go.Proofs
set_option linter.unusedSimpArgs false
set_option linter.unusedVariables false
set_option maxRecDepth 1000000
set_option maxHeartbeats 4000000
noncomputable def X50:Ctx:=⟨Try.f50,[],true⟩
noncomputable def L50_0:Code:=at_ Try.f50 [1,0,1,4,5]
def S50_0 (x1:aG) (cN:Int):St:=⟨mkT 19 [(0,(.sl 2 (List.map aB x1))),(1,(.fn 75 [])),(7,(.int .i64 (nI x1.length))),(8,(.int .i64 cN))],[]⟩
def aHB:St:=⟨mkT 19 [],[]⟩
def O50_0 (x1:aG) (y:(Sum (Unit) (Int))):GX:=match y with
 | .inl y=>.st (.exit 0) (aHB)
 | .inr y=>.fin (.int .i64 y) []
theorem lO (x1:aG) (y:(Sum (Unit) (Int))):∀(k:Nat) (cN:Int),cK k x1 cN=some y→LT Try.prog X50 L50_0 (S50_0 x1 cN) (O50_0 x1 y)
 | 0,cN,h=>by cases h
 | k+1,cN,h=>by
  rw[cK] at h
  by_cases cL0:ltI cN (nI x1.length)=true
  · rw[if_pos cL0] at h
    by_cases cL1:inI cN x1.length=true
    · rw[if_pos cL1] at h
      obtain⟨kG,eL2,h⟩:=bsm h
      let u1:List Ans:=[dt,.n x1.length,.row [(.int .u8 kG.1),(.int .i64 kG.2)],.call ⟨true,[]⟩ (.bool (g6 kG.1 kG.2)) []]
      let w2:List Prf:=[⟨(aBF kG.1 kG.2)⟩,⟨(cS (e:=aB) eL2 2 0 2 (by decide))⟩,⟨cL1⟩,⟨(aY aB x1)⟩,⟨cL0⟩]
      by_cases cL3:(g6 kG.1 kG.2)=true
      · rw[if_pos cL3] at h
        obtain rfl:=osi h
        show LT _ _ _ _ (.fin (.int .i64 cN) [])
        exact LT.done aE (hs:=⟨[],[],false,[],[]⟩) (es:=none) (u1++[dt]) ([⟨cL3⟩]++w2) (by kernel_rfl) (fun s h=>by cases h)
      rw[if_neg cL3] at h;replace cL3:=eqf cL3
      exact LT.next aE (hs:=⟨[(0,[]),(1,[]),(7,[]),(8,[])],[],false,[],[]⟩) (es:=none) (u1++[df]) ([⟨cL3⟩]++w2) (by kernel_rfl) (lO x1 y k (aH .i64 cN 1) h)
    rw[if_neg cL1] at h;replace cL1:=eqf cL1
    cases h
  rw[if_neg cL0] at h;replace cL0:=eqf cL0
  obtain rfl:=osi h
  show LT _ _ _ _ (.st (.exit 0) (aHB))
  exact LT.done aE (hs:=⟨[],[],false,[],[]⟩) (es:=(some ⟨[],[],false,[],[]⟩)) [df] [⟨cL0⟩] (by kernel_rfl) (fun s h=>by cases h)
theorem y4 (k:Nat) (x1:aG) (r:Int) (h:jE k x1=some r):Tri Try.prog 50 [(.sl 2 (List.map aB x1)),(.fn 75 [])] [] (.int .i64 r) []:=by
 unfold jE at h
 let u3:List Ans:=[.n x1.length,.norm 2 ⟨[(0,[]),(1,[]),(7,[]),(8,[])],[],false,[],[]⟩]
 obtain⟨x2,e0,h⟩:=bsm h
 cases x2 with
 | inl x3 =>
  simp only[Sum.elim_inl] at h
  obtain rfl:=osi h
  exact Tri.of (x:=X50) aE aDF (u3++[.out (.st .normal (aHB))]) [⟨(LT.block (lO x1 _ k 0 e0))⟩,⟨(aY aB x1)⟩] (by kernel_rfl)
 | inr x3 =>
  simp only[Sum.elim_inr] at h
  obtain rfl:=osi h
  exact Tri.of (x:=X50) aE aDF (u3++[.out (.fin (.int .i64 x3) [])]) [⟨(LT.blockFin (id:=0) (lO x1 _ k 0 e0))⟩,⟨(aY aB x1)⟩] (by kernel_rfl)
end Go.Ws

namespace Go.Ws
open Go.Proofs
set_option linter.unusedSimpArgs false
set_option linter.unusedVariables false
set_option maxRecDepth 1000000
set_option maxHeartbeats 4000000
noncomputable def X42:Ctx:=⟨Try.f42,[],true⟩
theorem vT (k:Nat) (x1:aG) (r:Bool) (h:g7 k x1=some r):Tri Try.prog 42 [(.sl 2 (List.map aB x1)),(.fn 75 [])] [] (.bool r) []:=by
 unfold g7 at h
 obtain⟨x2,e0,h⟩:=bsm h
 obtain rfl:=osi h
 exact Tri.of (x:=X42) aE aMB [.call ⟨true,[]⟩ (.int .i64 x2) []] [⟨(y4 k x1 _ e0)⟩] (by kernel_rfl)
end Go.Ws

namespace Go.Ws
open Go.Proofs
set_option linter.unusedSimpArgs false
set_option linter.unusedVariables false
set_option maxRecDepth 1000000
set_option maxHeartbeats 4000000
noncomputable def X74:Ctx:=⟨Try.f74,[],true⟩
theorem qI (k:Nat) (x1:Int) (x2:aG) (x3:Bool) (x4:Int) (r:Bool) (h:lI k x1 x2 x3 x4=some r):Tri Try.prog 74 [(.agg [(.int .i64 x1),(.sl 2 (List.map aB x2)),(.bool x3),(.int .i64 x4)])] [] (.bool r) []:=by
 unfold lI at h
 by_cases c0:ltI x1 0=true
 · rw[if_pos c0] at h
   obtain rfl:=osi h
   exact Tri.of (x:=X74) aE oK [dt,dt,dt,dt,dt,dt,dt,dt,dt,dt,dt,dt,dt,dt] [⟨rT⟩,⟨rT⟩,⟨rT⟩,⟨rT⟩,⟨rT⟩,⟨rT⟩,⟨rT⟩,⟨rT⟩,⟨rT⟩,⟨rT⟩,⟨c0⟩,⟨c0⟩,⟨c0⟩,⟨c0⟩] (by kernel_rfl)
 rw[if_neg c0] at h;replace c0:=eqf c0
 by_cases c1:ltI 3 x1=true
 · rw[if_pos c1] at h
   obtain rfl:=osi h
   exact Tri.of (x:=X74) aE oK [df,df,df,df,dt,dt,dt,dt,dt,dt,dt,dt,dt,dt] [⟨rT⟩,⟨rT⟩,⟨rT⟩,⟨rT⟩,⟨rT⟩,⟨c1⟩,⟨c1⟩,⟨c1⟩,⟨c1⟩,⟨c1⟩,⟨c0⟩,⟨c0⟩,⟨c0⟩,⟨c0⟩] (by kernel_rfl)
 rw[if_neg c1] at h;replace c1:=eqf c1
 let u3:List Ans:=[df,df,df,df,df,df,df,.n x2.length,df,df]
 let w4:List Prf:=[⟨c1⟩,⟨c1⟩,⟨(aY aB x2)⟩,⟨c1⟩,⟨c1⟩,⟨c1⟩,⟨c0⟩,⟨c0⟩,⟨c0⟩,⟨c0⟩]
 by_cases c2:ltI 50 (nI x2.length)=true
 · rw[if_pos c2] at h
   obtain rfl:=osi h
   exact Tri.of (x:=X74) aE oK (u3++[dt,dt,dt,dt,dt]) ([⟨rT⟩,⟨c2⟩,⟨c2⟩,⟨c2⟩,⟨c2⟩]++w4) (by kernel_rfl)
 rw[if_neg c2] at h;replace c2:=eqf c2
 obtain⟨x5,e3,h⟩:=bsm h
 let u5:List Ans:=u3++[df,df,df,.call ⟨true,[]⟩ (.bool x5) [],df]
 let w6:List Prf:=[⟨c2⟩,⟨(vT k x2 _ e3)⟩,⟨c2⟩,⟨c2⟩,⟨c2⟩]++w4
 by_cases c4:x5=true
 · rw[if_pos c4] at h
   obtain rfl:=osi h
   exact Tri.of (x:=X74) aE oK (u5++[dt]) ([⟨c4⟩]++w6) (by kernel_rfl)
 rw[if_neg c4] at h;replace c4:=eqf c4
 by_cases c5:eqI x4 1=true
 · rw[if_pos c5] at h
   by_cases c6:eqI x1 3=true
   · rw[if_pos c6] at h
     obtain rfl:=osi h
     exact Tri.of (x:=X74) aE oK (u5++[df,dt,dt,dt,dt,dt]) ([⟨c6⟩,⟨c5⟩,⟨c5⟩,⟨c5⟩,⟨c5⟩,⟨c4⟩]++w6) (by kernel_rfl)
   rw[if_neg c6] at h;replace c6:=eqf c6
   let w12:List Prf:=[⟨c6⟩,⟨c5⟩,⟨c5⟩,⟨c5⟩,⟨c5⟩,⟨c4⟩]++w6
   by_cases c7:eqI x4 0=true
   · rw[if_pos c7] at h
     let u13:List Ans:=u5++[df,dt,dt,dt,dt,df,dt,dt,dt,dt]
     by_cases c8:x3=true
     · rw[if_pos c8] at h
       obtain rfl:=osi h
       exact Tri.of (x:=X74) aE oK (u13++[df,df,df,dt,df,dt]) ([⟨c7⟩,⟨(nF c8)⟩,⟨c7⟩,⟨(nF c8)⟩,⟨(nF c8)⟩,⟨(nF c8)⟩,⟨c7⟩,⟨c7⟩,⟨c7⟩,⟨c7⟩]++w12) (by kernel_rfl)
     rw[if_neg c8] at h;replace c8:=eqf c8
     obtain rfl:=osi h
     exact Tri.of (x:=X74) aE oK (u13++[dt,dt,dt,dt,dt,dt]) ([⟨c7⟩,⟨(nT c8)⟩,⟨c7⟩,⟨(nT c8)⟩,⟨(nT c8)⟩,⟨(nT c8)⟩,⟨c7⟩,⟨c7⟩,⟨c7⟩,⟨c7⟩]++w12) (by kernel_rfl)
   rw[if_neg c7] at h;replace c7:=eqf c7
   obtain rfl:=osi h
   exact Tri.of (x:=X74) aE oK (u5++[df,dt,dt,dt,dt,df,df,df,df,df,df,df]) ([⟨c7⟩,⟨c7⟩,⟨c7⟩,⟨c7⟩,⟨c7⟩,⟨c7⟩]++w12) (by kernel_rfl)
 rw[if_neg c5] at h;replace c5:=eqf c5
 by_cases c6:eqI x1 3=true
 · rw[if_pos c6] at h
   obtain rfl:=osi h
   exact Tri.of (x:=X74) aE oK (u5++[df,df,df,df,df,dt]) ([⟨c6⟩,⟨c5⟩,⟨c5⟩,⟨c5⟩,⟨c5⟩,⟨c4⟩]++w6) (by kernel_rfl)
 rw[if_neg c6] at h;replace c6:=eqf c6
 let w18:List Prf:=[⟨c6⟩,⟨c5⟩,⟨c5⟩,⟨c5⟩,⟨c5⟩,⟨c4⟩]++w6
 by_cases c7:eqI x4 0=true
 · rw[if_pos c7] at h
   let u19:List Ans:=u5++[df,df,df,df,df,df,dt,dt,dt,dt]
   by_cases c8:x3=true
   · rw[if_pos c8] at h
     obtain rfl:=osi h
     exact Tri.of (x:=X74) aE oK (u19++[df,df,df,dt,df,dt]) ([⟨c7⟩,⟨(nF c8)⟩,⟨c7⟩,⟨(nF c8)⟩,⟨(nF c8)⟩,⟨(nF c8)⟩,⟨c7⟩,⟨c7⟩,⟨c7⟩,⟨c7⟩]++w18) (by kernel_rfl)
   rw[if_neg c8] at h;replace c8:=eqf c8
   obtain rfl:=osi h
   exact Tri.of (x:=X74) aE oK (u19++[dt,dt,dt,dt,dt,dt]) ([⟨c7⟩,⟨(nT c8)⟩,⟨c7⟩,⟨(nT c8)⟩,⟨(nT c8)⟩,⟨(nT c8)⟩,⟨c7⟩,⟨c7⟩,⟨c7⟩,⟨c7⟩]++w18) (by kernel_rfl)
 rw[if_neg c7] at h;replace c7:=eqf c7
 obtain rfl:=osi h
 exact Tri.of (x:=X74) aE oK (u5++[df,df,df,df,df,df,df,df,df,df,df,df]) ([⟨c7⟩,⟨c7⟩,⟨c7⟩,⟨c7⟩,⟨c7⟩,⟨c7⟩]++w18) (by kernel_rfl)
end Go.Ws

namespace Go.Ws
open Go.Proofs
set_option linter.unusedSimpArgs false
set_option linter.unusedVariables false
set_option maxRecDepth 1000000
set_option maxHeartbeats 4000000
noncomputable def X57:Ctx:=⟨Try.f57,[],true⟩
theorem aIX (k:Nat) (x1:Int) (x2:aG) (x3:Bool) (x4:Int) (x5:Int) (x6:Int) (r:Int × aG × Bool × Int × Int) (h:uZ k x1 x2 x3 x4 x5 x6=some r):Tri Try.prog 57 [(.agg [(.int .i64 x1),(.sl 2 (List.map aB x2)),(.bool x3),(.int .i64 x4)]),(.agg [(.int .u8 x5),(.int .i64 x6)])] [] (.tup [(.agg [(.int .i64 r.1),(.sl 2 (List.map aB r.2.1)),(.bool r.2.2.1),(.int .i64 r.2.2.2.1)]),(.int .i64 r.2.2.2.2)]) []:=by
 unfold uZ at h
 obtain⟨x7,e0,h⟩:=bsm h
 obtain⟨x8,e1,h⟩:=bsm h
 let u1:List Ans:=[.call ⟨true,[]⟩ (.agg [(.int .i64 x1),(.ref 2 0 0 0 x2.length .virt),(.bool x3),(.int .i64 x4)]) [(.arr 2 (List.map aB x2) 0 0 false)],.call ⟨true,[]⟩ (.bool x8) [],.rows (List.map aB x2)]
 let w2:List Prf:=[⟨(qI k x1 x2 x3 x4 _ e1)⟩,⟨(cH aB (l:=x2) (n:=x2.length) rfl)⟩,⟨(eR aB (Nat.le_refl x2.length):0+x2.length≤(List.map aB x2).length)⟩,⟨(aCB k x1 x2 x3 x4 _ e0)⟩]
 by_cases c2:x8=true
 · rw[if_pos c2] at h
   let u3:List Ans:=u1++[df,df,.call ⟨true,[]⟩ (.bool (g6 x5 x6)) [],df]
   let w4:List Prf:=[⟨(nF c2)⟩,⟨(aBF x5 x6)⟩,⟨(nF c2)⟩,⟨(nF c2)⟩]++w2
   by_cases c3:(g6 x5 x6)=true
   · rw[if_pos c3] at h
     obtain rfl:=osi h
     exact Tri.of (x:=X57) aE z3 (u3++[dt,.rows (List.map aB x2)]) ([⟨(cH aB (l:=x2) (n:=x2.length) rfl)⟩,⟨(eR aB (Nat.le_refl x2.length):0+x2.length≤(List.map aB x2).length)⟩,⟨c3⟩]++w4) (by kernel_rfl)
   rw[if_neg c3] at h;replace c3:=eqf c3
   by_cases c4:eqI x1 0=true
   · rw[if_pos c4] at h
     by_cases c5:ltI (nI x2.length) 50=true
     · rw[if_pos c5] at h
       by_cases c6:dF (((x2++[(x5,x6)]).length)*16)=true
       · rw[if_pos c6] at h
         obtain rfl:=osi h
         exact Tri.of (x:=X57) aE z3 (u3++[df,df,df,.rows (List.map aB [(x5,x6)]),.n ((x2++[(x5,x6)]).length),.n x2.length,dt,.rows (List.map aB (x2++[(x5,x6)])),.rows (List.map aB (x2++[(x5,x6)]))]) ([⟨(cH aB (l:=(x2++[(x5,x6)])) (n:=((x2++[(x5,x6)]).length)) rfl)⟩,⟨(eR aB (Nat.le_refl ((x2++[(x5,x6)]).length)):0+(x2++[(x5,x6)]).length≤(List.map aB (x2++[(x5,x6)])).length)⟩,⟨(aDS aB x2 [(x5,x6)])⟩,⟨(aA4 x2.length)⟩,⟨(aY aB x2)⟩,⟨c6⟩,⟨(by simp only[wl,List.length_map,List.map_nil,List.map_cons]<;>omega:x2.length+(List.map aB [(x5,x6)]).length=(x2++[(x5,x6)]).length)⟩,⟨(cH aB (l:=[(x5,x6)]) (n:=1) rfl)⟩,⟨(eR aB (Nat.le_refl 1):0+1≤(List.map aB [(x5,x6)]).length)⟩,⟨(nF c5)⟩,⟨(nF c4)⟩,⟨c3⟩]++w4) (by kernel_rfl)
       rw[if_neg c6] at h;replace c6:=eqf c6
       cases h
     rw[if_neg c5] at h;replace c5:=eqf c5
     obtain rfl:=osi h
     exact Tri.of (x:=X57) aE z3 (u3++[df,df,dt,.rows (List.map aB x2)]) ([⟨(cH aB (l:=x2) (n:=x2.length) rfl)⟩,⟨(eR aB (Nat.le_refl x2.length):0+x2.length≤(List.map aB x2).length)⟩,⟨(nT c5)⟩,⟨(nF c4)⟩,⟨c3⟩]++w4) (by kernel_rfl)
   rw[if_neg c4] at h;replace c4:=eqf c4
   obtain rfl:=osi h
   exact Tri.of (x:=X57) aE z3 (u3++[df,dt,.rows (List.map aB x2)]) ([⟨(cH aB (l:=x2) (n:=x2.length) rfl)⟩,⟨(eR aB (Nat.le_refl x2.length):0+x2.length≤(List.map aB x2).length)⟩,⟨(nT c4)⟩,⟨c3⟩]++w4) (by kernel_rfl)
 rw[if_neg c2] at h;replace c2:=eqf c2
 obtain rfl:=osi h
 exact Tri.of (x:=X57) aE z3 (u1++[dt,dt,dt,dt,.rows (List.map aB x2)]) ([⟨(cH aB (l:=x2) (n:=x2.length) rfl)⟩,⟨(eR aB (Nat.le_refl x2.length):0+x2.length≤(List.map aB x2).length)⟩,⟨rT⟩,⟨(nT c2)⟩,⟨(nT c2)⟩,⟨(nT c2)⟩]++w2) (by kernel_rfl)
end Go.Ws

namespace Go.Ws
open Go.Proofs
set_option linter.unusedSimpArgs false
set_option linter.unusedVariables false
set_option maxRecDepth 1000000
set_option maxHeartbeats 4000000
noncomputable def X37:Ctx:=⟨Try.f37,[],true⟩
noncomputable def L37_0:Code:=at_ Try.f37 [1,0,1,4,5]
def S37_0 (x1:aG) (x2:Int) (dA:Int):St:=⟨mkT 20 [(1,(.int .u8 x2)),(7,(.sl 2 (List.map aB x1))),(8,(.int .i64 (nI x1.length))),(9,(.int .i64 dA))],[]⟩
def aIA:St:=⟨mkT 20 [],[]⟩
def O37_0 (x1:aG) (x2:Int) (y:(Sum (Unit) (Int))):GX:=match y with
 | .inl y=>.st (.exit 0) (aIA)
 | .inr y=>.fin (.int .i64 y) []
theorem p8 (x1:aG) (x2:Int) (y:(Sum (Unit) (Int))):∀(k:Nat) (dA:Int),fN k x1 x2 dA=some y→LT Try.prog X37 L37_0 (S37_0 x1 x2 dA) (O37_0 x1 x2 y)
 | 0,dA,h=>by cases h
 | k+1,dA,h=>by
  rw[fN] at h
  by_cases cL0:ltI dA (nI x1.length)=true
  · rw[if_pos cL0] at h
    by_cases cL1:inI dA x1.length=true
    · rw[if_pos cL1] at h
      obtain⟨oD,eL2,h⟩:=bsm h
      let u1:List Ans:=[dt,.n x1.length,.row [(.int .u8 oD.1),(.int .i64 oD.2)]]
      let w2:List Prf:=[⟨(cS (e:=aB) eL2 2 0 2 (by decide))⟩,⟨cL1⟩,⟨(aY aB x1)⟩,⟨cL0⟩]
      by_cases cL3:eqI oD.1 x2=true
      · rw[if_pos cL3] at h
        obtain rfl:=osi h
        show LT _ _ _ _ (.fin (.int .i64 oD.2) [])
        exact LT.done aE (hs:=⟨[],[],false,[],[]⟩) (es:=none) (u1++[dt]) ([⟨cL3⟩]++w2) (by kernel_rfl) (fun s h=>by cases h)
      rw[if_neg cL3] at h;replace cL3:=eqf cL3
      exact LT.next aE (hs:=⟨[(1,[]),(7,[]),(8,[]),(9,[])],[],false,[],[]⟩) (es:=none) (u1++[df]) ([⟨cL3⟩]++w2) (by kernel_rfl) (p8 x1 x2 y k (aH .i64 dA 1) h)
    rw[if_neg cL1] at h;replace cL1:=eqf cL1
    cases h
  rw[if_neg cL0] at h;replace cL0:=eqf cL0
  obtain rfl:=osi h
  show LT _ _ _ _ (.st (.exit 0) (aIA))
  exact LT.done aE (hs:=⟨[],[],false,[],[]⟩) (es:=(some ⟨[],[],false,[],[]⟩)) [df] [⟨cL0⟩] (by kernel_rfl) (fun s h=>by cases h)
theorem aFO (k:Nat) (x1:aG) (x2:Int) (r:Int) (h:pZ k x1 x2=some r):Tri Try.prog 37 [(.sl 2 (List.map aB x1)),(.int .u8 x2)] [] (.int .i64 r) []:=by
 unfold pZ at h
 let u3:List Ans:=[.n x1.length,.norm 2 ⟨[(1,[]),(7,[]),(8,[]),(9,[])],[],false,[],[]⟩]
 obtain⟨x3,e0,h⟩:=bsm h
 cases x3 with
 | inl x4 =>
  simp only[Sum.elim_inl] at h
  obtain rfl:=osi h
  exact Tri.of (x:=X37) aE aMR (u3++[.out (.st .normal (aIA))]) [⟨(LT.block (p8 x1 x2 _ k 0 e0))⟩,⟨(aY aB x1)⟩] (by kernel_rfl)
 | inr x4 =>
  simp only[Sum.elim_inr] at h
  obtain rfl:=osi h
  exact Tri.of (x:=X37) aE aMR (u3++[.out (.fin (.int .i64 x4) [])]) [⟨(LT.blockFin (id:=0) (p8 x1 x2 _ k 0 e0))⟩,⟨(aY aB x1)⟩] (by kernel_rfl)
end Go.Ws

namespace Go.Ws
open Go.Proofs
set_option linter.unusedSimpArgs false
set_option linter.unusedVariables false
set_option maxRecDepth 1000000
set_option maxHeartbeats 4000000
noncomputable def X73_1:Ctx:=⟨Try.f73,[],true⟩
theorem oM (k:Nat) (x1:Int) (x2:aG) (x3:Bool) (x4:Int) (r:Int × aG × Bool × Int) (h:g9 k x1 x2 x3 x4=some r):Tri Try.prog 73 [(.agg [(.int .i64 x1),(.sl 2 (List.map aB x2)),(.bool x3),(.int .i64 x4)])] [] (.agg [(.int .i64 r.1),(.sl 2 (List.map aB r.2.1)),(.bool r.2.2.1),(.int .i64 r.2.2.2)]) []:=by
 unfold g9 at h
 obtain⟨x5,e0,h⟩:=bsm h
 obtain rfl:=osi h
 exact Tri.of (x:=X73_1) aE aMW [.call ⟨true,[]⟩ (.ref 2 0 0 0 x2.length .virt) [(.arr 2 (List.map aB x2) 0 0 false)],.rows (List.map aB x2)] [⟨(cH aB (l:=x2) (n:=x2.length) rfl)⟩,⟨(eR aB (Nat.le_refl x2.length):0+x2.length≤(List.map aB x2).length)⟩,⟨(jO k x2 _ e0)⟩] (by kernel_rfl)
end Go.Ws

namespace Go.Ws
open Go.Proofs
set_option linter.unusedSimpArgs false
set_option linter.unusedVariables false
set_option maxRecDepth 1000000
set_option maxHeartbeats 4000000
noncomputable def X58:Ctx:=⟨Try.f58,[],true⟩
theorem aH7 (k:Nat) (x1:Int) (x2:aG) (x3:Bool) (x4:Int) (x5:Bool) (r:Int × aG × Bool × Int × Int) (h:rY k x1 x2 x3 x4 x5=some r):Tri Try.prog 58 [(.agg [(.int .i64 x1),(.sl 2 (List.map aB x2)),(.bool x3),(.int .i64 x4)]),(.bool x5)] [] (.tup [(.agg [(.int .i64 r.1),(.sl 2 (List.map aB r.2.1)),(.bool r.2.2.1),(.int .i64 r.2.2.2.1)]),(.int .i64 r.2.2.2.2)]) []:=by
 unfold rY at h
 obtain⟨x6,e0,h⟩:=bsm h
 obtain⟨x7,e1,h⟩:=bsm h
 let u1:List Ans:=[.call ⟨true,[]⟩ (.agg [(.int .i64 x6.1),(.sl 2 (List.map aB x6.2.1)),(.bool x6.2.2.1),(.int .i64 x6.2.2.2)]) [],.call ⟨true,[]⟩ (.bool x7) []]
 let w2:List Prf:=[⟨(qI k x6.1 x6.2.1 x6.2.2.1 x6.2.2.2 _ e1)⟩,⟨(oM k x1 x2 x3 x4 _ e0)⟩]
 by_cases c2:x7=true
 · rw[if_pos c2] at h
   by_cases c3:eqI x6.1 0=true
   · rw[if_pos c3] at h
     by_cases c4:x5=true
     · rw[if_pos c4] at h
       obtain rfl:=osi h
       exact Tri.of (x:=X58) aE aDJ (u1++[df,df,dt]) ([⟨c4⟩,⟨(nF c3)⟩,⟨(nF c2)⟩]++w2) (by kernel_rfl)
     rw[if_neg c4] at h;replace c4:=eqf c4
     obtain rfl:=osi h
     exact Tri.of (x:=X58) aE aDJ (u1++[df,df,df]) ([⟨c4⟩,⟨(nF c3)⟩,⟨(nF c2)⟩]++w2) (by kernel_rfl)
   rw[if_neg c3] at h;replace c3:=eqf c3
   obtain rfl:=osi h
   exact Tri.of (x:=X58) aE aDJ (u1++[df,dt]) ([⟨(nT c3)⟩,⟨(nF c2)⟩]++w2) (by kernel_rfl)
 rw[if_neg c2] at h;replace c2:=eqf c2
 obtain rfl:=osi h
 exact Tri.of (x:=X58) aE aDJ (u1++[dt]) ([⟨(nT c2)⟩]++w2) (by kernel_rfl)
end Go.Ws

namespace Go.Ws
open Go.Proofs
set_option linter.unusedSimpArgs false
set_option linter.unusedVariables false
set_option maxRecDepth 1000000
set_option maxHeartbeats 4000000
noncomputable def X40_1001:Ctx:=⟨Try.f40,[],false⟩
theorem uV (k:Nat) (x1:aG) (r:Unit) (h:gG k x1=some r):Tri Try.prog 40 [(.inl 2 (List.map aB x1))] [] (.ref 2 0 0 0 x1.length .virt) [(.arr 2 (List.map aB x1) 0 0 false)]:=by
 unfold gG at h
 by_cases c0:dF (x1.length*16)=true
 · rw[if_pos c0] at h
   obtain rfl:=osi h
   exact Tri.of (x:=X40_1001) aE aMS [df,.n x1.length,.norm 0 ⟨[(2,[])],[⟨.tmp 2,[],some 2⟩],false,[],[]⟩,.n x1.length,.rows (List.map aB x1)] [⟨(eT aB (l:=x1) (n:=x1.length) rfl)⟩,⟨(rfl:x1.length=x1.length)⟩,⟨(zle x1.length)⟩,⟨c0⟩,⟨(aY aB x1)⟩,⟨rF⟩] (by kernel_rfl)
 rw[if_neg c0] at h;replace c0:=eqf c0
 cases h
end Go.Ws

namespace Go.Ws
open Go.Proofs
set_option linter.unusedSimpArgs false
set_option linter.unusedVariables false
set_option maxRecDepth 1000000
set_option maxHeartbeats 4000000
noncomputable def X40_1002:Ctx:=⟨Try.f40,[],false⟩
theorem t8:Tri Try.prog 40 [.nils] [] (.ref 2 0 0 0 0 .virt) [(.arr 2 (List.map aB []) 0 0 false)]:=by
 obtain⟨r,h⟩:∃r,mQ=r:=⟨_,rfl⟩
 try rw[h]
 unfold mQ at h
 obtain rfl:=h
 exact Tri.of (x:=X40_1002) aE aMS [dt,.norm 0 ⟨[(2,[])],[⟨.tmp 2,[],some 2⟩],false,[],[]⟩,.n 0,.rows (List.map aB [])] [⟨(eT aB (l:=[]) (n:=0) rfl)⟩,⟨(rfl:0=0)⟩,⟨(zle 0)⟩,⟨rT⟩] (by kernel_rfl)
end Go.Ws

namespace Go.Ws
open Go.Proofs
set_option linter.unusedSimpArgs false
set_option linter.unusedVariables false
set_option maxRecDepth 1000000
set_option maxHeartbeats 4000000
theorem zG (k:Nat) (x1:aG) (r:Unit) (h:lX k x1=some r):Tri Try.prog 40 [(.sl 2 (List.map aB x1))] [] (.ref 2 0 0 0 x1.length .virt) [(.arr 2 (List.map aB x1) 0 0 false)]:=by
 refine Tri.slOf (uV k x1 r h) fun h0=>?_
 have hx:x1=[]:=by simpa using h0
 subst hx
 exact t8
end Go.Ws

namespace Go.Ws
open Go.Proofs
set_option linter.unusedSimpArgs false
set_option linter.unusedVariables false
set_option maxRecDepth 1000000
set_option maxHeartbeats 4000000
noncomputable def X41:Ctx:=⟨Try.f41,[],true⟩
noncomputable def L41_0:Code:=at_ Try.f41 [1,0,1,4,5]
def S41_0 (x1:aG) (bK:Int):St:=⟨mkT 36 [(0,(.sl 2 (List.map aB x1))),(5,(.sl 2 (List.map aB x1))),(6,(.int .i64 (nI x1.length))),(7,(.int .i64 bK))],[]⟩
def aIU:St:=⟨mkT 36 [],[]⟩
def O41_0 (x1:aG) (y:aC9):GX:=match y with
 | .inl y=>.st (.exit 0) (aIU)
 | .inr y=>.fin (.bool y) []
theorem lR (x1:aG) (y:aC9):∀(k:Nat) (bK:Int),dM k x1 bK=some y→LT Try.prog X41 L41_0 (S41_0 x1 bK) (O41_0 x1 y)
 | 0,bK,h=>by cases h
 | k+1,bK,h=>by
  rw[dM] at h
  by_cases cL0:ltI bK (nI x1.length)=true
  · rw[if_pos cL0] at h
    by_cases cL1:inI bK x1.length=true
    · rw[if_pos cL1] at h
      obtain⟨lF,eL2,h⟩:=bsm h
      let u1:List Ans:=[dt,.n x1.length,.row [(.int .u8 lF.1),(.int .i64 lF.2)]]
      let w2:List Prf:=[⟨(cS (e:=aB) eL2 2 0 2 (by decide))⟩,⟨cL1⟩,⟨(aY aB x1)⟩,⟨cL0⟩]
      by_cases cL3:ltI lF.1 64=true
      · rw[if_pos cL3] at h
        let w4:List Prf:=[⟨(nF cL3)⟩,⟨(nF cL3)⟩,⟨(nF cL3)⟩,⟨(nF cL3)⟩]++w2
        by_cases cL4:eqI lF.2 0=true
        · rw[if_pos cL4] at h
          obtain rfl:=osi h
          show LT _ _ _ _ (.fin (.bool false) [])
          exact LT.done aE (hs:=⟨[],[],false,[],[]⟩) (es:=none) (u1++[df,df,df,df,dt,dt,dt,dt,dt,dt]) ([⟨rT⟩,⟨cL4⟩,⟨cL4⟩,⟨cL4⟩,⟨cL4⟩,⟨cL4⟩]++w4) (by kernel_rfl) (fun s h=>by cases h)
        rw[if_neg cL4] at h;replace cL4:=eqf cL4
        by_cases cL5:ltI 0 bK=true
        · rw[if_pos cL5] at h
          by_cases cL6:inI (qT .i64 bK 1) x1.length=true
          · rw[if_pos cL6] at h
            obtain⟨vB,eL7,h⟩:=bsm h
            let u7:List Ans:=u1++[df,df,df,df,df,df,df,dt,dt,dt,dt,.n x1.length,dt,dt,.row [(.int .u8 vB.1)],dt,dt,dt,df,dt,df]
            let w8:List Prf:=[⟨cL4⟩,⟨cL5⟩,⟨cL4⟩,⟨cL5⟩,⟨cL5⟩,⟨cL5⟩,⟨(cS (e:=aB) eL7 2 0 1 (by decide))⟩,⟨cL5⟩,⟨cL5⟩,⟨cL6⟩,⟨(aY aB x1)⟩,⟨cL5⟩,⟨cL5⟩,⟨cL5⟩,⟨cL5⟩,⟨cL4⟩,⟨cL4⟩,⟨cL4⟩]++w4
            by_cases cL8:ltI vB.1 lF.1=true
            · rw[if_pos cL8] at h
              exact LT.next aE (hs:=⟨[(0,[]),(5,[]),(6,[]),(7,[])],[],false,[],[]⟩) (es:=none) (u7++[df]) ([⟨(nF cL8)⟩]++w8) (by kernel_rfl) (lR x1 y k (aH .i64 bK 1) h)
            rw[if_neg cL8] at h;replace cL8:=eqf cL8
            obtain rfl:=osi h
            show LT _ _ _ _ (.fin (.bool false) [])
            exact LT.done aE (hs:=⟨[],[],false,[],[]⟩) (es:=none) (u7++[dt]) ([⟨(nT cL8)⟩]++w8) (by kernel_rfl) (fun s h=>by cases h)
          rw[if_neg cL6] at h;replace cL6:=eqf cL6
          cases h
        rw[if_neg cL5] at h;replace cL5:=eqf cL5
        exact LT.next aE (hs:=⟨[(0,[]),(5,[]),(6,[]),(7,[])],[],false,[],[]⟩) (es:=none) (u1++[df,df,df,df,df,df,df,df,df,df,df,df,df,df,df,df,df,df,df,df]) ([⟨rF⟩,⟨cL4⟩,⟨cL5⟩,⟨cL4⟩,⟨cL5⟩,⟨cL5⟩,⟨cL5⟩,⟨cL5⟩,⟨cL5⟩,⟨cL5⟩,⟨cL5⟩,⟨cL5⟩,⟨cL5⟩,⟨cL4⟩,⟨cL4⟩,⟨cL4⟩]++w4) (by kernel_rfl) (lR x1 y k (aH .i64 bK 1) h)
      rw[if_neg cL3] at h;replace cL3:=eqf cL3
      obtain rfl:=osi h
      show LT _ _ _ _ (.fin (.bool false) [])
      exact LT.done aE (hs:=⟨[],[],false,[],[]⟩) (es:=none) (u1++[dt,dt,dt,dt,dt,dt,dt,dt,dt,dt]) ([⟨rT⟩,⟨rT⟩,⟨rT⟩,⟨rT⟩,⟨rT⟩,⟨rT⟩,⟨(nT cL3)⟩,⟨(nT cL3)⟩,⟨(nT cL3)⟩,⟨(nT cL3)⟩]++w2) (by kernel_rfl) (fun s h=>by cases h)
    rw[if_neg cL1] at h;replace cL1:=eqf cL1
    cases h
  rw[if_neg cL0] at h;replace cL0:=eqf cL0
  obtain rfl:=osi h
  show LT _ _ _ _ (.st (.exit 0) (aIU))
  exact LT.done aE (hs:=⟨[],[],false,[],[]⟩) (es:=(some ⟨[],[],false,[],[]⟩)) [df] [⟨cL0⟩] (by kernel_rfl) (fun s h=>by cases h)
theorem aC6 (k:Nat) (x1:aG) (r:Bool) (h:nD k x1=some r):Tri Try.prog 41 [(.sl 2 (List.map aB x1))] [] (.bool r) []:=by
 unfold nD at h
 let u9:List Ans:=[.n x1.length,.norm 2 ⟨[(0,[]),(5,[]),(6,[]),(7,[])],[],false,[],[]⟩]
 obtain⟨x2,e0,h⟩:=bsm h
 cases x2 with
 | inl x3 =>
  simp only[Sum.elim_inl] at h
  obtain rfl:=osi h
  exact Tri.of (x:=X41) aE aNF (u9++[.out (.st .normal (aIU))]) [⟨(LT.block (lR x1 _ k 0 e0))⟩,⟨(aY aB x1)⟩] (by kernel_rfl)
 | inr x3 =>
  simp only[Sum.elim_inr] at h
  obtain rfl:=osi h
  exact Tri.of (x:=X41) aE aNF (u9++[.out (.fin (.bool x3) [])]) [⟨(LT.blockFin (id:=0) (lR x1 _ k 0 e0))⟩,⟨(aY aB x1)⟩] (by kernel_rfl)
end Go.Ws

namespace Go.Ws
open Go.Proofs
set_option linter.unusedSimpArgs false
set_option linter.unusedVariables false
set_option maxRecDepth 1000000
set_option maxHeartbeats 4000000
noncomputable def X39:Ctx:=⟨Try.f39,[],false⟩
theorem aC1 (x1:Int) (x2:Int):Tri Try.prog 39 [(.agg [(.int .u8 x1),(.int .i64 x2)])] [] (.bool (!ltI x1 64)) []:=by
 obtain⟨r,h⟩:∃r,vE x1 x2=r:=⟨_,rfl⟩
 try rw[h]
 unfold vE at h
 obtain rfl:=h
 exact Tri.of (x:=X39) aE facts39 [.norm 0 ⟨[(2,[])],[],false,[],[]⟩] [] (by kernel_rfl)
end Go.Ws

namespace Go.Ws
open Go.Proofs
set_option linter.unusedSimpArgs false
set_option linter.unusedVariables false
set_option maxRecDepth 1000000
set_option maxHeartbeats 4000000
noncomputable def X50_1:Ctx:=⟨Try.f50,[],true⟩
noncomputable def L50_1_0:Code:=at_ Try.f50 [1,0,1,4,5]
def S50_1_0 (x1:aG) (bW:Int):St:=⟨mkT 19 [(0,(.sl 2 (List.map aB x1))),(1,(.fn 39 [])),(7,(.int .i64 (nI x1.length))),(8,(.int .i64 bW))],[]⟩
def aBR:St:=⟨mkT 19 [],[]⟩
def O50_1_0 (x1:aG) (y:(Sum (Unit) (Int))):GX:=match y with
 | .inl y=>.st (.exit 0) (aBR)
 | .inr y=>.fin (.int .i64 y) []
theorem kK (x1:aG) (y:(Sum (Unit) (Int))):∀(k:Nat) (bW:Int),b7 k x1 bW=some y→LT Try.prog X50_1 L50_1_0 (S50_1_0 x1 bW) (O50_1_0 x1 y)
 | 0,bW,h=>by cases h
 | k+1,bW,h=>by
  rw[b7] at h
  by_cases cL0:ltI bW (nI x1.length)=true
  · rw[if_pos cL0] at h
    by_cases cL1:inI bW x1.length=true
    · rw[if_pos cL1] at h
      obtain⟨mG,eL2,h⟩:=bsm h
      let u1:List Ans:=[dt,.n x1.length,.row [(.int .u8 mG.1),(.int .i64 mG.2)],.call ⟨false,[]⟩ (.bool (!ltI mG.1 64)) []]
      let w2:List Prf:=[⟨(aC1 mG.1 mG.2)⟩,⟨(cS (e:=aB) eL2 2 0 2 (by decide))⟩,⟨cL1⟩,⟨(aY aB x1)⟩,⟨cL0⟩]
      by_cases cL3:ltI mG.1 64=true
      · rw[if_pos cL3] at h
        exact LT.next aE (hs:=⟨[(0,[]),(1,[]),(7,[]),(8,[])],[],false,[],[]⟩) (es:=none) (u1++[df]) ([⟨(nF cL3)⟩]++w2) (by kernel_rfl) (kK x1 y k (aH .i64 bW 1) h)
      rw[if_neg cL3] at h;replace cL3:=eqf cL3
      obtain rfl:=osi h
      show LT _ _ _ _ (.fin (.int .i64 bW) [])
      exact LT.done aE (hs:=⟨[],[],false,[],[]⟩) (es:=none) (u1++[dt]) ([⟨(nT cL3)⟩]++w2) (by kernel_rfl) (fun s h=>by cases h)
    rw[if_neg cL1] at h;replace cL1:=eqf cL1
    cases h
  rw[if_neg cL0] at h;replace cL0:=eqf cL0
  obtain rfl:=osi h
  show LT _ _ _ _ (.st (.exit 0) (aBR))
  exact LT.done aE (hs:=⟨[],[],false,[],[]⟩) (es:=(some ⟨[],[],false,[],[]⟩)) [df] [⟨cL0⟩] (by kernel_rfl) (fun s h=>by cases h)
theorem wH (k:Nat) (x1:aG) (r:Int) (h:hU k x1=some r):Tri Try.prog 50 [(.sl 2 (List.map aB x1)),(.fn 39 [])] [] (.int .i64 r) []:=by
 unfold hU at h
 let u3:List Ans:=[.n x1.length,.norm 2 ⟨[(0,[]),(1,[]),(7,[]),(8,[])],[],false,[],[]⟩]
 obtain⟨x2,e0,h⟩:=bsm h
 cases x2 with
 | inl x3 =>
  simp only[Sum.elim_inl] at h
  obtain rfl:=osi h
  exact Tri.of (x:=X50_1) aE aDF (u3++[.out (.st .normal (aBR))]) [⟨(LT.block (kK x1 _ k 0 e0))⟩,⟨(aY aB x1)⟩] (by kernel_rfl)
 | inr x3 =>
  simp only[Sum.elim_inr] at h
  obtain rfl:=osi h
  exact Tri.of (x:=X50_1) aE aDF (u3++[.out (.fin (.int .i64 x3) [])]) [⟨(LT.blockFin (id:=0) (kK x1 _ k 0 e0))⟩,⟨(aY aB x1)⟩] (by kernel_rfl)
end Go.Ws

namespace Go.Ws
open Go.Proofs
set_option linter.unusedSimpArgs false
set_option linter.unusedVariables false
set_option maxRecDepth 1000000
set_option maxHeartbeats 4000000
noncomputable def X42_1:Ctx:=⟨Try.f42,[],true⟩
theorem tV (k:Nat) (x1:aG) (r:Bool) (h:f4 k x1=some r):Tri Try.prog 42 [(.sl 2 (List.map aB x1)),(.fn 39 [])] [] (.bool r) []:=by
 unfold f4 at h
 obtain⟨x2,e0,h⟩:=bsm h
 obtain rfl:=osi h
 exact Tri.of (x:=X42_1) aE aMB [.call ⟨true,[]⟩ (.int .i64 x2) []] [⟨(wH k x1 _ e0)⟩] (by kernel_rfl)
end Go.Ws

namespace Go.Ws
open Go.Proofs
set_option linter.unusedSimpArgs false
set_option linter.unusedVariables false
set_option maxRecDepth 1000000
set_option maxHeartbeats 4000000
noncomputable def X52:Ctx:=⟨Try.f52,[],false⟩
theorem uR (x1:Int) (x2:Int) (x3:Int):Tri Try.prog 52 [(.agg [(.int .u8 x1),(.int .i64 x2)]),(.int .u8 x3)] [] (.int .i64 (bA x1 x3)) []:=by
 obtain⟨r,h⟩:∃r,tT x1 x2 x3=r:=⟨_,rfl⟩
 try rw[h]
 unfold tT at h
 obtain rfl:=h
 exact Tri.of (x:=X52) aE facts52 [.call ⟨true,[]⟩ (.int .i64 (bA x1 x3)) [],.norm 0 ⟨[(4,[])],[],false,[],[]⟩] [⟨(xM x1 x3)⟩] (by kernel_rfl)
end Go.Ws

namespace Go.Ws
open Go.Proofs
set_option linter.unusedSimpArgs false
set_option linter.unusedVariables false
set_option maxRecDepth 1000000
set_option maxHeartbeats 4000000
noncomputable def X51:Ctx:=⟨Try.f51,[],true⟩
noncomputable def L51_0:Code:=at_ Try.f51 [1,1,1,0,4,5]
def S51_0 (x1:aG) (x2:Int) (bX:Int) (cF:Int):St:=⟨mkT 49 [(0,(.sl 2 (List.map aB x1))),(1,(.int .u8 x2)),(2,(.fn 52 [])),(8,(.int .i64 (nI x1.length))),(9,(.int .i64 bX)),(10,(.int .i64 cF))],[]⟩
def aIE (x1:aG) (x2:Int) (v51002_1:Int):St:=⟨mkT 49 [(0,(.sl 2 (List.map aB x1))),(1,(.int .u8 x2)),(2,(.fn 52 [])),(8,(.int .i64 (nI x1.length))),(9,(.int .i64 v51002_1))],[]⟩
def O51_0 (x1:aG) (x2:Int) (y:(Int)):GX:=.st (.exit 0) (aIE x1 x2 y)
theorem gU (x1:aG) (x2:Int) (y:(Int)):∀(k:Nat) (bX:Int) (cF:Int),aR k x1 x2 bX cF=some y→LT Try.prog X51 L51_0 (S51_0 x1 x2 bX cF) (O51_0 x1 x2 y)
 | 0,bX,cF,h=>by cases h
 | k+1,bX,cF,h=>by
  rw[aR] at h
  by_cases cL0:ltI bX cF=true
  · rw[if_pos cL0] at h
    by_cases cL1:inI (conv .i64 (rA .u64 (conv .u64 (aH .i64 bX cF)) 1)) x1.length=true
    · rw[if_pos cL1] at h
      obtain⟨oE,eL2,h⟩:=bsm h
      let u1:List Ans:=[dt,.n x1.length,.row [(.int .u8 oE.1),(.int .i64 oE.2)],.call ⟨false,[]⟩ (.int .i64 (bA oE.1 x2)) []]
      let w2:List Prf:=[⟨(uR oE.1 oE.2 x2)⟩,⟨(cS (e:=aB) eL2 2 0 2 (by decide))⟩,⟨cL1⟩,⟨(aY aB x1)⟩,⟨cL0⟩]
      by_cases cL3:ltI (bA oE.1 x2) 0=true
      · rw[if_pos cL3] at h
        exact LT.next aE (hs:=⟨[(0,[]),(1,[]),(2,[]),(8,[]),(9,[]),(10,[])],[],false,[],[]⟩) (es:=none) (u1++[dt]) ([⟨cL3⟩]++w2) (by kernel_rfl) (gU x1 x2 y k (aH .i64 (conv .i64 (rA .u64 (conv .u64 (aH .i64 bX cF)) 1)) 1) cF h)
      rw[if_neg cL3] at h;replace cL3:=eqf cL3
      exact LT.next aE (hs:=⟨[(0,[]),(1,[]),(2,[]),(8,[]),(9,[]),(10,[])],[],false,[],[]⟩) (es:=none) (u1++[df]) ([⟨cL3⟩]++w2) (by kernel_rfl) (gU x1 x2 y k bX (conv .i64 (rA .u64 (conv .u64 (aH .i64 bX cF)) 1)) h)
    rw[if_neg cL1] at h;replace cL1:=eqf cL1
    cases h
  rw[if_neg cL0] at h;replace cL0:=eqf cL0
  obtain rfl:=osi h
  show LT _ _ _ _ (.st (.exit 0) (aIE x1 x2 bX))
  exact LT.done aE (hs:=⟨[],[],false,[],[]⟩) (es:=(some ⟨[(0,[]),(1,[]),(2,[]),(8,[]),(9,[])],[],false,[],[]⟩)) [df] [⟨cL0⟩] (by kernel_rfl) (fun s h=>by cases h)
theorem qR (k:Nat) (x1:aG) (x2:Int) (r:Int × Bool) (h:eA k x1 x2=some r):Tri Try.prog 51 [(.sl 2 (List.map aB x1)),(.int .u8 x2),(.fn 52 [])] [] (.tup [(.int .i64 r.1),(.bool r.2)]) []:=by
 unfold eA at h
 obtain⟨x4,e0,h⟩:=bsm h
 let u3:List Ans:=[.n x1.length,.norm 2 ⟨[(0,[]),(1,[]),(2,[]),(8,[]),(9,[]),(10,[])],[],false,[],[]⟩,.out (.st .normal (aIE x1 x2 x4))]
 let w4:List Prf:=[⟨(LT.block (gU x1 x2 _ k 0 (nI x1.length) e0))⟩,⟨(aY aB x1)⟩]
 by_cases c2:ltI x4 (nI x1.length)=true
 · rw[if_pos c2] at h
   by_cases c3:inI x4 x1.length=true
   · rw[if_pos c3] at h
     obtain⟨x5,e4,h⟩:=bsm h
     obtain rfl:=osi h
     exact Tri.of (x:=X51) aE aL9 (u3++[dt,dt,dt,dt,.n x1.length,dt,.row [(.int .u8 x5.1),(.int .i64 x5.2)],dt,dt,.call ⟨false,[]⟩ (.int .i64 (bA x5.1 x2)) [],dt,dt]) ([⟨c2⟩,⟨c2⟩,⟨(uR x5.1 x5.2 x2)⟩,⟨c2⟩,⟨c2⟩,⟨(cS (e:=aB) e4 2 0 2 (by decide))⟩,⟨c2⟩,⟨c3⟩,⟨(aY aB x1)⟩,⟨c2⟩,⟨c2⟩,⟨c2⟩,⟨c2⟩]++w4) (by kernel_rfl)
   rw[if_neg c3] at h;replace c3:=eqf c3
   cases h
 rw[if_neg c2] at h;replace c2:=eqf c2
 obtain rfl:=osi h
 exact Tri.of (x:=X51) aE aL9 (u3++[df,df,df,df,df,df,df,df,df]) ([⟨c2⟩,⟨c2⟩,⟨c2⟩,⟨c2⟩,⟨c2⟩,⟨c2⟩,⟨c2⟩,⟨c2⟩,⟨c2⟩]++w4) (by kernel_rfl)
end Go.Ws

namespace Go.Ws
open Go.Proofs
set_option linter.unusedSimpArgs false
set_option linter.unusedVariables false
set_option maxRecDepth 1000000
set_option maxHeartbeats 4000000
noncomputable def X43:Ctx:=⟨Try.f43,[],true⟩
theorem aEW (k:Nat) (x1:aG) (x2:Int) (r:Int × Bool) (h:oT k x1 x2=some r):Tri Try.prog 43 [(.sl 2 (List.map aB x1)),(.int .u8 x2)] [] (.tup [(.int .i64 r.1),(.bool r.2)]) []:=by
 unfold oT at h
 obtain⟨x3,e0,h⟩:=bsm h
 obtain rfl:=osi h
 exact Tri.of (x:=X43) aE facts43 [.call ⟨true,[]⟩ (.tup [(.int .i64 x3.1),(.bool x3.2)]) []] [⟨(qR k x1 x2 _ e0)⟩] (by kernel_rfl)
end Go.Ws

namespace Go.Ws
open Go.Proofs
set_option linter.unusedSimpArgs false
set_option linter.unusedVariables false
set_option maxRecDepth 1000000
set_option maxHeartbeats 4000000
theorem aCA (k:Nat) (x1:Int) (x2:Int) (x3:aG) (r:aG) (h:nW k x1 x2 x3=some r):Tri Try.prog 45 [(.ref 2 0 0 0 x3.length .virt),(.int .i64 x1),(.int .i64 x2)] [(.arr 2 (List.map aB x3) 0 0 false)] (.ref 2 0 1 0 r.length .full) [(.arr 2 (List.map aB r) 1 1 false)]:=aJV _ h
end Go.Ws

namespace Go.Ws
open Go.Proofs
set_option linter.unusedSimpArgs false
set_option linter.unusedVariables false
set_option maxRecDepth 1000000
set_option maxHeartbeats 4000000
theorem y5 (k:Nat) (x1:Int) (x2:aG) (x3:aG) (r:aG) (h:lC k x1 x2 x3=some r):Tri Try.prog 44 [(.ref 2 0 0 0 x2.length .virt),(.int .i64 x1),(.ref 2 1 0 0 x3.length .full)] [(.arr 2 (List.map aB x2) 0 0 false),(.arr 2 (List.map aB x3) 0 0 false)] (.ref 2 0 1 0 r.length .full) [(.arr 2 (List.map aB r) 1 1 false),(.arr 2 (List.map aB x3) 0 0 false)]:=ins_ok44 _ h rfl
end Go.Ws

namespace Go.Ws
open Go.Proofs
set_option linter.unusedSimpArgs false
set_option linter.unusedVariables false
set_option maxRecDepth 1000000
set_option maxHeartbeats 4000000
theorem zJ (k:Nat) (x1:Int) (x2:Int) (x3:aG) (r:aG) (h:lW k x1 x2 x3=some r):Tri Try.prog 45 [(.ref 2 0 1 0 x3.length .full),(.int .i64 x1),(.int .i64 x2)] [(.arr 2 (List.map aB x3) 1 1 false)] (.ref 2 0 2 0 r.length .full) [(.arr 2 (List.map aB r) 2 2 false)]:=aJV _ h
end Go.Ws

namespace Go.Ws
open Go.Proofs
set_option linter.unusedSimpArgs false
set_option linter.unusedVariables false
set_option maxRecDepth 1000000
set_option maxHeartbeats 4000000
noncomputable def X30:Ctx:=⟨Try.f30,[],true⟩
noncomputable def L30_0:Code:=at_ Try.f30 [1,1,1,1,0,1,4,5]
def S30_0 (x2:aG) (bY:Int) (aS:aG):St:=⟨mkT 67 [(0,(.ref 2 0 0 0 aS.length .virt)),(22,(.sl 2 (List.map aB x2))),(23,(.int .i64 (nI x2.length))),(24,(.int .i64 bY))],[(.arr 2 (List.map aB aS) 0 0 false)]⟩
def aHD (aKJ:aG):St:=⟨mkT 67 [(0,(.ref 2 0 0 0 aKJ.length .virt))],[(.arr 2 (List.map aB aKJ) 0 0 false)]⟩
def O30_0 (x2:aG) (y:(aG)):GX:=.st (.exit 0) (aHD y)
theorem kZ (x2:aG) (y:(aG)):∀(k:Nat) (bY:Int) (aS:aG),dV k x2 bY aS=some y→LT Try.prog X30 L30_0 (S30_0 x2 bY aS) (O30_0 x2 y)
 | 0,bY,aS,h=>by cases h
 | k+1,bY,aS,h=>by
  rw[dV] at h
  by_cases cL0:ltI bY (nI x2.length)=true
  · rw[if_pos cL0] at h
    by_cases cL1:inI bY x2.length=true
    · rw[if_pos cL1] at h
      obtain⟨bF,eL2,h⟩:=bsm h
      obtain⟨aP,eL3,h⟩:=bsm h
      let u1:List Ans:=[dt,.n x2.length,.row [(.int .u8 bF.1),(.int .i64 bF.2)],.call ⟨true,[]⟩ (.tup [(.int .i64 aP.1),(.bool aP.2)]) [],.rows (List.map aB aS)]
      let w2:List Prf:=[⟨(aEW k aS bF.1 _ eL3)⟩,⟨(cH aB (l:=aS) (n:=aS.length) rfl)⟩,⟨(eR aB (Nat.le_refl aS.length):0+aS.length≤(List.map aB aS).length)⟩,⟨(cS (e:=aB) eL2 2 0 2 (by decide))⟩,⟨cL1⟩,⟨(aY aB x2)⟩,⟨cL0⟩]
      by_cases cL4:aP.2=true
      · rw[if_pos cL4] at h
        by_cases cL5:inI aP.1 aS.length=true
        · rw[if_pos cL5] at h
          obtain⟨aQ,eL6,h⟩:=bsm h
          obtain⟨bL,eL7,h⟩:=bsm h
          let u3:List Ans:=u1++[df,.row [(.int .i64 aQ.2)],.rows (List.map aB (List.set aS (tN aP.1) (aQ.1,aH .i64 aQ.2 bF.2))),.row [(.int .i64 bL.2)]]
          let w4:List Prf:=[⟨(cS (e:=aB) eL7 2 1 1 (by decide))⟩,⟨cL5⟩,⟨(t7 (e:=aB) eL6 1 [(.int .i64 (aH .i64 aQ.2 bF.2))] (aQ.1,aH .i64 aQ.2 bF.2) rfl)⟩,⟨cL5⟩,⟨(cS (e:=aB) eL6 2 1 1 (by decide))⟩,⟨cL5⟩,⟨(nF cL4)⟩]++w2
          by_cases cL8:eqI bL.2 0=true
          · rw[if_pos cL8] at h
            obtain⟨gA,eL9,h⟩:=bsm h
            exact LT.next aE (hs:=⟨[(0,[]),(22,[]),(23,[]),(24,[])],[⟨.tmp 0,[],some 2⟩],false,[],[]⟩) (es:=none) (u3++[dt,.call ⟨false,[]⟩ (.ref 2 0 1 0 gA.length .full) [(.arr 2 (List.map aB gA) 1 1 false)],.n gA.length,.rows (List.map aB gA)]) ([⟨(eT aB (l:=gA) (n:=gA.length) rfl)⟩,⟨(rfl:gA.length=gA.length)⟩,⟨(zle gA.length)⟩,⟨(by have hh:=(aCA k aP.1 (aH .i64 aP.1 1) (List.set aS (tN aP.1) (aQ.1,aH .i64 aQ.2 bF.2)) _ eL9);simp only[List.length_set] at hh;exact hh)⟩,⟨cL8⟩]++w4) (by kernel_rfl) (kZ x2 y k (aH .i64 bY 1) gA h)
          rw[if_neg cL8] at h;replace cL8:=eqf cL8
          exact LT.next aE (hs:=⟨[(0,[]),(22,[]),(23,[]),(24,[])],[⟨.tmp 0,[],some 2⟩],false,[],[]⟩) (es:=none) (u3++[df,.n ((List.set aS (tN aP.1) (aQ.1,aH .i64 aQ.2 bF.2)).length),.rows (List.map aB (List.set aS (tN aP.1) (aQ.1,aH .i64 aQ.2 bF.2)))]) ([⟨(eT aB (l:=(List.set aS (tN aP.1) (aQ.1,aH .i64 aQ.2 bF.2))) (n:=aS.length) (by simp:aS.length=(List.set aS (tN aP.1) (aQ.1,aH .i64 aQ.2 bF.2)).length))⟩,⟨((by simp:aS.length=List.length (α:=Int × Int) (List.set aS (tN aP.1) (aQ.1,aH .i64 aQ.2 bF.2))):aS.length=(List.set aS (tN aP.1) (aQ.1,aH .i64 aQ.2 bF.2)).length)⟩,⟨(zle aS.length)⟩,⟨cL8⟩]++w4) (by kernel_rfl) (kZ x2 y k (aH .i64 bY 1) (List.set aS (tN aP.1) (aQ.1,aH .i64 aQ.2 bF.2)) h)
        rw[if_neg cL5] at h;replace cL5:=eqf cL5
        cases h
      rw[if_neg cL4] at h;replace cL4:=eqf cL4
      obtain⟨aQ,eL5,h⟩:=bsm h
      by_cases cL6:inI aP.1 aQ.length=true
      · rw[if_pos cL6] at h
        obtain⟨bL,eL7,h⟩:=bsm h
        obtain⟨gA,eL8,h⟩:=bsm h
        let u5:List Ans:=u1++[dt,.call ⟨false,[]⟩ (.ref 2 0 1 0 aQ.length .full) [(.arr 2 (List.map aB aQ) 1 1 false),(.arr 2 (List.map aB [(bF.1,0)]) 0 0 false)],.row [(.int .i64 bL.2)],.rows (List.map aB (List.set aQ (tN aP.1) (bL.1,aH .i64 bL.2 bF.2))),.row [(.int .i64 gA.2)]]
        let w6:List Prf:=[⟨(cS (e:=aB) eL8 2 1 1 (by decide))⟩,⟨cL6⟩,⟨(t7 (e:=aB) eL7 1 [(.int .i64 (aH .i64 bL.2 bF.2))] (bL.1,aH .i64 bL.2 bF.2) rfl)⟩,⟨cL6⟩,⟨(cS (e:=aB) eL7 2 1 1 (by decide))⟩,⟨cL6⟩,⟨(y5 k aP.1 aS [(bF.1,0)] _ eL5)⟩,⟨(nT cL4)⟩]++w2
        by_cases cL9:eqI gA.2 0=true
        · rw[if_pos cL9] at h
          obtain⟨kH,eL10,h⟩:=bsm h
          exact LT.next aE (hs:=⟨[(0,[]),(22,[]),(23,[]),(24,[])],[⟨.tmp 0,[],some 2⟩],false,[],[]⟩) (es:=none) (u5++[dt,.call ⟨false,[]⟩ (.ref 2 0 2 0 kH.length .full) [(.arr 2 (List.map aB kH) 2 2 false)],.n kH.length,.rows (List.map aB kH)]) ([⟨(eT aB (l:=kH) (n:=kH.length) rfl)⟩,⟨(rfl:kH.length=kH.length)⟩,⟨(zle kH.length)⟩,⟨(by have hh:=(zJ k aP.1 (aH .i64 aP.1 1) (List.set aQ (tN aP.1) (bL.1,aH .i64 bL.2 bF.2)) _ eL10);simp only[List.length_set] at hh;exact hh)⟩,⟨cL9⟩]++w6) (by kernel_rfl) (kZ x2 y k (aH .i64 bY 1) kH h)
        rw[if_neg cL9] at h;replace cL9:=eqf cL9
        exact LT.next aE (hs:=⟨[(0,[]),(22,[]),(23,[]),(24,[])],[⟨.tmp 0,[],some 2⟩],false,[],[]⟩) (es:=none) (u5++[df,.n ((List.set aQ (tN aP.1) (bL.1,aH .i64 bL.2 bF.2)).length),.rows (List.map aB (List.set aQ (tN aP.1) (bL.1,aH .i64 bL.2 bF.2)))]) ([⟨(eT aB (l:=(List.set aQ (tN aP.1) (bL.1,aH .i64 bL.2 bF.2))) (n:=aQ.length) (by simp:aQ.length=(List.set aQ (tN aP.1) (bL.1,aH .i64 bL.2 bF.2)).length))⟩,⟨((by simp:aQ.length=List.length (α:=Int × Int) (List.set aQ (tN aP.1) (bL.1,aH .i64 bL.2 bF.2))):aQ.length=(List.set aQ (tN aP.1) (bL.1,aH .i64 bL.2 bF.2)).length)⟩,⟨(zle aQ.length)⟩,⟨cL9⟩]++w6) (by kernel_rfl) (kZ x2 y k (aH .i64 bY 1) (List.set aQ (tN aP.1) (bL.1,aH .i64 bL.2 bF.2)) h)
      rw[if_neg cL6] at h;replace cL6:=eqf cL6
      cases h
    rw[if_neg cL1] at h;replace cL1:=eqf cL1
    cases h
  rw[if_neg cL0] at h;replace cL0:=eqf cL0
  obtain rfl:=osi h
  show LT _ _ _ _ (.st (.exit 0) (aHD aS))
  exact LT.done aE (hs:=⟨[],[],false,[],[]⟩) (es:=(some ⟨[(0,[])],[⟨.tmp 0,[],none⟩],false,[],[]⟩)) [df] [⟨cL0⟩] (by kernel_rfl) (fun s h=>by cases h)
theorem n9 (k:Nat) (x1:aG) (x2:aG) (r:aG × Int) (h:kN k x1 x2=some r):Tri Try.prog 30 [(.sl 2 (List.map aB x1)),(.sl 2 (List.map aB x2))] [] (.tup [(.sl 2 (List.map aB r.1)),(.int .i64 r.2)]) []:=by
 unfold kN at h
 obtain⟨x3,e0,h⟩:=bsm h
 obtain⟨x4,e1,h⟩:=bsm h
 let u7:List Ans:=[.call ⟨true,[]⟩ (.ref 2 0 0 0 x1.length .virt) [(.arr 2 (List.map aB x1) 0 0 false)],.call ⟨true,[]⟩ (.bool x4) [],.rows (List.map aB x1)]
 let w8:List Prf:=[⟨(aC6 k x1 _ e1)⟩,⟨(cH aB (l:=x1) (n:=x1.length) rfl)⟩,⟨(eR aB (Nat.le_refl x1.length):0+x1.length≤(List.map aB x1).length)⟩,⟨(zG k x1 _ e0)⟩]
 by_cases c2:x4=true
 · rw[if_pos c2] at h
   obtain⟨x5,e3,h⟩:=bsm h
   let u9:List Ans:=u7++[df,df,df,.call ⟨true,[]⟩ (.bool x5) [],df]
   let w10:List Prf:=[⟨(nF c2)⟩,⟨(tV k x2 _ e3)⟩,⟨(nF c2)⟩,⟨(nF c2)⟩,⟨(nF c2)⟩]++w8
   by_cases c4:x5=true
   · rw[if_pos c4] at h
     obtain rfl:=osi h
     exact Tri.of (x:=X30) aE aHL (u9++[dt,.rows (List.map aB x1)]) ([⟨(cH aB (l:=x1) (n:=x1.length) rfl)⟩,⟨(eR aB (Nat.le_refl x1.length):0+x1.length≤(List.map aB x1).length)⟩,⟨c4⟩]++w10) (by kernel_rfl)
   rw[if_neg c4] at h;replace c4:=eqf c4
   obtain⟨x7,e5,h⟩:=bsm h
   obtain rfl:=osi h
   exact Tri.of (x:=X30) aE aHL (u9++[df,.n x2.length,.norm 2 ⟨[(0,[]),(22,[]),(23,[]),(24,[])],[⟨.tmp 0,[],some 2⟩],false,[],[]⟩,.n x1.length,.rows (List.map aB x1),.out (.st .normal (aHD x7)),.rows (List.map aB x7)]) ([⟨(cH aB (l:=x7) (n:=x7.length) rfl)⟩,⟨(eR aB (Nat.le_refl x7.length):0+x7.length≤(List.map aB x7).length)⟩,⟨(LT.block (kZ x2 _ k 0 x1 e5))⟩,⟨(eT aB (l:=x1) (n:=x1.length) rfl)⟩,⟨(rfl:x1.length=x1.length)⟩,⟨(zle x1.length)⟩,⟨(aY aB x2)⟩,⟨c4⟩]++w10) (by kernel_rfl)
 rw[if_neg c2] at h;replace c2:=eqf c2
 obtain rfl:=osi h
 exact Tri.of (x:=X30) aE aHL (u7++[dt,dt,dt,dt,dt,.rows (List.map aB x1)]) ([⟨(cH aB (l:=x1) (n:=x1.length) rfl)⟩,⟨(eR aB (Nat.le_refl x1.length):0+x1.length≤(List.map aB x1).length)⟩,⟨rT⟩,⟨(nT c2)⟩,⟨(nT c2)⟩,⟨(nT c2)⟩,⟨(nT c2)⟩]++w8) (by kernel_rfl)
end Go.Ws

namespace Go.Ws
open Go.Proofs
set_option linter.unusedSimpArgs false
set_option linter.unusedVariables false
set_option maxRecDepth 1000000
set_option maxHeartbeats 4000000
noncomputable def X78 (x4:Int):Ctx:=⟨Try.f78,[(.row [(.int .i64 x4)])],false⟩
theorem xJ (x1:Int) (x2:Int) (x3:Bool) (x4:Int):Tri Try.prog 78 [(.agg [(.int .u8 x1),(.int .i64 x2),(.bool x3)]),(.hp 0 0)] [(.row [(.int .i64 x4)])] (.bool (eqI x2 x4)) [(.row [(.int .i64 x4)])]:=by
 obtain⟨r,h⟩:∃r,wI x1 x2 x3 x4=r:=⟨_,rfl⟩
 try rw[h]
 unfold wI at h
 obtain rfl:=h
 exact Tri.of (x:=(X78 x4)) aE facts78 [.norm 0 ⟨[(3,[])],[],false,[],[]⟩] [] (by kernel_rfl)
end Go.Ws

namespace Go.Ws
open Go.Proofs
set_option linter.unusedSimpArgs false
set_option linter.unusedVariables false
set_option maxRecDepth 1000000
set_option maxHeartbeats 4000000
noncomputable def X92 (x1:Ty8) (x2:Int):Ctx:=⟨Try.f92,[(.arr 3 (List.map aC x1) 0 0 false),(.row [(.int .i64 x2)])],false⟩
noncomputable def L92_0:Code:=at_ Try.f92 [1,0,1,4,5]
def S92_0 (x1:Ty8) (x2:Int) (cO:Int):St:=⟨mkT 19 [(0,(.ref 3 0 0 0 x1.length .virt)),(1,(.fn 78 [(.hp 1 0)])),(7,(.int .i64 (nI x1.length))),(8,(.int .i64 cO))],[(.arr 3 (List.map aC x1) 0 0 false),(.row [(.int .i64 x2)])]⟩
def aH4 (x1:Ty8) (x2:Int):St:=⟨mkT 19 [],[(.arr 3 (List.map aC x1) 0 0 false),(.row [(.int .i64 x2)])]⟩
def O92_0 (x1:Ty8) (x2:Int) (y:(Sum (Unit) (Int))):GX:=match y with
 | .inl y=>.st (.exit 0) (aH4 x1 x2)
 | .inr y=>.fin (.int .i64 y) [(.arr 3 (List.map aC x1) 0 0 false),(.row [(.int .i64 x2)])]
theorem jT (x1:Ty8) (x2:Int) (y:(Sum (Unit) (Int))):∀(k:Nat) (cO:Int),bN k x1 x2 cO=some y→LT Try.prog (X92 x1 x2) L92_0 (S92_0 x1 x2 cO) (O92_0 x1 x2 y)
 | 0,cO,h=>by cases h
 | k+1,cO,h=>by
  rw[bN] at h
  by_cases cL0:ltI cO (nI x1.length)=true
  · rw[if_pos cL0] at h
    by_cases cL1:inI cO x1.length=true
    · rw[if_pos cL1] at h
      obtain⟨l9,eL2,h⟩:=bsm h
      let u1:List Ans:=[dt,.row [(.int .u8 l9.1),(.int .i64 l9.2.1),(.bool l9.2.2)],.call ⟨false,[]⟩ (.bool (eqI l9.2.1 x2)) [(.row [(.int .i64 x2)])]]
      let w2:List Prf:=[⟨(xJ l9.1 l9.2.1 l9.2.2 x2)⟩,⟨(cS (e:=aC) eL2 3 0 3 (by decide))⟩,⟨cL1⟩,⟨cL0⟩]
      by_cases cL3:eqI l9.2.1 x2=true
      · rw[if_pos cL3] at h
        obtain rfl:=osi h
        show LT _ _ _ _ (.fin (.int .i64 cO) [(.arr 3 (List.map aC x1) 0 0 false),(.row [(.int .i64 x2)])])
        exact LT.done aE (hs:=⟨[],[],false,[],[]⟩) (es:=none) (u1++[dt,.norm 0 ⟨[(4,[])],[],false,[],[]⟩]) ([⟨cL3⟩]++w2) (by kernel_rfl) (fun s h=>by cases h)
      rw[if_neg cL3] at h;replace cL3:=eqf cL3
      exact LT.next aE (hs:=⟨[(0,[]),(1,[]),(7,[]),(8,[])],[],false,[],[]⟩) (es:=none) (u1++[df]) ([⟨cL3⟩]++w2) (by kernel_rfl) (jT x1 x2 y k (aH .i64 cO 1) h)
    rw[if_neg cL1] at h;replace cL1:=eqf cL1
    cases h
  rw[if_neg cL0] at h;replace cL0:=eqf cL0
  obtain rfl:=osi h
  show LT _ _ _ _ (.st (.exit 0) (aH4 x1 x2))
  exact LT.done aE (hs:=⟨[],[],false,[],[]⟩) (es:=(some ⟨[],[],false,[],[]⟩)) [df] [⟨cL0⟩] (by kernel_rfl) (fun s h=>by cases h)
theorem v6 (k:Nat) (x1:Ty8) (x2:Int) (r:Int) (h:g5 k x1 x2=some r):Tri Try.prog 92 [(.ref 3 0 0 0 x1.length .virt),(.fn 78 [(.hp 1 0)])] [(.arr 3 (List.map aC x1) 0 0 false),(.row [(.int .i64 x2)])] (.int .i64 r) [(.arr 3 (List.map aC x1) 0 0 false),(.row [(.int .i64 x2)])]:=by
 unfold g5 at h
 obtain⟨x3,e0,h⟩:=bsm h
 cases x3 with
 | inl x4 =>
  simp only[Sum.elim_inl] at h
  obtain rfl:=osi h
  exact Tri.of (x:=(X92 x1 x2)) aE aME [.norm 2 ⟨[(0,[]),(1,[]),(7,[]),(8,[])],[],false,[],[]⟩,.out (.st .normal (aH4 x1 x2)),.norm 0 ⟨[(4,[])],[],false,[],[]⟩] [⟨(LT.block (jT x1 x2 _ k 0 e0))⟩] (by kernel_rfl)
 | inr x4 =>
  simp only[Sum.elim_inr] at h
  obtain rfl:=osi h
  exact Tri.of (x:=(X92 x1 x2)) aE aME [.norm 2 ⟨[(0,[]),(1,[]),(7,[]),(8,[])],[],false,[],[]⟩,.out (.fin (.int .i64 x4) [(.arr 3 (List.map aC x1) 0 0 false),(.row [(.int .i64 x2)])])] [⟨(LT.blockFin (id:=0) (jT x1 x2 _ k 0 e0))⟩] (by kernel_rfl)
end Go.Ws

namespace Go.Ws
open Go.Proofs
set_option linter.unusedSimpArgs false
set_option linter.unusedVariables false
set_option maxRecDepth 1000000
set_option maxHeartbeats 4000000
noncomputable def X77 (x1:Ty8) (x2:Int):Ctx:=⟨Try.f77,[(.arr 3 (List.map aC x1) 0 0 false),(.row [(.int .i64 x2)])],false⟩
noncomputable def L77_0:Code:=at_ Try.f77 [1,1,1,0,1,4,5]
def S77_0 (x1:Ty8) (x2:Int) (cP:Int) (b9:Int) (cQ:Ty8):St:=⟨mkT 42 [(0,(.ref 3 0 0 0 x1.length .virt)),(1,(.fn 78 [(.hp 1 0)])),(5,(.int .i64 b9)),(6,(.int .i64 cP))],[(.arr 3 (List.map aC cQ) 0 0 false),(.row [(.int .i64 x2)])]⟩
def aHF (x1:Ty8) (x2:Int) (v77002_1:Int) (v77002_2:Ty8):St:=⟨mkT 42 [(0,(.ref 3 0 0 0 x1.length .virt)),(5,(.int .i64 v77002_1))],[(.arr 3 (List.map aC v77002_2) 0 0 false),(.row [(.int .i64 x2)])]⟩
def O77_0 (x1:Ty8) (x2:Int) (y:(Int × Ty8)):GX:=.st (.exit 0) (aHF x1 x2 y.1 y.2)
theorem lD (x1:Ty8) (x2:Int) (y:(Int × Ty8)):∀(k:Nat) (cP:Int) (b9:Int) (cQ:Ty8),bU k x1 x2 cP b9 cQ=some y→LT Try.prog (X77 x1 x2) L77_0 (S77_0 x1 x2 cP b9 cQ) (O77_0 x1 x2 y)
 | 0,cP,b9,cQ,h=>by cases h
 | k+1,cP,b9,cQ,h=>by
  rw[bU] at h
  by_cases cL0:ltI cP (nI x1.length)=true
  · rw[if_pos cL0] at h
    by_cases cL1:inI cP x1.length=true
    · rw[if_pos cL1] at h
      obtain⟨gL,eL2,h⟩:=bsm h
      let u1:List Ans:=[dt,.row [(.int .u8 gL.1),(.int .i64 gL.2.1),(.bool gL.2.2)],.call ⟨false,[]⟩ (.bool (eqI gL.2.1 x2)) [(.row [(.int .i64 x2)])]]
      let w2:List Prf:=[⟨(xJ gL.1 gL.2.1 gL.2.2 x2)⟩,⟨(cS (e:=aC) eL2 3 0 3 (by decide))⟩,⟨cL1⟩,⟨cL0⟩]
      by_cases cL3:eqI gL.2.1 x2=true
      · rw[if_pos cL3] at h
        exact LT.next aE (hs:=⟨[(0,[]),(1,[]),(5,[]),(6,[])],[],false,[],[]⟩) (es:=none) (u1++[df]) ([⟨(nF cL3)⟩]++w2) (by kernel_rfl) (lD x1 x2 y k (aH .i64 cP 1) b9 cQ h)
      rw[if_neg cL3] at h;replace cL3:=eqf cL3
      by_cases cL4:inI b9 x1.length=true
      · rw[if_pos cL4] at h
        obtain⟨aKI,eL5,h⟩:=bsm h
        exact LT.next aE (hs:=⟨[(0,[]),(1,[]),(5,[]),(6,[])],[],false,[],[]⟩) (es:=none) (u1++[dt,.rows (List.map aC (List.set cQ (tN b9) gL))]) ([⟨(t7 (e:=aC) eL5 0 [(.int .u8 gL.1),(.int .i64 gL.2.1),(.bool gL.2.2)] gL rfl)⟩,⟨cL4⟩,⟨(nT cL3)⟩]++w2) (by kernel_rfl) (lD x1 x2 y k (aH .i64 cP 1) (aH .i64 b9 1) (List.set cQ (tN b9) gL) h)
      rw[if_neg cL4] at h;replace cL4:=eqf cL4
      cases h
    rw[if_neg cL1] at h;replace cL1:=eqf cL1
    cases h
  rw[if_neg cL0] at h;replace cL0:=eqf cL0
  obtain rfl:=osi h
  show LT _ _ _ _ (.st (.exit 0) (aHF x1 x2 b9 cQ))
  exact LT.done aE (hs:=⟨[],[],false,[],[]⟩) (es:=(some ⟨[(0,[]),(5,[])],[],false,[],[]⟩)) [df] [⟨cL0⟩] (by kernel_rfl) (fun s h=>by cases h)
theorem xH (k:Nat) (x1:Ty8) (x2:Int) (r:Nat × Ty8) (h:iU k x1 x2=some r):Tri Try.prog 77 [(.ref 3 0 0 0 x1.length .virt),(.fn 78 [(.hp 1 0)])] [(.arr 3 (List.map aC x1) 0 0 false),(.row [(.int .i64 x2)])] (.ref 3 0 0 0 r.1 .virt) [(.arr 3 (List.map aC r.2) 0 0 false),(.row [(.int .i64 x2)])]:=by
 unfold iU at h
 obtain⟨x3,e0,h⟩:=bsm h
 let w4:List Prf:=[⟨(v6 k x1 x2 _ e0)⟩]
 by_cases c1:eqI x3 (-1)=true
 · rw[if_pos c1] at h
   obtain rfl:=osi h
   exact Tri.of (x:=(X77 x1 x2)) aE aH3 [.call ⟨false,[]⟩ (.int .i64 x3) [(.arr 3 (List.map aC x1) 0 0 false),(.row [(.int .i64 x2)])],dt,.norm 0 ⟨[(4,[])],[],false,[],[]⟩] ([⟨c1⟩]++w4) (by kernel_rfl)
 rw[if_neg c1] at h;replace c1:=eqf c1
 obtain⟨x5,e2,h⟩:=bsm h
 by_cases c4:isZ x1.length=true
 · rw[if_pos c4] at h
   cases h
 rw[if_neg c4] at h;replace c4:=eqf c4
 by_cases c5:rC x1.length x5.2.length=true
 · rw[if_pos c5] at h
   by_cases c6:leI x5.1 x1.length=true
   · rw[if_pos c6] at h
     let u5:List Ans:=[.call ⟨false,[]⟩ (.int .i64 x3) [(.arr 3 (List.map aC x1) 0 0 false),(.row [(.int .i64 x2)])],df,.norm 2 ⟨[(0,[]),(1,[]),(5,[]),(6,[])],[],false,[],[]⟩,.out (.st .normal (aHF x1 x2 x5.1 x5.2)),df,.n x5.2.length,.n x5.2.length,.n (tN x5.1),.n (x1.length - (tN x5.1))]
     let w6:List Prf:=[⟨(rfl:x1.length - (tN x5.1)=x1.length - (tN x5.1))⟩,⟨((Nat.zero_add _):0+(tN x5.1)=tN x5.1)⟩,⟨c6⟩,⟨(rfl:x5.2.length - 0=x5.2.length)⟩,⟨(aIJ ((aDT c5):x1.length≤x5.2.length))⟩,⟨(aY aC x5.2)⟩,⟨c4⟩,⟨(LT.block (lD x1 x2 _ k (aH .i64 x3 1) x3 x1 e2))⟩,⟨c1⟩]++w4
     by_cases c7:isZ (x1.length - (tN x5.1))=true
     · rw[if_pos c7] at h
       by_cases c8:leI x5.1 x5.2.length=true
       · rw[if_pos c8] at h
         obtain rfl:=osi h
         exact Tri.of (x:=(X77 x1 x2)) aE aH3 (u5++[dt,df,.n x5.2.length,.n x5.2.length,.n 0,.n (tN x5.1),.norm 0 ⟨[(4,[])],[],false,[],[]⟩]) ([⟨(rfl:(tN x5.1) - 0=tN x5.1)⟩,⟨((Nat.zero_add _):0+0=0)⟩,⟨c8⟩,⟨(rfl:x5.2.length - 0=x5.2.length)⟩,⟨(aIJ ((aDT c5):x1.length≤x5.2.length))⟩,⟨(aY aC x5.2)⟩,⟨c4⟩,⟨c7⟩]++w6) (by kernel_rfl)
       rw[if_neg c8] at h;replace c8:=eqf c8
       cases h
     rw[if_neg c7] at h;replace c7:=eqf c7
     by_cases c8:rC (tN x5.1+(x1.length - (tN x5.1))) x5.2.length=true
     · rw[if_pos c8] at h
       by_cases c9:rC (tN x5.1) x5.2.length=true
       · rw[if_pos c9] at h
         by_cases c10:rC x1.length ((((List.take (tN x5.1) x5.2)++(List.replicate (x1.length - (tN x5.1)) (0,0,false)))++(List.drop (tN x5.1+(x1.length - (tN x5.1))) x5.2)).length)=true
         · rw[if_pos c10] at h
           by_cases c11:leI x5.1 ((((List.take (tN x5.1) x5.2)++(List.replicate (x1.length - (tN x5.1)) (0,0,false)))++(List.drop (tN x5.1+(x1.length - (tN x5.1))) x5.2)).length)=true
           · rw[if_pos c11] at h
             obtain rfl:=osi h
             exact Tri.of (x:=(X77 x1 x2)) aE aH3 (u5++[df,.rows (List.map aC (((List.take (tN x5.1) x5.2)++(List.replicate (x1.length - (tN x5.1)) (0,0,false)))++(List.drop (tN x5.1+(x1.length - (tN x5.1))) x5.2))),df,.n ((((List.take (tN x5.1) x5.2)++(List.replicate (x1.length - (tN x5.1)) (0,0,false)))++(List.drop (tN x5.1+(x1.length - (tN x5.1))) x5.2)).length),.n ((((List.take (tN x5.1) x5.2)++(List.replicate (x1.length - (tN x5.1)) (0,0,false)))++(List.drop (tN x5.1+(x1.length - (tN x5.1))) x5.2)).length),.n 0,.n (tN x5.1),.norm 0 ⟨[(4,[])],[],false,[],[]⟩]) ([⟨(rfl:(tN x5.1) - 0=tN x5.1)⟩,⟨((Nat.zero_add _):0+0=0)⟩,⟨c11⟩,⟨(rfl:((((List.take (tN x5.1) x5.2)++(List.replicate (x1.length - (tN x5.1)) (0,0,false)))++(List.drop (tN x5.1+(x1.length - (tN x5.1))) x5.2)).length) - 0=(((List.take (tN x5.1) x5.2)++(List.replicate (x1.length - (tN x5.1)) (0,0,false)))++(List.drop (tN x5.1+(x1.length - (tN x5.1))) x5.2)).length)⟩,⟨(aIJ ((aDT c10):x1.length≤(((List.take (tN x5.1) x5.2)++(List.replicate (x1.length - (tN x5.1)) (0,0,false)))++(List.drop (tN x5.1+(x1.length - (tN x5.1))) x5.2)).length))⟩,⟨(aY aC (((List.take (tN x5.1) x5.2)++(List.replicate (x1.length - (tN x5.1)) (0,0,false)))++(List.drop (tN x5.1+(x1.length - (tN x5.1))) x5.2)))⟩,⟨c4⟩,⟨(aN7 aC x5.2 (tN x5.1) (x1.length - (tN x5.1)) (0,0,false))⟩,⟨(le_mapI aC (aDT c8))⟩,⟨c7⟩]++w6) (by kernel_rfl)
           rw[if_neg c11] at h;replace c11:=eqf c11
           cases h
         rw[if_neg c10] at h;replace c10:=eqf c10
         cases h
       rw[if_neg c9] at h;replace c9:=eqf c9
       cases h
     rw[if_neg c8] at h;replace c8:=eqf c8
     cases h
   rw[if_neg c6] at h;replace c6:=eqf c6
   cases h
 rw[if_neg c5] at h;replace c5:=eqf c5
 cases h
end Go.Ws

namespace Go.Ws
open Go.Proofs
set_option linter.unusedSimpArgs false
set_option linter.unusedVariables false
set_option maxRecDepth 1000000
set_option maxHeartbeats 4000000
noncomputable def X61:Ctx:=⟨Try.f61,[],true⟩
theorem rR (k:Nat) (x1:Ty8) (x2:Int) (r:Ty8) (h:nC k x1 x2=some r):Tri Try.prog 61 [(.sl 3 (List.map aC x1)),(.int .i64 x2)] [] (.sl 3 (List.map aC r)) []:=by
 unfold nC at h
 obtain⟨x3,e0,h⟩:=bsm h
 obtain⟨x4,e1,h⟩:=bsm h
 by_cases c2:rC x4.1 x4.2.length=true
 · rw[if_pos c2] at h
   obtain rfl:=osi h
   exact Tri.of (x:=X61) aE facts61 [.call ⟨true,[]⟩ (.ref 3 0 0 0 x1.length .virt) [(.arr 3 (List.map aC x1) 0 0 false)],.call ⟨false,[]⟩ (.ref 3 0 0 0 x4.1 .virt) [(.arr 3 (List.map aC x4.2) 0 0 false),(.row [(.int .i64 x2)])],.rows (List.map aC (List.take x4.1 x4.2))] [⟨(aOH aC x4.2 x4.1)⟩,⟨(eR aC (aDT c2))⟩,⟨(xH k x1 x2 _ e1)⟩,⟨(wA k x1 _ e0)⟩] (by kernel_rfl)
 rw[if_neg c2] at h;replace c2:=eqf c2
 cases h
end Go.Ws

namespace Go.Ws
open Go.Proofs
set_option linter.unusedSimpArgs false
set_option linter.unusedVariables false
set_option maxRecDepth 1000000
set_option maxHeartbeats 4000000
noncomputable def X59:Ctx:=⟨Try.f59,[],true⟩
def A59_0:Ans:=.norm 0 ⟨[(2,[]),(3,[(0,2)]),(4,[])],[⟨.tmp 2,[],none⟩],false,[],[]⟩
theorem aFM (k:Nat) (x1:Int) (x2:aG) (x3:Bool) (x4:Int) (r:Int × aG × Bool × Int × aG × Int) (h:qC k x1 x2 x3 x4=some r):Tri Try.prog 59 [(.agg [(.int .i64 x1),(.sl 2 (List.map aB x2)),(.bool x3),(.int .i64 x4)])] [] (.tup [(.agg [(.int .i64 r.1),(.sl 2 (List.map aB r.2.1)),(.bool r.2.2.1),(.int .i64 r.2.2.2.1)]),(.sl 2 (List.map aB r.2.2.2.2.1)),(.int .i64 r.2.2.2.2.2)]) []:=by
 unfold qC at h
 obtain⟨x5,e0,h⟩:=bsm h
 obtain⟨x6,e1,h⟩:=bsm h
 let u1:List Ans:=[.call ⟨true,[]⟩ (.agg [(.int .i64 x5.1),(.sl 2 (List.map aB x5.2.1)),(.bool x5.2.2.1),(.int .i64 x5.2.2.2)]) [],.call ⟨true,[]⟩ (.bool x6) []]
 let w2:List Prf:=[⟨(qI k x5.1 x5.2.1 x5.2.2.1 x5.2.2.2 _ e1)⟩,⟨(oM k x1 x2 x3 x4 _ e0)⟩]
 by_cases c2:x6=true
 · rw[if_pos c2] at h
   by_cases c3:eqI x5.1 1=true
   · rw[if_pos c3] at h
     by_cases c4:x5.2.2.1=true
     · rw[if_pos c4] at h
       obtain rfl:=osi h
       exact Tri.of (x:=X59) aE aDB (u1++[df,df,dt,A59_0]) ([⟨c4⟩,⟨(nF c3)⟩,⟨(nF c2)⟩]++w2) (by kernel_rfl)
     rw[if_neg c4] at h;replace c4:=eqf c4
     obtain⟨x7,e5,h⟩:=bsm h
     obtain rfl:=osi h
     exact Tri.of (x:=X59) aE aDB (u1++[df,df,df,.call ⟨true,[]⟩ (.ref 2 0 0 0 x5.2.1.length .virt) [(.arr 2 (List.map aB x5.2.1) 0 0 false)],.rows (List.map aB x5.2.1)]) ([⟨(cH aB (l:=x5.2.1) (n:=x5.2.1.length) rfl)⟩,⟨(eR aB (Nat.le_refl x5.2.1.length):0+x5.2.1.length≤(List.map aB x5.2.1).length)⟩,⟨(jO k x5.2.1 _ e5)⟩,⟨c4⟩,⟨(nF c3)⟩,⟨(nF c2)⟩]++w2) (by kernel_rfl)
   rw[if_neg c3] at h;replace c3:=eqf c3
   obtain rfl:=osi h
   exact Tri.of (x:=X59) aE aDB (u1++[df,dt,A59_0]) ([⟨(nT c3)⟩,⟨(nF c2)⟩]++w2) (by kernel_rfl)
 rw[if_neg c2] at h;replace c2:=eqf c2
 obtain rfl:=osi h
 exact Tri.of (x:=X59) aE aDB (u1++[dt,A59_0]) ([⟨(nT c2)⟩]++w2) (by kernel_rfl)
end Go.Ws

namespace Go.Ws
open Go.Proofs
set_option linter.unusedSimpArgs false
set_option linter.unusedVariables false
set_option maxRecDepth 1000000
set_option maxHeartbeats 4000000
theorem tP (k:Nat) (x1:aG) (r:aG) (h:lE k x1=some r):Tri Try.prog 76 [(.sl 2 (List.map aB x1))] [] (.ref 2 0 0 0 r.length .virt) [(.arr 2 (List.map aB r) 0 0 false)]:=opp_tri h
end Go.Ws

namespace Go.Ws
open Go.Proofs
set_option linter.unusedSimpArgs false
set_option linter.unusedVariables false
set_option maxRecDepth 1000000
set_option maxHeartbeats 4000000
noncomputable def X60:Ctx:=⟨Try.f60,[],true⟩
def aBD:Ans:=.norm 0 ⟨[(4,[]),(5,[(0,2)]),(6,[])],[⟨.tmp 4,[],none⟩],false,[],[]⟩
theorem xE (k:Nat) (x1:Int) (x2:aG) (x3:Bool) (x4:Int) (x5:Int) (r:Int × aG × Bool × Int × aG × Int) (h:mP k x1 x2 x3 x4 x5=some r):Tri Try.prog 60 [(.agg [(.int .i64 x1),(.sl 2 (List.map aB x2)),(.bool x3),(.int .i64 x4)]),(.int .i64 x5)] [] (.tup [(.agg [(.int .i64 r.1),(.sl 2 (List.map aB r.2.1)),(.bool r.2.2.1),(.int .i64 r.2.2.2.1)]),(.sl 2 (List.map aB r.2.2.2.2.1)),(.int .i64 r.2.2.2.2.2)]) []:=by
 unfold mP at h
 obtain⟨x6,e0,h⟩:=bsm h
 obtain⟨x7,e1,h⟩:=bsm h
 let u1:List Ans:=[.call ⟨true,[]⟩ (.agg [(.int .i64 x6.1),(.sl 2 (List.map aB x6.2.1)),(.bool x6.2.2.1),(.int .i64 x6.2.2.2)]) [],.call ⟨true,[]⟩ (.bool x7) []]
 let w2:List Prf:=[⟨(qI k x6.1 x6.2.1 x6.2.2.1 x6.2.2.2 _ e1)⟩,⟨(oM k x1 x2 x3 x4 _ e0)⟩]
 by_cases c2:x7=true
 · rw[if_pos c2] at h
   let w4:List Prf:=[⟨(nF c2)⟩,⟨(nF c2)⟩,⟨(nF c2)⟩]++w2
   by_cases c3:eqI x5 1=true
   · rw[if_pos c3] at h
     let u5:List Ans:=u1++[df,df,df,df,df,df,df,df,df]
     let w6:List Prf:=[⟨rF⟩,⟨(nF c2)⟩,⟨(nF c3)⟩,⟨(nF c2)⟩,⟨(nF c3)⟩,⟨(nF c3)⟩]++w4
     by_cases c4:eqI x6.2.2.2 x5=true
     · rw[if_pos c4] at h
       obtain rfl:=osi h
       exact Tri.of (x:=X60) aE nE (u5++[dt,aBD]) ([⟨c4⟩]++w6) (by kernel_rfl)
     rw[if_neg c4] at h;replace c4:=eqf c4
     by_cases c5:eqI x6.1 3=true
     · rw[if_pos c5] at h
       obtain rfl:=osi h
       exact Tri.of (x:=X60) aE nE (u5++[df,dt,dt,dt,dt,dt,dt,aBD]) ([⟨rT⟩,⟨c5⟩,⟨c5⟩,⟨c5⟩,⟨c5⟩,⟨c5⟩,⟨c4⟩]++w6) (by kernel_rfl)
     rw[if_neg c5] at h;replace c5:=eqf c5
     let u9:List Ans:=u5++[df,df,df,df,dt,dt,dt,df,dt,df]
     let w10:List Prf:=[⟨c5⟩,⟨c3⟩,⟨c5⟩,⟨c3⟩,⟨c3⟩,⟨c3⟩,⟨c5⟩,⟨c5⟩,⟨c5⟩,⟨c4⟩]++w6
     by_cases c6:eqI x6.1 1=true
     · rw[if_pos c6] at h
       by_cases c7:eqB (eqI x5 1) x6.2.2.1=true
       · rw[if_pos c7] at h
         obtain rfl:=osi h
         exact Tri.of (x:=X60) aE nE (u9++[df,dt,aBD]) ([⟨c7⟩,⟨(nF c6)⟩]++w10) (by kernel_rfl)
       rw[if_neg c7] at h;replace c7:=eqf c7
       by_cases c8:x6.2.2.1=true
       · rw[if_pos c8] at h
         obtain⟨x8,e9,h⟩:=bsm h
         obtain rfl:=osi h
         exact Tri.of (x:=X60) aE nE (u9++[df,df,dt,.call ⟨true,[]⟩ (.ref 2 0 0 0 x8.length .virt) [(.arr 2 (List.map aB x8) 0 0 false)],.rows (List.map aB x8)]) ([⟨(cH aB (l:=x8) (n:=x8.length) rfl)⟩,⟨(eR aB (Nat.le_refl x8.length):0+x8.length≤(List.map aB x8).length)⟩,⟨(tP k x6.2.1 _ e9)⟩,⟨c8⟩,⟨c7⟩,⟨(nF c6)⟩]++w10) (by kernel_rfl)
       rw[if_neg c8] at h;replace c8:=eqf c8
       obtain⟨x8,e9,h⟩:=bsm h
       obtain rfl:=osi h
       exact Tri.of (x:=X60) aE nE (u9++[df,df,df,.call ⟨true,[]⟩ (.ref 2 0 0 0 x6.2.1.length .virt) [(.arr 2 (List.map aB x6.2.1) 0 0 false)],.rows (List.map aB x6.2.1)]) ([⟨(cH aB (l:=x6.2.1) (n:=x6.2.1.length) rfl)⟩,⟨(eR aB (Nat.le_refl x6.2.1.length):0+x6.2.1.length≤(List.map aB x6.2.1).length)⟩,⟨(jO k x6.2.1 _ e9)⟩,⟨c8⟩,⟨c7⟩,⟨(nF c6)⟩]++w10) (by kernel_rfl)
     rw[if_neg c6] at h;replace c6:=eqf c6
     obtain rfl:=osi h
     exact Tri.of (x:=X60) aE nE (u9++[dt,aBD]) ([⟨(nT c6)⟩]++w10) (by kernel_rfl)
   rw[if_neg c3] at h;replace c3:=eqf c3
   let u15:List Ans:=u1++[df,df,df,dt,dt,df,dt,df]
   let w16:List Prf:=[⟨(nF c2)⟩,⟨(nT c3)⟩,⟨(nF c2)⟩,⟨(nT c3)⟩,⟨(nT c3)⟩]++w4
   by_cases c4:eqI x5 2=true
   · rw[if_pos c4] at h
     by_cases c5:eqI x6.2.2.2 x5=true
     · rw[if_pos c5] at h
       obtain rfl:=osi h
       exact Tri.of (x:=X60) aE nE (u15++[df,dt,aBD]) ([⟨c5⟩,⟨(nF c4)⟩]++w16) (by kernel_rfl)
     rw[if_neg c5] at h;replace c5:=eqf c5
     by_cases c6:eqI x6.1 3=true
     · rw[if_pos c6] at h
       obtain rfl:=osi h
       exact Tri.of (x:=X60) aE nE (u15++[df,df,dt,dt,dt,dt,dt,dt,aBD]) ([⟨rT⟩,⟨c6⟩,⟨c6⟩,⟨c6⟩,⟨c6⟩,⟨c6⟩,⟨c5⟩,⟨(nF c4)⟩]++w16) (by kernel_rfl)
     rw[if_neg c6] at h;replace c6:=eqf c6
     let u21:List Ans:=u15++[df,df,df,df,df,df,df,df,df,df,df,df]
     let w22:List Prf:=[⟨rF⟩,⟨c6⟩,⟨c3⟩,⟨c6⟩,⟨c3⟩,⟨c3⟩,⟨c3⟩,⟨c6⟩,⟨c6⟩,⟨c6⟩,⟨c5⟩,⟨(nF c4)⟩]++w16
     by_cases c7:eqB (eqI x5 1) x6.2.2.1=true
     · rw[if_pos c7] at h
       obtain rfl:=osi h
       exact Tri.of (x:=X60) aE nE (u21++[dt,aBD]) ([⟨c7⟩]++w22) (by kernel_rfl)
     rw[if_neg c7] at h;replace c7:=eqf c7
     by_cases c8:x6.2.2.1=true
     · rw[if_pos c8] at h
       obtain⟨x8,e9,h⟩:=bsm h
       obtain rfl:=osi h
       exact Tri.of (x:=X60) aE nE (u21++[df,dt,.call ⟨true,[]⟩ (.ref 2 0 0 0 x8.length .virt) [(.arr 2 (List.map aB x8) 0 0 false)],.rows (List.map aB x8)]) ([⟨(cH aB (l:=x8) (n:=x8.length) rfl)⟩,⟨(eR aB (Nat.le_refl x8.length):0+x8.length≤(List.map aB x8).length)⟩,⟨(tP k x6.2.1 _ e9)⟩,⟨c8⟩,⟨c7⟩]++w22) (by kernel_rfl)
     rw[if_neg c8] at h;replace c8:=eqf c8
     obtain⟨x8,e9,h⟩:=bsm h
     obtain rfl:=osi h
     exact Tri.of (x:=X60) aE nE (u21++[df,df,.call ⟨true,[]⟩ (.ref 2 0 0 0 x6.2.1.length .virt) [(.arr 2 (List.map aB x6.2.1) 0 0 false)],.rows (List.map aB x6.2.1)]) ([⟨(cH aB (l:=x6.2.1) (n:=x6.2.1.length) rfl)⟩,⟨(eR aB (Nat.le_refl x6.2.1.length):0+x6.2.1.length≤(List.map aB x6.2.1).length)⟩,⟨(jO k x6.2.1 _ e9)⟩,⟨c8⟩,⟨c7⟩]++w22) (by kernel_rfl)
   rw[if_neg c4] at h;replace c4:=eqf c4
   obtain rfl:=osi h
   exact Tri.of (x:=X60) aE nE (u15++[dt,aBD]) ([⟨(nT c4)⟩]++w16) (by kernel_rfl)
 rw[if_neg c2] at h;replace c2:=eqf c2
 obtain rfl:=osi h
 exact Tri.of (x:=X60) aE nE (u1++[dt,dt,dt,dt,dt,dt,aBD]) ([⟨rT⟩,⟨(nT c2)⟩,⟨(nT c2)⟩,⟨(nT c2)⟩,⟨(nT c2)⟩,⟨(nT c2)⟩]++w2) (by kernel_rfl)
end Go.Ws

namespace Go.Ws
open Go.Proofs
set_option linter.unusedSimpArgs false
set_option linter.unusedVariables false
set_option maxRecDepth 1000000
set_option maxHeartbeats 4000000
noncomputable def X33_3 (x1:aG) (x2:Ty8) (x3:Ty2) (x4:Ty7):Ctx:=⟨Try.f33,[(.row [(.sl 2 (List.map aB x1)),(.sl 3 (List.map aC x2)),(.mp 1),(.ref 4 2 0 0 x4.length .virt)]),(.map (b8 .i64 (fun y=>AV.agg (aD y)) x3) x3.length),(.arr 4 (List.map aA x4) 0 0 false)],false⟩
theorem rP (x1:aG) (x2:Ty8) (x3:Ty2) (x4:Ty7):Tri Try.prog 33 [(.hp 0 0)] [(.row [(.sl 2 (List.map aB x1)),(.sl 3 (List.map aC x2)),(.mp 1),(.ref 4 2 0 0 x4.length .virt)]),(.map (b8 .i64 (fun y=>AV.agg (aD y)) x3) x3.length),(.arr 4 (List.map aA x4) 0 0 false)] (.bool (!false)) [(.row [(.sl 2 (List.map aB x1)),(.sl 3 (List.map aC x2)),(.mp 1),(.ref 4 2 0 0 x4.length .virt)]),(.map (b8 .i64 (fun y=>AV.agg (aD y)) x3) x3.length),(.arr 4 (List.map aA x4) 0 0 false)]:=by
 obtain⟨r,h⟩:∃r,p9 x1 x2 x3 x4=r:=⟨_,rfl⟩
 try rw[h]
 unfold p9 at h
 obtain rfl:=h
 exact Tri.of (x:=(X33_3 x1 x2 x3 x4)) aE aL5 [dt,dt,dt,dt,dt,dt,.norm 0 ⟨[(2,[])],[],false,[],[]⟩] [⟨(nT rfl)⟩,⟨(nT rfl)⟩,⟨(nT rfl)⟩,⟨(nT rfl)⟩,⟨(nT rfl)⟩,⟨(nT rfl)⟩] (by kernel_rfl)
end Go.Ws

namespace Go.Ws
open Go.Proofs
set_option linter.unusedSimpArgs false
set_option linter.unusedVariables false
set_option maxRecDepth 1000000
set_option maxHeartbeats 4000000
noncomputable def aE0 (x9:aG) (x10:Ty8) (x11:Ty2) (x12:Ty7):Ctx:=⟨Try.f47,[(.row [(.sl 2 (List.map aB x9)),(.sl 3 (List.map aC x10)),(.mp 1),(.ref 4 2 0 0 x12.length .virt)]),(.map (b8 .i64 (fun y=>AV.agg (aD y)) x11) x11.length),(.arr 4 (List.map aA x12) 0 0 false)],false⟩
noncomputable def L47_3_0:Code:=at_ Try.f47 [1,1,1,1,1,1,1,0,1,4,5]
def S47_3_0 (x2:aG) (x5:Int) (x6:Int) (x7:Int) (x8:Int) (x9:aG) (x11:Ty2) (x12:Ty7) (x13:Ty8 × Int) (cM:Int) (bZ:Int):St:=⟨mkT 92 [(5,(.hp 3 0)),(10,(.int .i64 cM)),(75,(.sl 2 (List.map aB x2))),(76,(.int .i64 (nI x2.length))),(77,(.int .i64 bZ))],[(.row [(.sl 2 (List.map aB x9)),(.sl 3 (List.map aC x13.1)),(.mp 1),(.ref 4 2 0 0 x12.length .virt)]),(.map (b8 .i64 (fun y=>AV.agg (aD y)) x11) x11.length),(.arr 4 (List.map aA x12) 0 0 false),(.row [(.int .i64 x5),(.int .i64 x6),(.int .u8 x7),(.int .i64 x8)])]⟩
def aCG (x9:aG) (x11:Ty2) (x12:Ty7) (x13:Ty8 × Int) (aO0:Int):St:=⟨mkT 92 [(10,(.int .i64 aO0))],[(.row [(.sl 2 (List.map aB x9)),(.sl 3 (List.map aC x13.1)),(.mp 1),(.ref 4 2 0 0 x12.length .virt)]),(.map (b8 .i64 (fun y=>AV.agg (aD y)) x11) x11.length),(.arr 4 (List.map aA x12) 0 0 false)]⟩
def O47_3_0 (x2:aG) (x5:Int) (x6:Int) (x7:Int) (x8:Int) (x9:aG) (x10:Ty8) (x11:Ty2) (x12:Ty7) (x13:Ty8 × Int) (y:(Int)):GX:=.st (.exit 0) (aCG x9 x11 x12 x13 y)
def aH2 (x13:Ty8 × Int):Ans:=.call ⟨true,[]⟩ (.tup [(.sl 3 (List.map aC x13.1)),(.int .i64 x13.2)]) []
def yP:Ans:=.norm 0 ⟨[(6,[]),(7,[])],[],false,[],[]⟩
theorem kM (x2:aG) (x5:Int) (x6:Int) (x7:Int) (x8:Int) (x9:aG) (x10:Ty8) (x11:Ty2) (x12:Ty7) (x13:Ty8 × Int) (y:(Int)):∀(k:Nat) (cM:Int) (bZ:Int),bI k x2 x5 x6 x7 x8 x9 x10 x11 x12 x13 cM bZ=some y→LT Try.prog (aE0 x9 x10 x11 x12) L47_3_0 (S47_3_0 x2 x5 x6 x7 x8 x9 x11 x12 x13 cM bZ) (O47_3_0 x2 x5 x6 x7 x8 x9 x10 x11 x12 x13 y)
 | 0,cM,bZ,h=>by cases h
 | k+1,cM,bZ,h=>by
  rw[bI] at h
  by_cases cL0:ltI bZ (nI x2.length)=true
  · rw[if_pos cL0] at h
    by_cases cL1:inI bZ x2.length=true
    · rw[if_pos cL1] at h
      obtain⟨mH,eL2,h⟩:=bsm h
      let u1:List Ans:=[dt,.n x2.length,.row [(.int .u8 mH.1),(.int .i64 mH.2)]]
      let w2:List Prf:=[⟨(cS (e:=aB) eL2 2 0 2 (by decide))⟩,⟨cL1⟩,⟨(aY aB x2)⟩,⟨cL0⟩]
      by_cases cL3:eqI mH.1 x7=true
      · rw[if_pos cL3] at h
        exact LT.next aE (hs:=⟨[(5,[]),(10,[]),(75,[]),(76,[]),(77,[])],[⟨.tmp 5,[],none⟩],false,[],[]⟩) (es:=none) (u1++[dt]) ([⟨cL3⟩]++w2) (by kernel_rfl) (kM x2 x5 x6 x7 x8 x9 x10 x11 x12 x13 y k (aH .i64 cM mH.2) (aH .i64 bZ 1) h)
      rw[if_neg cL3] at h;replace cL3:=eqf cL3
      exact LT.next aE (hs:=⟨[(5,[]),(10,[]),(75,[]),(76,[]),(77,[])],[⟨.tmp 5,[],none⟩],false,[],[]⟩) (es:=none) (u1++[df]) ([⟨cL3⟩]++w2) (by kernel_rfl) (kM x2 x5 x6 x7 x8 x9 x10 x11 x12 x13 y k cM (aH .i64 bZ 1) h)
    rw[if_neg cL1] at h;replace cL1:=eqf cL1
    cases h
  rw[if_neg cL0] at h;replace cL0:=eqf cL0
  obtain rfl:=osi h
  show LT _ _ _ _ (.st (.exit 0) (aCG x9 x11 x12 x13 cM))
  exact LT.done aE (hs:=⟨[],[],false,[],[]⟩) (es:=(some ⟨[(10,[])],[],false,[],[]⟩)) [df] [⟨cL0⟩] (by kernel_rfl) (fun s h=>by cases h)
theorem pW (k:Nat) (x1:Int) (x2:aG) (x3:Bool) (x4:Int) (x5:Int) (x6:Int) (x7:Int) (x8:Int) (x9:aG) (x10:Ty8) (x11:Ty2) (x12:Ty7) (r:Ty8 × Ty2 × Int × Int) (h:gC k x1 x2 x3 x4 x5 x6 x7 x8 x9 x10 x11 x12=some r):Tri Try.prog 47 [(.hp 0 0),(.agg [(.int .i64 x1),(.sl 2 (List.map aB x2)),(.bool x3),(.int .i64 x4)]),(.agg [(.int .i64 x5),(.int .i64 x6),(.int .u8 x7),(.int .i64 x8)])] [(.row [(.sl 2 (List.map aB x9)),(.sl 3 (List.map aC x10)),(.mp 1),(.ref 4 2 0 0 x12.length .virt)]),(.map (b8 .i64 (fun y=>AV.agg (aD y)) x11) x11.length),(.arr 4 (List.map aA x12) 0 0 false)] (.tup [(.int .i64 r.2.2.2),(.int .i64 r.2.2.1)]) [(.row [(.sl 2 (List.map aB x9)),(.sl 3 (List.map aC r.1)),(.mp 1),(.ref 4 2 0 0 x12.length .virt)]),(.map (b8 .i64 (fun y=>AV.agg (aD y)) r.2.1) r.2.1.length),(.arr 4 (List.map aA x12) 0 0 false)]:=by
 unfold gC at h
 by_cases c0:eqI x1 0=true
 · rw[if_pos c0] at h
   obtain⟨x13,e1,h⟩:=bsm h
   let w4:List Prf:=[⟨(aGZ k x10 x6 x7 (eqI x5 3) _ e1)⟩,⟨(nF c0)⟩]
   by_cases c2:eqI x13.2 0=true
   · rw[if_pos c2] at h
     by_cases c3:eqI x5 3=true
     · rw[if_pos c3] at h
       obtain⟨x14,e4,h⟩:=bsm h
       let u7:List Ans:=[df,(aH2 x13),df,dt,.call ⟨true,[]⟩ (.tup [(.agg [(.int .i64 x14.1),(.sl 2 (List.map aB x14.2.1)),(.bool x14.2.2.1),(.int .i64 x14.2.2.2.1)]),(.int .i64 x14.2.2.2.2)]) []]
       let w8:List Prf:=[⟨(aIX k x1 x2 x3 x4 x7 x8 _ e4)⟩,⟨c3⟩,⟨(nF c2)⟩]++w4
       by_cases c5:eqI x14.2.2.2.2 0=true
       · rw[if_pos c5] at h
         by_cases c6:mN x11 x6=true
         · rw[if_pos c6] at h
           obtain⟨x15,e7,h⟩:=bsm h
           obtain rfl:=osi h
           exact Tri.of (x:=(aE0 x9 x10 x11 x12)) aE yO (u7++[df,.opt (some (.agg [(.int .i64 x15.1),(.sl 2 (List.map aB x15.2.1)),(.bool x15.2.2.1),(.int .i64 x15.2.2.2)])),.n (mIx x11 x6),.ents (b8 .i64 (fun y=>AV.agg (aD y)) x11) x11.length,.ents (b8 .i64 (fun y=>AV.agg (aD y)) (aZ x11 x6 (x14.1,x14.2.1,x14.2.2.1,x14.2.2.2.1))) (aZ x11 x6 (x14.1,x14.2.1,x14.2.2.1,x14.2.2.2.1)).length,yP]) ([⟨(aND .i64 (fun y=>AV.agg (aD y)) e7 (x14.1,x14.2.1,x14.2.2.1,x14.2.2.2.1))⟩,⟨(ent_some .i64 (fun y=>AV.agg (aD y)) e7 (.agg [(.int .i64 0),(.sl 2 (List.map aB [])),(.bool false),(.int .i64 0)]))⟩,⟨(aL1 .i64 (fun y=>AV.agg (aD y)) x11 x6)⟩,⟨(iS .i64 (fun y=>AV.agg (aD y)) e7)⟩,⟨(nF c5)⟩]++w8) (by kernel_rfl)
         rw[if_neg c6] at h;replace c6:=eqf c6
         obtain rfl:=osi h
         exact Tri.of (x:=(aE0 x9 x10 x11 x12)) aE yO (u7++[df,.opt none,.n (mIx x11 x6),.ents (b8 .i64 (fun y=>AV.agg (aD y)) (aZ x11 x6 (0,[],false,0))) (aZ x11 x6 (0,[],false,0)).length,.ents (b8 .i64 (fun y=>AV.agg (aD y)) (aZ x11 x6 (x14.1,x14.2.1,x14.2.2.1,x14.2.2.2.1))) (aZ x11 x6 (x14.1,x14.2.1,x14.2.2.1,x14.2.2.2.1)).length,yP]) ([⟨(sb_none .i64 (fun y=>AV.agg (aD y)) (l:=x11) (q:=x6) (0,[],false,0) (x14.1,x14.2.1,x14.2.2.1,x14.2.2.2.1))⟩,⟨(ent_none .i64 (fun y=>AV.agg (aD y)) c6 (0,[],false,0))⟩,⟨(aL1 .i64 (fun y=>AV.agg (aD y)) x11 x6)⟩,⟨(mF .i64 (fun y=>AV.agg (aD y)) c6)⟩,⟨(nF c5)⟩]++w8) (by kernel_rfl)
       rw[if_neg c5] at h;replace c5:=eqf c5
       obtain rfl:=osi h
       exact Tri.of (x:=(aE0 x9 x10 x11 x12)) aE yO (u7++[dt,yP]) ([⟨(nT c5)⟩]++w8) (by kernel_rfl)
     rw[if_neg c3] at h;replace c3:=eqf c3
     obtain⟨x14,e4,h⟩:=bsm h
     obtain⟨x16,e5,h⟩:=bsm h
     obtain rfl:=osi h
     exact Tri.of (x:=(aE0 x9 x10 x11 x12)) aE yO [df,(aH2 x13),df,df,.call ⟨true,[]⟩ (.int .i64 x14) [],.n x2.length,.norm 2 ⟨[(5,[]),(10,[]),(75,[]),(76,[]),(77,[])],[⟨.tmp 5,[],none⟩],false,[],[]⟩,.out (.st .normal (aCG x9 x11 x12 x13 x16)),yP] ([⟨(LT.block (kM x2 x5 x6 x7 x8 x9 x10 x11 x12 x13 _ k x14 0 e5))⟩,⟨(aY aB x2)⟩,⟨(aFO k x9 x7 _ e4)⟩,⟨c3⟩,⟨(nF c2)⟩]++w4) (by kernel_rfl)
   rw[if_neg c2] at h;replace c2:=eqf c2
   obtain rfl:=osi h
   exact Tri.of (x:=(aE0 x9 x10 x11 x12)) aE yO [df,(aH2 x13),dt,yP] ([⟨(nT c2)⟩]++w4) (by kernel_rfl)
 rw[if_neg c0] at h;replace c0:=eqf c0
 obtain rfl:=osi h
 exact Tri.of (x:=(aE0 x9 x10 x11 x12)) aE yO [dt,yP] [⟨(nT c0)⟩] (by kernel_rfl)
end Go.Ws

namespace Go.Ws
open Go.Proofs
set_option linter.unusedSimpArgs false
set_option linter.unusedVariables false
set_option maxRecDepth 1000000
set_option maxHeartbeats 4000000
noncomputable def zA (x9:aG) (x10:Ty8) (x11:Ty2) (x12:Ty7):Ctx:=⟨Try.f48,[(.row [(.sl 2 (List.map aB x9)),(.sl 3 (List.map aC x10)),(.mp 1),(.ref 4 2 0 0 x12.length .virt)]),(.map (b8 .i64 (fun y=>AV.agg (aD y)) x11) x11.length),(.arr 4 (List.map aA x12) 0 0 false)],false⟩
def aM0 (x13:Int × aG × Bool × Int × Int):Ans:=.call ⟨true,[]⟩ (.tup [(.agg [(.int .i64 x13.1),(.sl 2 (List.map aB x13.2.1)),(.bool x13.2.2.1),(.int .i64 x13.2.2.2.1)]),(.int .i64 x13.2.2.2.2)]) []
def aDN (x15:Ty8):Ans:=.call ⟨true,[]⟩ (.sl 3 (List.map aC x15)) []
def aDR (x13:Int × aG × Bool × Int × aG × Int):Ans:=.call ⟨true,[]⟩ (.tup [(.agg [(.int .i64 x13.1),(.sl 2 (List.map aB x13.2.1)),(.bool x13.2.2.1),(.int .i64 x13.2.2.2.1)]),(.sl 2 (List.map aB x13.2.2.2.2.1)),(.int .i64 x13.2.2.2.2.2)]) []
def aH6 (x6:Int) (x11:Ty2) (x13:Int × aG × Bool × Int × aG × Int):Ans:=.ents (b8 .i64 (fun y=>AV.agg (aD y)) (aZ x11 x6 (x13.1,x13.2.1,x13.2.2.1,x13.2.2.2.1))) (aZ x11 x6 (x13.1,x13.2.1,x13.2.2.1,x13.2.2.2.1)).length
def aG3 (x14:aG × Int):Ans:=.call ⟨true,[]⟩ (.tup [(.sl 2 (List.map aB x14.1)),(.int .i64 x14.2)]) []
theorem zH (k:Nat) (x1:Int) (x2:aG) (x3:Bool) (x4:Int) (x5:Int) (x6:Int) (x7:Int) (x8:Int) (x9:aG) (x10:Ty8) (x11:Ty2) (x12:Ty7) (r:aG × Ty8 × Ty2 × Int) (h:jV k x1 x2 x3 x4 x5 x6 x7 x8 x9 x10 x11 x12=some r):Tri Try.prog 48 [(.hp 0 0),(.agg [(.int .i64 x1),(.sl 2 (List.map aB x2)),(.bool x3),(.int .i64 x4)]),(.agg [(.int .i64 x5),(.int .i64 x6),(.int .u8 x7),(.int .i64 x8)])] [(.row [(.sl 2 (List.map aB x9)),(.sl 3 (List.map aC x10)),(.mp 1),(.ref 4 2 0 0 x12.length .virt)]),(.map (b8 .i64 (fun y=>AV.agg (aD y)) x11) x11.length),(.arr 4 (List.map aA x12) 0 0 false)] (.int .i64 r.2.2.2) [(.row [(.sl 2 (List.map aB r.1)),(.sl 3 (List.map aC r.2.1)),(.mp 1),(.ref 4 2 0 0 x12.length .virt)]),(.map (b8 .i64 (fun y=>AV.agg (aD y)) r.2.2.1) r.2.2.1.length),(.arr 4 (List.map aA x12) 0 0 false)]:=by
 unfold jV at h
 by_cases c0:eqI x5 4=true
 · rw[if_pos c0] at h
   obtain⟨x13,e1,h⟩:=bsm h
   let w2:List Prf:=[⟨(aH7 k x1 x2 x3 x4 (!eqI x8 0) _ e1)⟩,⟨c0⟩]
   by_cases c2:eqI x13.2.2.2.2 0=true
   · rw[if_pos c2] at h
     obtain⟨x14,e3,h⟩:=bsm h
     let u3:List Ans:=[dt,(aM0 x13),df,.ents (b8 .i64 (fun y=>AV.agg (aD y)) (aZ x11 x6 (x13.1,x13.2.1,x13.2.2.1,x13.2.2.2.1))) (aZ x11 x6 (x13.1,x13.2.1,x13.2.2.1,x13.2.2.2.1)).length,.call ⟨true,[[],[(0,2)]]⟩ (.tup [(.sl 2 (List.map aB x14.1)),(.int .i64 x14.2)]) [],df,df,df,df]
     let w4:List Prf:=[⟨(nF c0)⟩,⟨(nF c0)⟩,⟨(nF c0)⟩,⟨(nF c0)⟩,⟨(n9 k x9 [] _ e3)⟩,⟨(lP .i64 (fun y=>AV.agg (aD y)) x11 x6 (x13.1,x13.2.1,x13.2.2.1,x13.2.2.2.1))⟩,⟨(nF c2)⟩]++w2
     by_cases c4:eqI x13.1 2=true
     · rw[if_pos c4] at h
       obtain⟨x15,e5,h⟩:=bsm h
       obtain rfl:=osi h
       exact Tri.of (x:=(zA x9 x10 x11 x12)) aE qN (u3++[dt,(aDN x15),.norm 0 ⟨[(6,[])],[],false,[],[]⟩]) ([⟨(rR k x10 x6 _ e5)⟩,⟨c4⟩]++w4) (by kernel_rfl)
     rw[if_neg c4] at h;replace c4:=eqf c4
     obtain rfl:=osi h
     exact Tri.of (x:=(zA x9 x10 x11 x12)) aE qN (u3++[df,.norm 0 ⟨[(6,[])],[],false,[],[]⟩]) ([⟨c4⟩]++w4) (by kernel_rfl)
   rw[if_neg c2] at h;replace c2:=eqf c2
   obtain rfl:=osi h
   exact Tri.of (x:=(zA x9 x10 x11 x12)) aE qN [dt,(aM0 x13),dt,.norm 0 ⟨[(6,[])],[],false,[],[]⟩] ([⟨(nT c2)⟩]++w2) (by kernel_rfl)
 rw[if_neg c0] at h;replace c0:=eqf c0
 by_cases c1:eqI x5 5=true
 · rw[if_pos c1] at h
   obtain⟨x13,e2,h⟩:=bsm h
   let w8:List Prf:=[⟨(aFM k x1 x2 x3 x4 _ e2)⟩,⟨c1⟩,⟨c0⟩]
   by_cases c3:eqI x13.2.2.2.2.2 0=true
   · rw[if_pos c3] at h
     obtain⟨x14,e4,h⟩:=bsm h
     obtain⟨x15,e5,h⟩:=bsm h
     obtain rfl:=osi h
     exact Tri.of (x:=(zA x9 x10 x11 x12)) aE qN [df,dt,(aDR x13),df,(aH6 x6 x11 x13),(aG3 x14),dt,dt,dt,dt,dt,(aDN x15),.norm 0 ⟨[(6,[])],[],false,[],[]⟩] ([⟨(rR k x10 x6 _ e5)⟩,⟨rT⟩,⟨(nT c0)⟩,⟨(nT c0)⟩,⟨(nT c0)⟩,⟨(nT c0)⟩,⟨(n9 k x9 x13.2.2.2.2.1 _ e4)⟩,⟨(lP .i64 (fun y=>AV.agg (aD y)) x11 x6 (x13.1,x13.2.1,x13.2.2.1,x13.2.2.2.1))⟩,⟨(nF c3)⟩]++w8) (by kernel_rfl)
   rw[if_neg c3] at h;replace c3:=eqf c3
   obtain rfl:=osi h
   exact Tri.of (x:=(zA x9 x10 x11 x12)) aE qN [df,dt,(aDR x13),dt,.norm 0 ⟨[(6,[])],[],false,[],[]⟩] ([⟨(nT c3)⟩]++w8) (by kernel_rfl)
 rw[if_neg c1] at h;replace c1:=eqf c1
 by_cases c2:eqI x8 1=true
 · rw[if_pos c2] at h
   obtain⟨x13,e3,h⟩:=bsm h
   let u11:List Ans:=[df,df,dt,dt,dt,dt,dt,(aDR x13)]
   let w12:List Prf:=[⟨(xE k x1 x2 x3 x4 x8 _ e3)⟩,⟨rT⟩,⟨c2⟩,⟨c2⟩,⟨c2⟩,⟨c2⟩,⟨c1⟩,⟨c0⟩]
   by_cases c4:eqI x13.2.2.2.2.2 0=true
   · rw[if_pos c4] at h
     obtain⟨x14,e5,h⟩:=bsm h
     obtain⟨x15,e6,h⟩:=bsm h
     obtain rfl:=osi h
     exact Tri.of (x:=(zA x9 x10 x11 x12)) aE qN (u11++[df,(aH6 x6 x11 x13),(aG3 x14),dt,dt,dt,dt,dt,(aDN x15),.norm 0 ⟨[(6,[])],[],false,[],[]⟩]) ([⟨(rR k x10 x6 _ e6)⟩,⟨rT⟩,⟨(nT c0)⟩,⟨(nT c0)⟩,⟨(nT c0)⟩,⟨(nT c0)⟩,⟨(n9 k x9 x13.2.2.2.2.1 _ e5)⟩,⟨(lP .i64 (fun y=>AV.agg (aD y)) x11 x6 (x13.1,x13.2.1,x13.2.2.1,x13.2.2.2.1))⟩,⟨(nF c4)⟩]++w12) (by kernel_rfl)
   rw[if_neg c4] at h;replace c4:=eqf c4
   obtain rfl:=osi h
   exact Tri.of (x:=(zA x9 x10 x11 x12)) aE qN (u11++[dt,.norm 0 ⟨[(6,[])],[],false,[],[]⟩]) ([⟨(nT c4)⟩]++w12) (by kernel_rfl)
 rw[if_neg c2] at h;replace c2:=eqf c2
 let w14:List Prf:=[⟨c2⟩,⟨c2⟩,⟨c2⟩,⟨c2⟩,⟨c1⟩,⟨c0⟩]
 by_cases c3:eqI x8 2=true
 · rw[if_pos c3] at h
   obtain⟨x13,e4,h⟩:=bsm h
   let u15:List Ans:=[df,df,df,df,df,df,dt,(aDR x13)]
   let w16:List Prf:=[⟨(xE k x1 x2 x3 x4 x8 _ e4)⟩,⟨c3⟩]++w14
   by_cases c5:eqI x13.2.2.2.2.2 0=true
   · rw[if_pos c5] at h
     obtain⟨x14,e6,h⟩:=bsm h
     obtain⟨x15,e7,h⟩:=bsm h
     obtain rfl:=osi h
     exact Tri.of (x:=(zA x9 x10 x11 x12)) aE qN (u15++[df,(aH6 x6 x11 x13),(aG3 x14),dt,dt,dt,dt,dt,(aDN x15),.norm 0 ⟨[(6,[])],[],false,[],[]⟩]) ([⟨(rR k x10 x6 _ e7)⟩,⟨rT⟩,⟨(nT c0)⟩,⟨(nT c0)⟩,⟨(nT c0)⟩,⟨(nT c0)⟩,⟨(n9 k x9 x13.2.2.2.2.1 _ e6)⟩,⟨(lP .i64 (fun y=>AV.agg (aD y)) x11 x6 (x13.1,x13.2.1,x13.2.2.1,x13.2.2.2.1))⟩,⟨(nF c5)⟩]++w16) (by kernel_rfl)
   rw[if_neg c5] at h;replace c5:=eqf c5
   obtain rfl:=osi h
   exact Tri.of (x:=(zA x9 x10 x11 x12)) aE qN (u15++[dt,.norm 0 ⟨[(6,[])],[],false,[],[]⟩]) ([⟨(nT c5)⟩]++w16) (by kernel_rfl)
 rw[if_neg c3] at h;replace c3:=eqf c3
 obtain rfl:=osi h
 exact Tri.of (x:=(zA x9 x10 x11 x12)) aE qN [df,df,df,df,df,df,df,dt,.norm 0 ⟨[(6,[])],[],false,[],[]⟩] ([⟨(nT (rfl:eqI 2 0=false))⟩,⟨c3⟩]++w14) (by kernel_rfl)
end Go.Ws

namespace Go.Ws
open Go.Proofs
set_option linter.unusedSimpArgs false
set_option linter.unusedVariables false
set_option maxRecDepth 1000000
set_option maxHeartbeats 4000000
noncomputable def X34_3 (x9:aG) (x10:Ty8) (x11:Ty2) (x12:Ty7):Ctx:=⟨Try.f34,[(.row [(.sl 2 (List.map aB x9)),(.sl 3 (List.map aC x10)),(.mp 1),(.ref 4 2 0 0 x12.length .virt)]),(.map (b8 .i64 (fun y=>AV.agg (aD y)) x11) x11.length),(.arr 4 (List.map aA x12) 0 0 false)],false⟩
def aDK:Ans:=.norm 0 ⟨[(6,[]),(7,[])],[],false,[],[]⟩
def aMO (x9:aG) (x12:Ty7) (x13:Ty8 × Ty2 × Int × Int):Ans:=.call ⟨true,[]⟩ (.tup [(.int .i64 x13.2.2.2),(.int .i64 x13.2.2.1)]) [(.row [(.sl 2 (List.map aB x9)),(.sl 3 (List.map aC x13.1)),(.mp 1),(.ref 4 2 0 0 x12.length .virt)]),(.map (b8 .i64 (fun y=>AV.agg (aD y)) x13.2.1) x13.2.1.length),(.arr 4 (List.map aA x12) 0 0 false)]
theorem rK (k:Nat) (x1:Int) (x2:aG) (x3:Bool) (x4:Int) (x5:Int) (x6:Int) (x7:Int) (x8:Int) (x9:aG) (x10:Ty8) (x11:Ty2) (x12:Ty7) (r:Int × Int × Ty8 × Ty2 × aG) (h:hX k x1 x2 x3 x4 x5 x6 x7 x8 x9 x10 x11 x12=some r):Tri Try.prog 34 [(.hp 0 0),(.agg [(.int .i64 x1),(.sl 2 (List.map aB x2)),(.bool x3),(.int .i64 x4)]),(.agg [(.int .i64 x5),(.int .i64 x6),(.int .u8 x7),(.int .i64 x8)])] [(.row [(.sl 2 (List.map aB x9)),(.sl 3 (List.map aC x10)),(.mp 1),(.ref 4 2 0 0 x12.length .virt)]),(.map (b8 .i64 (fun y=>AV.agg (aD y)) x11) x11.length),(.arr 4 (List.map aA x12) 0 0 false)] (.tup [(.int .i64 r.1),(.int .i64 r.2.1)]) [(.row [(.sl 2 (List.map aB r.2.2.2.2)),(.sl 3 (List.map aC r.2.2.1)),(.mp 1),(.ref 4 2 0 0 x12.length .virt)]),(.map (b8 .i64 (fun y=>AV.agg (aD y)) r.2.2.2.1) r.2.2.2.1.length),(.arr 4 (List.map aA x12) 0 0 false)]:=by
 unfold hX at h
 by_cases c0:eqI x5 1=true
 · rw[if_pos c0] at h
   obtain rfl:=osi h
   exact Tri.of (x:=(X34_3 x9 x10 x11 x12)) aE aDM [dt,.ents (b8 .i64 (fun y=>AV.agg (aD y)) (aZ x11 x6 (x1,x2,x3,x4))) (aZ x11 x6 (x1,x2,x3,x4)).length,aDK] [⟨(lP .i64 (fun y=>AV.agg (aD y)) x11 x6 (x1,x2,x3,x4))⟩,⟨c0⟩] (by kernel_rfl)
 rw[if_neg c0] at h;replace c0:=eqf c0
 by_cases c1:eqI x5 2=true
 · rw[if_pos c1] at h
   obtain⟨x13,e2,h⟩:=bsm h
   obtain rfl:=osi h
   exact Tri.of (x:=(X34_3 x9 x10 x11 x12)) aE aDM [df,dt,dt,(aMO x9 x12 x13),aDK] [⟨(pW k x1 x2 x3 x4 x5 x6 x7 x8 x9 x10 x11 x12 _ e2)⟩,⟨c1⟩,⟨c1⟩,⟨c0⟩] (by kernel_rfl)
 rw[if_neg c1] at h;replace c1:=eqf c1
 by_cases c2:eqI x5 3=true
 · rw[if_pos c2] at h
   obtain⟨x13,e3,h⟩:=bsm h
   obtain rfl:=osi h
   exact Tri.of (x:=(X34_3 x9 x10 x11 x12)) aE aDM [df,df,dt,(aMO x9 x12 x13),aDK] [⟨(pW k x1 x2 x3 x4 x5 x6 x7 x8 x9 x10 x11 x12 _ e3)⟩,⟨c2⟩,⟨c1⟩,⟨c0⟩] (by kernel_rfl)
 rw[if_neg c2] at h;replace c2:=eqf c2
 obtain⟨x13,e3,h⟩:=bsm h
 obtain rfl:=osi h
 exact Tri.of (x:=(X34_3 x9 x10 x11 x12)) aE aDM [df,df,df,.call ⟨true,[]⟩ (.int .i64 x13.2.2.2) [(.row [(.sl 2 (List.map aB x13.1)),(.sl 3 (List.map aC x13.2.1)),(.mp 1),(.ref 4 2 0 0 x12.length .virt)]),(.map (b8 .i64 (fun y=>AV.agg (aD y)) x13.2.2.1) x13.2.2.1.length),(.arr 4 (List.map aA x12) 0 0 false)],aDK] [⟨(zH k x1 x2 x3 x4 x5 x6 x7 x8 x9 x10 x11 x12 _ e3)⟩,⟨c2⟩,⟨c1⟩,⟨c0⟩] (by kernel_rfl)
end Go.Ws

namespace Go.Ws
open Go.Proofs
set_option linter.unusedSimpArgs false
set_option linter.unusedVariables false
set_option maxRecDepth 1000000
set_option maxHeartbeats 4000000
noncomputable def y6 (x5:aG) (x6:Ty8) (x7:Ty2) (x8:Ty7):Ctx:=⟨Try.f21,[(.row [(.sl 2 (List.map aB x5)),(.sl 3 (List.map aC x6)),(.mp 1),(.ref 4 2 0 0 x8.length .virt)]),(.map (b8 .i64 (fun y=>AV.agg (aD y)) x7) x7.length),(.arr 4 (List.map aA x8) 0 0 false)],false⟩
def aML (x5:aG) (x6:Ty8) (x7:Ty2) (x8:Ty7):Ans:=.call ⟨true,[]⟩ (.bool (!false)) [(.row [(.sl 2 (List.map aB x5)),(.sl 3 (List.map aC x6)),(.mp 1),(.ref 4 2 0 0 x8.length .virt)]),(.map (b8 .i64 (fun y=>AV.agg (aD y)) x7) x7.length),(.arr 4 (List.map aA x8) 0 0 false)]
def qF:Ans:=.norm 0 ⟨[(4,[]),(5,[])],[],false,[],[none,none,some 1]⟩
theorem tG (k:Nat) (x1:Int) (x2:Int) (x3:Int) (x4:Int) (x5:aG) (x6:Ty8) (x7:Ty2) (x8:Ty7) (r:Int × Int × aG × Ty8 × Ty2 × Ty7) (h:jJ k x1 x2 x3 x4 x5 x6 x7 x8=some r):Tri Try.prog 21 [(.hp 0 0),(.agg [(.int .i64 x1),(.int .i64 x2),(.int .u8 x3),(.int .i64 x4)])] [(.row [(.sl 2 (List.map aB x5)),(.sl 3 (List.map aC x6)),(.mp 1),(.ref 4 2 0 0 x8.length .virt)]),(.map (b8 .i64 (fun y=>AV.agg (aD y)) x7) x7.length),(.arr 4 (List.map aA x8) 0 0 false)] (.tup [(.int .i64 r.2.1),(.int .i64 r.1)]) [(.row [(.sl 2 (List.map aB r.2.2.1)),(.sl 3 (List.map aC r.2.2.2.1)),(.mp 1),(.ref 4 2 1 0 r.2.2.2.2.2.length .virt)]),(.map (b8 .i64 (fun y=>AV.agg (aD y)) r.2.2.2.2.1) r.2.2.2.2.1.length),(.arr 4 (List.map aA r.2.2.2.2.2) 1 1 false)]:=by
 unfold jJ at h
 let w2:List Prf:=[⟨(nF (nT rfl))⟩,⟨(rP x5 x6 x7 x8)⟩]
 by_cases c0:ltI x1 1=true
 · rw[if_pos c0] at h
   obtain rfl:=osi h
   exact Tri.of (x:=(y6 x5 x6 x7 x8)) aE qG [(aML x5 x6 x7 x8),df,dt,dt,dt,dt,dt,dt,dt,dt,dt,dt,dt,dt,dt,qF] ([⟨rT⟩,⟨rT⟩,⟨rT⟩,⟨rT⟩,⟨rT⟩,⟨rT⟩,⟨rT⟩,⟨rT⟩,⟨rT⟩,⟨c0⟩,⟨c0⟩,⟨c0⟩,⟨c0⟩]++w2) (by kernel_rfl)
 rw[if_neg c0] at h;replace c0:=eqf c0
 let u3:List Ans:=[(aML x5 x6 x7 x8),df,df,df,df,df]
 by_cases c1:ltI 6 x1=true
 · rw[if_pos c1] at h
   obtain rfl:=osi h
   exact Tri.of (x:=(y6 x5 x6 x7 x8)) aE qG (u3++[dt,dt,dt,dt,dt,dt,dt,dt,dt,qF]) ([⟨rT⟩,⟨rT⟩,⟨rT⟩,⟨rT⟩,⟨rT⟩,⟨c1⟩,⟨c1⟩,⟨c1⟩,⟨c1⟩,⟨c0⟩,⟨c0⟩,⟨c0⟩,⟨c0⟩]++w2) (by kernel_rfl)
 rw[if_neg c1] at h;replace c1:=eqf c1
 let w6:List Prf:=[⟨c1⟩,⟨c1⟩,⟨c1⟩,⟨c1⟩,⟨c0⟩,⟨c0⟩,⟨c0⟩,⟨c0⟩]++w2
 by_cases c2:ltI x2 0=true
 · rw[if_pos c2] at h
   obtain rfl:=osi h
   exact Tri.of (x:=(y6 x5 x6 x7 x8)) aE qG (u3++[df,df,df,df,dt,dt,dt,dt,dt,qF]) ([⟨rT⟩,⟨c2⟩,⟨c2⟩,⟨c2⟩,⟨c2⟩]++w6) (by kernel_rfl)
 rw[if_neg c2] at h;replace c2:=eqf c2
 let u7:List Ans:=u3++[df,df,df,df,df,df,df,df]
 by_cases c3:ltI x2 1000=true
 · rw[if_pos c3] at h
   let w10:List Prf:=[⟨(nF c3)⟩,⟨c2⟩,⟨c2⟩,⟨c2⟩,⟨c2⟩]++w6
   by_cases c4:mN x7 x2=true
   · rw[if_pos c4] at h
     obtain⟨x9,e5,h⟩:=bsm h
     let w12:List Prf:=[⟨(iS .i64 (fun y=>AV.agg (aD y)) e5)⟩]++w10
     by_cases c6:eqB true (eqI x1 1)=true
     · rw[if_pos c6] at h
       obtain rfl:=osi h
       exact Tri.of (x:=(y6 x5 x6 x7 x8)) aE qG (u7++[df,.opt (some (.agg [(.int .i64 x9.1),(.sl 2 (List.map aB x9.2.1)),(.bool x9.2.2.1),(.int .i64 x9.2.2.2)])),dt,dt,qF]) ([⟨rT⟩,⟨c6⟩]++w12) (by kernel_rfl)
     rw[if_neg c6] at h;replace c6:=eqf c6
     obtain⟨x10,e7,h⟩:=bsm h
     let u13:List Ans:=u7++[df,.opt (some (.agg [(.int .i64 x9.1),(.sl 2 (List.map aB x9.2.1)),(.bool x9.2.2.1),(.int .i64 x9.2.2.2)])),df,.call ⟨true,[]⟩ (.tup [(.int .i64 x10.1),(.int .i64 x10.2.1)]) [(.row [(.sl 2 (List.map aB x10.2.2.2.2)),(.sl 3 (List.map aC x10.2.2.1)),(.mp 1),(.ref 4 2 0 0 x8.length .virt)]),(.map (b8 .i64 (fun y=>AV.agg (aD y)) x10.2.2.2.1) x10.2.2.2.1.length),(.arr 4 (List.map aA x8) 0 0 false)]]
     let w14:List Prf:=[⟨(rK k x9.1 x9.2.1 x9.2.2.1 x9.2.2.2 x1 x2 x3 x4 x5 x6 x7 x8 _ e7)⟩,⟨c6⟩]++w12
     by_cases c8:eqI x10.2.1 0=true
     · rw[if_pos c8] at h
       by_cases c9:dF (((x8++[(x1,x2,x3,x4)]).length)*32)=true
       · rw[if_pos c9] at h
         obtain rfl:=osi h
         exact Tri.of (x:=(y6 x5 x6 x7 x8)) aE qG (u13++[df,.rows (List.map aA [(x1,x2,x3,x4)]),.n ((x8++[(x1,x2,x3,x4)]).length),.n x8.length,dt,.rows (List.map aA (x8++[(x1,x2,x3,x4)])),qF]) ([⟨(aDS aA x8 [(x1,x2,x3,x4)])⟩,⟨(aA4 x8.length)⟩,⟨(aY aA x8)⟩,⟨c9⟩,⟨(by simp only[wl,List.length_map,List.map_nil,List.map_cons]<;>omega:x8.length+(List.map aA [(x1,x2,x3,x4)]).length=(x8++[(x1,x2,x3,x4)]).length)⟩,⟨(cH aA (l:=[(x1,x2,x3,x4)]) (n:=1) rfl)⟩,⟨(eR aA (Nat.le_refl 1):0+1≤(List.map aA [(x1,x2,x3,x4)]).length)⟩,⟨(nF c8)⟩]++w14) (by kernel_rfl)
       rw[if_neg c9] at h;replace c9:=eqf c9
       cases h
     rw[if_neg c8] at h;replace c8:=eqf c8
     obtain rfl:=osi h
     exact Tri.of (x:=(y6 x5 x6 x7 x8)) aE qG (u13++[dt,qF]) ([⟨(nT c8)⟩]++w14) (by kernel_rfl)
   rw[if_neg c4] at h;replace c4:=eqf c4
   let w16:List Prf:=[⟨(mF .i64 (fun y=>AV.agg (aD y)) c4)⟩]++w10
   by_cases c5:eqB false (eqI x1 1)=true
   · rw[if_pos c5] at h
     obtain rfl:=osi h
     exact Tri.of (x:=(y6 x5 x6 x7 x8)) aE qG (u7++[df,.opt none,dt,df,qF]) ([⟨rF⟩,⟨c5⟩]++w16) (by kernel_rfl)
   rw[if_neg c5] at h;replace c5:=eqf c5
   obtain⟨x9,e6,h⟩:=bsm h
   let u17:List Ans:=u7++[df,.opt none,df,.call ⟨true,[]⟩ (.tup [(.int .i64 x9.1),(.int .i64 x9.2.1)]) [(.row [(.sl 2 (List.map aB x9.2.2.2.2)),(.sl 3 (List.map aC x9.2.2.1)),(.mp 1),(.ref 4 2 0 0 x8.length .virt)]),(.map (b8 .i64 (fun y=>AV.agg (aD y)) x9.2.2.2.1) x9.2.2.2.1.length),(.arr 4 (List.map aA x8) 0 0 false)]]
   let w18:List Prf:=[⟨(rK k 0 [] false 0 x1 x2 x3 x4 x5 x6 x7 x8 _ e6)⟩,⟨c5⟩]++w16
   by_cases c7:eqI x9.2.1 0=true
   · rw[if_pos c7] at h
     by_cases c8:dF (((x8++[(x1,x2,x3,x4)]).length)*32)=true
     · rw[if_pos c8] at h
       obtain rfl:=osi h
       exact Tri.of (x:=(y6 x5 x6 x7 x8)) aE qG (u17++[df,.rows (List.map aA [(x1,x2,x3,x4)]),.n ((x8++[(x1,x2,x3,x4)]).length),.n x8.length,dt,.rows (List.map aA (x8++[(x1,x2,x3,x4)])),qF]) ([⟨(aDS aA x8 [(x1,x2,x3,x4)])⟩,⟨(aA4 x8.length)⟩,⟨(aY aA x8)⟩,⟨c8⟩,⟨(by simp only[wl,List.length_map,List.map_nil,List.map_cons]<;>omega:x8.length+(List.map aA [(x1,x2,x3,x4)]).length=(x8++[(x1,x2,x3,x4)]).length)⟩,⟨(cH aA (l:=[(x1,x2,x3,x4)]) (n:=1) rfl)⟩,⟨(eR aA (Nat.le_refl 1):0+1≤(List.map aA [(x1,x2,x3,x4)]).length)⟩,⟨(nF c7)⟩]++w18) (by kernel_rfl)
     rw[if_neg c8] at h;replace c8:=eqf c8
     cases h
   rw[if_neg c7] at h;replace c7:=eqf c7
   obtain rfl:=osi h
   exact Tri.of (x:=(y6 x5 x6 x7 x8)) aE qG (u17++[dt,qF]) ([⟨(nT c7)⟩]++w18) (by kernel_rfl)
 rw[if_neg c3] at h;replace c3:=eqf c3
 obtain rfl:=osi h
 exact Tri.of (x:=(y6 x5 x6 x7 x8)) aE qG (u7++[dt,qF]) ([⟨(nT c3)⟩,⟨c2⟩,⟨c2⟩,⟨c2⟩,⟨c2⟩]++w6) (by kernel_rfl)
end Go.Ws

namespace Go.Ws
open Go.Proofs
set_option linter.unusedSimpArgs false
set_option linter.unusedVariables false
set_option maxRecDepth 1000000
set_option maxHeartbeats 4000000
noncomputable def X27:Ctx:=⟨Try.f27,[],false⟩
noncomputable def L27_0:Code:=at_ Try.f27 [1,1,0,1,4,5]
def S27_0 (x1:Ty7) (dB:Int) (eB:aG) (eC:Ty8) (dX:Ty2) (dY:Ty7):St:=⟨mkT 26 [(4,(.hp 0 0)),(10,(.sl 4 (List.map aA x1))),(11,(.int .i64 (nI x1.length))),(12,(.int .i64 dB))],[(.row [(.sl 2 (List.map aB eB)),(.sl 3 (List.map aC eC)),(.mp 1),(.ref 4 2 0 0 dY.length .virt)]),(.map (b8 .i64 (fun y=>AV.agg (aD y)) dX) dX.length),(.arr 4 (List.map aA dY) 0 0 false)]⟩
def aGY (v27002_1:aG) (v27002_2:Ty8) (aKK:Ty2) (aKL:Ty7):St:=⟨mkT 26 [(4,(.hp 0 0))],[(.row [(.sl 2 (List.map aB v27002_1)),(.sl 3 (List.map aC v27002_2)),(.mp 1),(.ref 4 2 0 0 aKL.length .virt)]),(.map (b8 .i64 (fun y=>AV.agg (aD y)) aKK) aKK.length),(.arr 4 (List.map aA aKL) 0 0 false)]⟩
def O27_0 (x1:Ty7) (y:Ty0):GX:=match y with
 | .inl y=>.st (.exit 0) (aGY y.1 y.2.1 y.2.2.1 y.2.2.2)
 | .inr y=>.fin (Sum.elim (fun y=>(.tup [(.hp 0 0),(.int .i64 0)])) (fun y=>(.tup [.nilp,(.int .i64 4)])) y) (Sum.elim (fun y=>[(.row [(.sl 2 (List.map aB y.1)),(.sl 3 (List.map aC y.2.1)),(.mp 1),(.ref 4 2 0 0 y.2.2.2.length .virt)]),(.map (b8 .i64 (fun y=>AV.agg (aD y)) y.2.2.1) y.2.2.1.length),(.arr 4 (List.map aA y.2.2.2) 0 0 false)]) (fun y=>[]) y)
theorem pB (x1:Ty7) (y:Ty0):∀(k:Nat) (dB:Int) (eB:aG) (eC:Ty8) (dX:Ty2) (dY:Ty7),eK k x1 dB eB eC dX dY=some y→LT Try.prog X27 L27_0 (S27_0 x1 dB eB eC dX dY) (O27_0 x1 y)
 | 0,dB,eB,eC,dX,dY,h=>by cases h
 | k+1,dB,eB,eC,dX,dY,h=>by
  rw[eK] at h
  by_cases cL0:ltI dB (nI x1.length)=true
  · rw[if_pos cL0] at h
    by_cases cL1:inI dB x1.length=true
    · rw[if_pos cL1] at h
      obtain⟨hO,eL2,h⟩:=bsm h
      obtain⟨dC,eL3,h⟩:=bsm h
      let u1:List Ans:=[dt,.n x1.length,.row [(.int .i64 hO.1),(.int .i64 hO.2.1),(.int .u8 hO.2.2.1),(.int .i64 hO.2.2.2)],.call ⟨true,[]⟩ (.tup [(.int .i64 dC.2.1),(.int .i64 dC.1)]) [(.row [(.sl 2 (List.map aB dC.2.2.1)),(.sl 3 (List.map aC dC.2.2.2.1)),(.mp 1),(.ref 4 2 1 0 dC.2.2.2.2.2.length .virt)]),(.map (b8 .i64 (fun y=>AV.agg (aD y)) dC.2.2.2.2.1) dC.2.2.2.2.1.length),(.arr 4 (List.map aA dC.2.2.2.2.2) 1 1 false)]]
      let w2:List Prf:=[⟨(tG k hO.1 hO.2.1 hO.2.2.1 hO.2.2.2 eB eC dX dY _ eL3)⟩,⟨(cS (e:=aA) eL2 4 0 4 (by decide))⟩,⟨cL1⟩,⟨(aY aA x1)⟩,⟨cL0⟩]
      by_cases cL4:eqI dC.1 0=true
      · rw[if_pos cL4] at h
        exact LT.next aE (hs:=⟨[(4,[]),(10,[]),(11,[]),(12,[])],[⟨.tmp 4,[],none⟩,⟨.cell 0 2,[],none⟩,⟨.cell 0 3,[],some 4⟩],false,[],[]⟩) (es:=none) (u1++[df,.n dC.2.2.2.2.2.length,.rows (List.map aA dC.2.2.2.2.2)]) ([⟨(eT aA (l:=dC.2.2.2.2.2) (n:=dC.2.2.2.2.2.length) rfl)⟩,⟨(rfl:dC.2.2.2.2.2.length=dC.2.2.2.2.2.length)⟩,⟨(zle dC.2.2.2.2.2.length)⟩,⟨(nF cL4)⟩]++w2) (by kernel_rfl) (pB x1 y k (aH .i64 dB 1) dC.2.2.1 dC.2.2.2.1 dC.2.2.2.2.1 dC.2.2.2.2.2 h)
      rw[if_neg cL4] at h;replace cL4:=eqf cL4
      obtain rfl:=osi h
      show LT _ _ _ _ (.fin (.tup [.nilp,(.int .i64 4)]) [])
      exact LT.done aE (hs:=⟨[],[],false,[],[]⟩) (es:=none) (u1++[dt,.norm 0 ⟨[(2,[]),(3,[])],[],false,[],[]⟩]) ([⟨(nT cL4)⟩]++w2) (by kernel_rfl) (fun s h=>by cases h)
    rw[if_neg cL1] at h;replace cL1:=eqf cL1
    cases h
  rw[if_neg cL0] at h;replace cL0:=eqf cL0
  obtain rfl:=osi h
  show LT _ _ _ _ (.st (.exit 0) (aGY eB eC dX dY))
  exact LT.done aE (hs:=⟨[],[],false,[],[]⟩) (es:=(some ⟨[(4,[])],[⟨.tmp 4,[],none⟩,⟨.cell 0 2,[],none⟩,⟨.cell 0 3,[],none⟩],false,[],[]⟩)) [df] [⟨cL0⟩] (by kernel_rfl) (fun s h=>by cases h)
theorem wL (k:Nat) (x1:Ty7) (r:Ty1) (h:oV k x1=some r):Tri Try.prog 27 [(.sl 4 (List.map aA x1))] [] (Sum.elim (fun y=>(.tup [(.hp 0 0),(.int .i64 0)])) (fun y=>(.tup [.nilp,(.int .i64 4)])) r) (Sum.elim (fun y=>[(.row [(.sl 2 (List.map aB y.1)),(.sl 3 (List.map aC y.2.1)),(.mp 1),(.ref 4 2 0 0 y.2.2.2.length .virt)]),(.map (b8 .i64 (fun y=>AV.agg (aD y)) y.2.2.1) y.2.2.1.length),(.arr 4 (List.map aA y.2.2.2) 0 0 false)]) (fun y=>[]) r):=by
 unfold oV at h
 let u3:List Ans:=[.call ⟨true,[]⟩ (.hp 0 0) [(.row [.nils,.nils,(.mp 1),.nils]),(.map (b8 .i64 (fun y=>AV.agg (aD y)) ([]:Ty2)) ([]:Ty2).length)],.n x1.length,.norm 2 ⟨[(4,[]),(10,[]),(11,[]),(12,[])],[⟨.tmp 4,[(0,2),(1,3)],none⟩,⟨.cell 0 2,[],none⟩,⟨.cell 0 3,[],some 4⟩],false,[],[]⟩,.n 0,.rows (List.map aA [])]
 let w4:List Prf:=[⟨(eT aA (l:=[]) (n:=0) rfl)⟩,⟨(rfl:0=0)⟩,⟨(zle 0)⟩,⟨(aY aA x1)⟩,⟨(aCP)⟩]
 obtain⟨x2,e0,h⟩:=bsm h
 cases x2 with
 | inl x3 =>
  simp only[Sum.elim_inl] at h
  obtain rfl:=osi h
  exact Tri.of (x:=X27) aE aM2 (u3++[.out (.st .normal (aGY x3.1 x3.2.1 x3.2.2.1 x3.2.2.2)),.norm 0 ⟨[(2,[]),(3,[])],[⟨.tmp 2,[],none⟩,⟨.cell 0 2,[],none⟩,⟨.cell 0 3,[],none⟩],false,[],[]⟩]) ([⟨(LT.block (pB x1 _ k 0 [] [] ([]:Ty2) [] e0))⟩]++w4) (by kernel_rfl)
 | inr x3 =>
  simp only[Sum.elim_inr] at h
  obtain rfl:=osi h
  exact Tri.of (x:=X27) aE aM2 (u3++[.out (.fin (Sum.elim (fun y=>(.tup [(.hp 0 0),(.int .i64 0)])) (fun y=>(.tup [.nilp,(.int .i64 4)])) x3) (Sum.elim (fun y=>[(.row [(.sl 2 (List.map aB y.1)),(.sl 3 (List.map aC y.2.1)),(.mp 1),(.ref 4 2 0 0 y.2.2.2.length .virt)]),(.map (b8 .i64 (fun y=>AV.agg (aD y)) y.2.2.1) y.2.2.1.length),(.arr 4 (List.map aA y.2.2.2) 0 0 false)]) (fun y=>[]) x3))]) ([⟨(LT.blockFin (id:=0) (pB x1 _ k 0 [] [] ([]:Ty2) [] e0))⟩]++w4) (by kernel_rfl)
end Go.Ws

namespace Go.Ws
open Go.Proofs
set_option linter.unusedSimpArgs false
set_option linter.unusedVariables false
set_option maxRecDepth 1000000
set_option maxHeartbeats 4000000
noncomputable def X9:Ctx:=⟨Try.f9,[],false⟩
noncomputable def L9_0:Code:=at_ Try.f9 [1,1,1,0,1,4,5]
def S9_0 (x1:Ty7) (dR:Int) (dW:aG):St:=⟨mkT 33 [(6,(.mp 0)),(17,(.sl 4 (List.map aA x1))),(18,(.int .i64 (nI x1.length))),(19,(.int .i64 dR))],[(.map (b8 .i64 (fun y=>(bE y).headD aK) dW) dW.length)]⟩
def aLV (aNN:aG):St:=⟨mkT 33 [(6,(.mp 0))],[(.map (b8 .i64 (fun y=>(bE y).headD aK) aNN) aNN.length)]⟩
def O9_0 (x1:Ty7) (y:(aG)):GX:=.st (.exit 0) (aLV y)
theorem qB (x1:Ty7) (y:(aG)):∀(k:Nat) (dR:Int) (dW:aG),eN k x1 dR dW=some y→LT Try.prog X9 L9_0 (S9_0 x1 dR dW) (O9_0 x1 y)
 | 0,dR,dW,h=>by cases h
 | k+1,dR,dW,h=>by
  rw[eN] at h
  by_cases cL0:ltI dR (nI x1.length)=true
  · rw[if_pos cL0] at h
    by_cases cL1:inI dR x1.length=true
    · rw[if_pos cL1] at h
      obtain⟨iG,eL2,h⟩:=bsm h
      let u1:List Ans:=[dt,.n x1.length,.row [(.int .i64 iG.1),(.int .i64 iG.2.1),(.int .u8 iG.2.2.1),(.int .i64 iG.2.2.2)]]
      let w2:List Prf:=[⟨(cS (e:=aA) eL2 4 0 4 (by decide))⟩,⟨cL1⟩,⟨(aY aA x1)⟩,⟨cL0⟩]
      by_cases cL3:eqI iG.1 6=true
      · rw[if_pos cL3] at h
        exact LT.next aE (hs:=⟨[(6,[]),(17,[]),(18,[]),(19,[])],[⟨.tmp 6,[],none⟩],false,[],[]⟩) (es:=none) (u1++[dt,.ents (b8 .i64 (fun y=>(bE y).headD aK) (aZ dW iG.2.1 iG.2.2.2)) (aZ dW iG.2.1 iG.2.2.2).length]) ([⟨(lP .i64 (fun y=>(bE y).headD aK) dW iG.2.1 iG.2.2.2)⟩,⟨cL3⟩]++w2) (by kernel_rfl) (qB x1 y k (aH .i64 dR 1) (aZ dW iG.2.1 iG.2.2.2) h)
      rw[if_neg cL3] at h;replace cL3:=eqf cL3
      exact LT.next aE (hs:=⟨[(6,[]),(17,[]),(18,[]),(19,[])],[⟨.tmp 6,[],none⟩],false,[],[]⟩) (es:=none) (u1++[df]) ([⟨cL3⟩]++w2) (by kernel_rfl) (qB x1 y k (aH .i64 dR 1) dW h)
    rw[if_neg cL1] at h;replace cL1:=eqf cL1
    cases h
  rw[if_neg cL0] at h;replace cL0:=eqf cL0
  obtain rfl:=osi h
  show LT _ _ _ _ (.st (.exit 0) (aLV dW))
  exact LT.done aE (hs:=⟨[],[],false,[],[]⟩) (es:=(some ⟨[(6,[])],[⟨.tmp 6,[],none⟩],false,[],[]⟩)) [df] [⟨cL0⟩] (by kernel_rfl) (fun s h=>by cases h)
theorem gQ (k:Nat) (x1:Ty7) (r:(Sum (aG) (Unit))) (h:kL k x1=some r):Tri Try.prog 9 [(.sl 4 (List.map aA x1))] [] (Sum.elim (fun y=>(.tup [(.mp 0),(.int .i64 0)])) (fun y=>(.tup [.mapn,(.int .i64 4)])) r) (Sum.elim (fun y=>[(.map (b8 .i64 (fun y=>(bE y).headD aK) y) y.length)]) (fun y=>[]) r):=by
 unfold kL at h
 obtain⟨x2,e0,h⟩:=bsm h
 cases x2 with
 | inl x3 =>
  simp only[Sum.elim_inl] at h
  obtain⟨x5,e2,h⟩:=bsm h
  obtain rfl:=osi h
  exact Tri.of (x:=X9) aE facts9 [.call ⟨true,[]⟩ (.tup [(.hp 0 0),(.int .i64 0)]) [(.row [(.sl 2 (List.map aB x3.1)),(.sl 3 (List.map aC x3.2.1)),(.mp 1),(.ref 4 2 0 0 x3.2.2.2.length .virt)]),(.map (b8 .i64 (fun y=>AV.agg (aD y)) x3.2.2.1) x3.2.2.1.length),(.arr 4 (List.map aA x3.2.2.2) 0 0 false)],df,.n x1.length,.norm 2 ⟨[(6,[]),(17,[]),(18,[]),(19,[])],[⟨.tmp 6,[],none⟩],false,[],[]⟩,.out (.st .normal (aLV x5)),.norm 0 ⟨[(2,[]),(3,[])],[⟨.tmp 2,[],none⟩],false,[],[]⟩] [⟨(LT.block (qB x1 _ k 0 ([]:aG) e2))⟩,⟨(aY aA x1)⟩,⟨(nF (rfl:eqI 0 0=true))⟩,⟨(wL k x1 (.inl x3) e0)⟩] (by kernel_rfl)
 | inr x3 =>
  simp only[Sum.elim_inr] at h
  obtain rfl:=osi h
  exact Tri.of (x:=X9) aE facts9 [.call ⟨true,[]⟩ (.tup [.nilp,(.int .i64 4)]) [],dt,.norm 0 ⟨[(2,[]),(3,[])],[],false,[],[]⟩] [⟨(nT (rfl:eqI 4 0=false))⟩,⟨(wL k x1 (.inr x3) e0)⟩] (by kernel_rfl)
end Go.Ws

namespace Go.Ws
open Go.Proofs
set_option linter.unusedSimpArgs false
set_option linter.unusedVariables false
set_option maxRecDepth 1000000
set_option maxHeartbeats 4000000
noncomputable def X14:Ctx:=⟨Try.f14,[],true⟩
noncomputable def L14_2:Code:=at_ Try.f14 [1,1,1,0,1,4,5]
def S14_2 (x1:Ty7) (eL:Int):St:=⟨mkT 39 [(4,.mapn),(5,(.int .i64 4)),(6,(.int .i64 0)),(14,(.sl 4 (List.map aA x1))),(15,(.int .i64 (nI x1.length))),(16,(.int .i64 eL))],[]⟩
def aHU:St:=⟨mkT 39 [(5,(.int .i64 4)),(6,(.int .i64 0))],[]⟩
def O14_2 (x1:Ty7) (y:(Unit)):GX:=.st (.exit 0) (aHU)
noncomputable def L14_1:Code:=at_ Try.f14 [1,1,1,0,1,4,5]
def S14_1 (x1:Ty7) (x3:aG) (cI:Int) (b5:Int):St:=⟨mkT 39 [(4,(.mp 0)),(5,(.int .i64 0)),(6,(.int .i64 cI)),(14,(.sl 4 (List.map aA x1))),(15,(.int .i64 (nI x1.length))),(16,(.int .i64 b5))],[(.map (b8 .i64 (fun y=>(bE y).headD aK) x3) x3.length)]⟩
def aHC (v14012_1:Int):St:=⟨mkT 39 [(5,(.int .i64 0)),(6,(.int .i64 v14012_1))],[]⟩
def O14_1 (x1:Ty7) (x3:aG) (y:(Int)):GX:=.st (.exit 0) (aHC y)
theorem sU (x1:Ty7) (y:(Unit)):∀(k:Nat) (eL:Int),fL k x1 eL=some y→LT Try.prog X14 L14_2 (S14_2 x1 eL) (O14_2 x1 y)
 | 0,eL,h=>by cases h
 | k+1,eL,h=>by
  rw[fL] at h
  by_cases cL0:ltI eL (nI x1.length)=true
  · rw[if_pos cL0] at h
    by_cases cL1:inI eL x1.length=true
    · rw[if_pos cL1] at h
      obtain⟨xX,eL2,h⟩:=bsm h
      exact LT.next aE (hs:=⟨[(4,[]),(5,[]),(6,[]),(14,[]),(15,[]),(16,[])],[],false,[],[]⟩) (es:=none) [dt,.n x1.length,.row [(.int .i64 xX.1),(.int .i64 xX.2.1),(.int .u8 xX.2.2.1),(.int .i64 xX.2.2.2)],df,df,df,df,df,df,df,df,df,df,df] [⟨rF⟩,⟨rF⟩,⟨rF⟩,⟨rF⟩,⟨rF⟩,⟨rF⟩,⟨rF⟩,⟨(rfl:eqI 4 0=false)⟩,⟨(rfl:eqI 4 0=false)⟩,⟨(rfl:eqI 4 0=false)⟩,⟨(rfl:eqI 4 0=false)⟩,⟨(cS (e:=aA) eL2 4 0 4 (by decide))⟩,⟨cL1⟩,⟨(aY aA x1)⟩,⟨cL0⟩] (by kernel_rfl) (sU x1 y k (aH .i64 eL 1) h)
    rw[if_neg cL1] at h;replace cL1:=eqf cL1
    cases h
  rw[if_neg cL0] at h;replace cL0:=eqf cL0
  obtain rfl:=osi h
  show LT _ _ _ _ (.st (.exit 0) (aHU))
  exact LT.done aE (hs:=⟨[],[],false,[],[]⟩) (es:=(some ⟨[(5,[]),(6,[])],[],false,[],[]⟩)) [df] [⟨cL0⟩] (by kernel_rfl) (fun s h=>by cases h)
theorem jN (x1:Ty7) (x3:aG) (y:(Int)):∀(k:Nat) (cI:Int) (b5:Int),cT k x1 x3 cI b5=some y→LT Try.prog X14 L14_1 (S14_1 x1 x3 cI b5) (O14_1 x1 x3 y)
 | 0,cI,b5,h=>by cases h
 | k+1,cI,b5,h=>by
  rw[cT] at h
  by_cases cL0:ltI b5 (nI x1.length)=true
  · rw[if_pos cL0] at h
    by_cases cL1:inI b5 x1.length=true
    · rw[if_pos cL1] at h
      obtain⟨kI,eL2,h⟩:=bsm h
      let u1:List Ans:=[dt,.n x1.length,.row [(.int .i64 kI.1),(.int .i64 kI.2.1),(.int .u8 kI.2.2.1),(.int .i64 kI.2.2.2)],dt,dt,dt,dt]
      let w2:List Prf:=[⟨(rfl:eqI 0 0=true)⟩,⟨(rfl:eqI 0 0=true)⟩,⟨(rfl:eqI 0 0=true)⟩,⟨(rfl:eqI 0 0=true)⟩,⟨(cS (e:=aA) eL2 4 0 4 (by decide))⟩,⟨cL1⟩,⟨(aY aA x1)⟩,⟨cL0⟩]
      by_cases cL3:eqI kI.1 5=true
      · rw[if_pos cL3] at h
        by_cases cL4:mN x3 kI.2.1=true
        · rw[if_pos cL4] at h
          obtain⟨vC,eL5,h⟩:=bsm h
          let u5:List Ans:=u1++[dt,dt,dt,dt,.opt (some (.int .i64 vC)),dt,dt]
          let w6:List Prf:=[⟨cL3⟩,⟨cL3⟩,⟨(iS .i64 (fun y=>(bE y).headD aK) eL5)⟩,⟨cL3⟩,⟨cL3⟩,⟨cL3⟩,⟨cL3⟩]++w2
          by_cases cL6:eqI vC 2=true
          · rw[if_pos cL6] at h
            exact LT.next aE (hs:=⟨[(4,[]),(5,[]),(6,[]),(14,[]),(15,[]),(16,[])],[⟨.tmp 4,[],none⟩],false,[],[]⟩) (es:=none) (u5++[dt]) ([⟨cL6⟩]++w6) (by kernel_rfl) (jN x1 x3 y k (aH .i64 cI 1) (aH .i64 b5 1) h)
          rw[if_neg cL6] at h;replace cL6:=eqf cL6
          exact LT.next aE (hs:=⟨[(4,[]),(5,[]),(6,[]),(14,[]),(15,[]),(16,[])],[⟨.tmp 4,[],none⟩],false,[],[]⟩) (es:=none) (u5++[df]) ([⟨cL6⟩]++w6) (by kernel_rfl) (jN x1 x3 y k cI (aH .i64 b5 1) h)
        rw[if_neg cL4] at h;replace cL4:=eqf cL4
        exact LT.next aE (hs:=⟨[(4,[]),(5,[]),(6,[]),(14,[]),(15,[]),(16,[])],[⟨.tmp 4,[],none⟩],false,[],[]⟩) (es:=none) (u1++[dt,dt,dt,dt,.opt none,dt,dt,df]) ([⟨(rfl:eqI 0 2=false)⟩,⟨cL3⟩,⟨cL3⟩,⟨(mF .i64 (fun y=>(bE y).headD aK) cL4)⟩,⟨cL3⟩,⟨cL3⟩,⟨cL3⟩,⟨cL3⟩]++w2) (by kernel_rfl) (jN x1 x3 y k cI (aH .i64 b5 1) h)
      rw[if_neg cL3] at h;replace cL3:=eqf cL3
      exact LT.next aE (hs:=⟨[(4,[]),(5,[]),(6,[]),(14,[]),(15,[]),(16,[])],[⟨.tmp 4,[],none⟩],false,[],[]⟩) (es:=none) (u1++[df,df,df,df,df,df,df]) ([⟨rF⟩,⟨cL3⟩,⟨cL3⟩,⟨cL3⟩,⟨cL3⟩,⟨cL3⟩,⟨cL3⟩]++w2) (by kernel_rfl) (jN x1 x3 y k cI (aH .i64 b5 1) h)
    rw[if_neg cL1] at h;replace cL1:=eqf cL1
    cases h
  rw[if_neg cL0] at h;replace cL0:=eqf cL0
  obtain rfl:=osi h
  show LT _ _ _ _ (.st (.exit 0) (aHC cI))
  exact LT.done aE (hs:=⟨[],[],false,[],[]⟩) (es:=(some ⟨[(5,[]),(6,[])],[],false,[],[]⟩)) [df] [⟨cL0⟩] (by kernel_rfl) (fun s h=>by cases h)
theorem oH (k:Nat) (x1:Ty7) (r:Int × Int) (h:jA k x1=some r):Tri Try.prog 14 [(.sl 4 (List.map aA x1))] [] (.tup [(.int .i64 r.1),(.int .i64 r.2)]) []:=by
 unfold jA at h
 obtain⟨x2,e0,h⟩:=bsm h
 cases x2 with
 | inl x3 =>
  simp only[Sum.elim_inl] at h
  obtain⟨x5,e2,h⟩:=bsm h
  obtain rfl:=osi h
  exact Tri.of (x:=X14) aE aLY [.call ⟨true,[]⟩ (.tup [(.mp 0),(.int .i64 0)]) [(.map (b8 .i64 (fun y=>(bE y).headD aK) x3) x3.length)],.n x1.length,.norm 2 ⟨[(4,[]),(5,[]),(6,[]),(14,[]),(15,[]),(16,[])],[⟨.tmp 4,[],none⟩],false,[],[]⟩,.out (.st .normal (aHC x5))] [⟨(LT.block (jN x1 x3 _ k 0 0 e2))⟩,⟨(aY aA x1)⟩,⟨(gQ k x1 (.inl x3) e0)⟩] (by kernel_rfl)
 | inr x3 =>
  simp only[Sum.elim_inr] at h
  obtain⟨x5,e2,h⟩:=bsm h
  obtain rfl:=osi h
  exact Tri.of (x:=X14) aE aLY [.call ⟨true,[]⟩ (.tup [.mapn,(.int .i64 4)]) [],.n x1.length,.norm 2 ⟨[(4,[]),(5,[]),(6,[]),(14,[]),(15,[]),(16,[])],[],false,[],[]⟩,.out (.st .normal (aHU))] [⟨(LT.block (sU x1 _ k 0 e2))⟩,⟨(aY aA x1)⟩,⟨(gQ k x1 (.inr x3) e0)⟩] (by kernel_rfl)
end Go.Ws

namespace Go.Ws
open Go.Proofs
set_option linter.unusedSimpArgs false
set_option linter.unusedVariables false
set_option maxRecDepth 1000000
set_option maxHeartbeats 4000000
noncomputable def X12:Ctx:=⟨Try.f12,[],true⟩
noncomputable def L12_0:Code:=at_ Try.f12 [1,1,1,1,0,1,4,5]
def S12_0 (x1:Ty7) (x3:aG) (b6:Int) (aL:aG):St:=⟨mkT 46 [(4,(.mp 0)),(6,(.ref 2 1 0 0 aL.length .virt)),(17,(.sl 4 (List.map aA x1))),(18,(.int .i64 (nI x1.length))),(19,(.int .i64 b6))],[(.map (b8 .i64 (fun y=>(bE y).headD aK) x3) x3.length),(.arr 2 (List.map aB aL) 0 0 false)]⟩
def aG9 (aKM:aG):St:=⟨mkT 46 [(6,(.ref 2 0 0 0 aKM.length .virt))],[(.arr 2 (List.map aB aKM) 0 0 false)]⟩
def O12_0 (x1:Ty7) (x3:aG) (y:(aG)):GX:=.st (.exit 0) (aG9 y)
theorem jM (x1:Ty7) (x3:aG) (y:(aG)):∀(k:Nat) (b6:Int) (aL:aG),cU k x1 x3 b6 aL=some y→LT Try.prog X12 L12_0 (S12_0 x1 x3 b6 aL) (O12_0 x1 x3 y)
 | 0,b6,aL,h=>by cases h
 | k+1,b6,aL,h=>by
  rw[cU] at h
  by_cases cL0:ltI b6 (nI x1.length)=true
  · rw[if_pos cL0] at h
    by_cases cL1:inI b6 x1.length=true
    · rw[if_pos cL1] at h
      obtain⟨cR,eL2,h⟩:=bsm h
      let u1:List Ans:=[dt,.n x1.length,.row [(.int .i64 cR.1),(.int .i64 cR.2.1),(.int .u8 cR.2.2.1),(.int .i64 cR.2.2.2)]]
      let w2:List Prf:=[⟨(cS (e:=aA) eL2 4 0 4 (by decide))⟩,⟨cL1⟩,⟨(aY aA x1)⟩,⟨cL0⟩]
      by_cases cL3:eqI cR.1 3=true
      · rw[if_pos cL3] at h
        by_cases cL4:mN x3 cR.2.1=true
        · rw[if_pos cL4] at h
          obtain⟨vD,eL5,h⟩:=bsm h
          let u5:List Ans:=u1++[dt,dt,dt,dt,.opt (some (.int .i64 vD)),dt,dt]
          let w6:List Prf:=[⟨cL3⟩,⟨cL3⟩,⟨(iS .i64 (fun y=>(bE y).headD aK) eL5)⟩,⟨cL3⟩,⟨cL3⟩,⟨cL3⟩,⟨cL3⟩]++w2
          by_cases cL6:eqI vD 1=true
          · rw[if_pos cL6] at h
            by_cases cL7:dF (((aL++[cR.2.2]).length)*16)=true
            · rw[if_pos cL7] at h
              exact LT.next aE (hs:=⟨[(4,[]),(6,[]),(17,[]),(18,[]),(19,[])],[⟨.tmp 4,[],none⟩,⟨.tmp 6,[],some 2⟩],false,[],[]⟩) (es:=none) (u5++[dt,.rows (List.map aB [cR.2.2]),.n ((aL++[cR.2.2]).length),.n aL.length,dt,.rows (List.map aB (aL++[cR.2.2])),.n ((aL++[cR.2.2]).length),.rows (List.map aB (aL++[cR.2.2]))]) ([⟨(eT aB (l:=(aL++[cR.2.2])) (n:=((aL++[cR.2.2]).length)) rfl)⟩,⟨(rfl:(aL++[cR.2.2]).length=(aL++[cR.2.2]).length)⟩,⟨(zle ((aL++[cR.2.2]).length))⟩,⟨(aDS aB aL [cR.2.2])⟩,⟨(aA4 aL.length)⟩,⟨(aY aB aL)⟩,⟨cL7⟩,⟨(by simp only[wl,List.length_map,List.map_nil,List.map_cons]<;>omega:aL.length+(List.map aB [cR.2.2]).length=(aL++[cR.2.2]).length)⟩,⟨(cH aB (l:=[cR.2.2]) (n:=1) rfl)⟩,⟨(eR aB (Nat.le_refl 1):0+1≤(List.map aB [cR.2.2]).length)⟩,⟨cL6⟩]++w6) (by kernel_rfl) (jM x1 x3 y k (aH .i64 b6 1) (aL++[cR.2.2]) h)
            rw[if_neg cL7] at h;replace cL7:=eqf cL7
            cases h
          rw[if_neg cL6] at h;replace cL6:=eqf cL6
          exact LT.next aE (hs:=⟨[(4,[]),(6,[]),(17,[]),(18,[]),(19,[])],[⟨.tmp 4,[],none⟩,⟨.tmp 6,[],some 2⟩],false,[],[]⟩) (es:=none) (u5++[df,.n aL.length,.rows (List.map aB aL)]) ([⟨(eT aB (l:=aL) (n:=aL.length) rfl)⟩,⟨(rfl:aL.length=aL.length)⟩,⟨(zle aL.length)⟩,⟨cL6⟩]++w6) (by kernel_rfl) (jM x1 x3 y k (aH .i64 b6 1) aL h)
        rw[if_neg cL4] at h;replace cL4:=eqf cL4
        exact LT.next aE (hs:=⟨[(4,[]),(6,[]),(17,[]),(18,[]),(19,[])],[⟨.tmp 4,[],none⟩,⟨.tmp 6,[],some 2⟩],false,[],[]⟩) (es:=none) (u1++[dt,dt,dt,dt,.opt none,dt,dt,df,.n aL.length,.rows (List.map aB aL)]) ([⟨(eT aB (l:=aL) (n:=aL.length) rfl)⟩,⟨(rfl:aL.length=aL.length)⟩,⟨(zle aL.length)⟩,⟨(rfl:eqI 0 1=false)⟩,⟨cL3⟩,⟨cL3⟩,⟨(mF .i64 (fun y=>(bE y).headD aK) cL4)⟩,⟨cL3⟩,⟨cL3⟩,⟨cL3⟩,⟨cL3⟩]++w2) (by kernel_rfl) (jM x1 x3 y k (aH .i64 b6 1) aL h)
      rw[if_neg cL3] at h;replace cL3:=eqf cL3
      exact LT.next aE (hs:=⟨[(4,[]),(6,[]),(17,[]),(18,[]),(19,[])],[⟨.tmp 4,[],none⟩,⟨.tmp 6,[],some 2⟩],false,[],[]⟩) (es:=none) (u1++[df,df,df,df,df,df,df,.n aL.length,.rows (List.map aB aL)]) ([⟨(eT aB (l:=aL) (n:=aL.length) rfl)⟩,⟨(rfl:aL.length=aL.length)⟩,⟨(zle aL.length)⟩,⟨rF⟩,⟨cL3⟩,⟨cL3⟩,⟨cL3⟩,⟨cL3⟩,⟨cL3⟩,⟨cL3⟩]++w2) (by kernel_rfl) (jM x1 x3 y k (aH .i64 b6 1) aL h)
    rw[if_neg cL1] at h;replace cL1:=eqf cL1
    cases h
  rw[if_neg cL0] at h;replace cL0:=eqf cL0
  obtain rfl:=osi h
  show LT _ _ _ _ (.st (.exit 0) (aG9 aL))
  exact LT.done aE (hs:=⟨[],[],false,[],[]⟩) (es:=(some ⟨[(6,[])],[⟨.tmp 6,[],none⟩],false,[],[]⟩)) [df] [⟨cL0⟩] (by kernel_rfl) (fun s h=>by cases h)
theorem rD (k:Nat) (x1:Ty7) (r:aG × Int) (h:kC k x1=some r):Tri Try.prog 12 [(.sl 4 (List.map aA x1))] [] (.tup [(.sl 2 (List.map aB r.1)),(.int .i64 r.2)]) []:=by
 unfold kC at h
 obtain⟨x2,e0,h⟩:=bsm h
 cases x2 with
 | inl x3 =>
  simp only[Sum.elim_inl] at h
  obtain⟨x5,e2,h⟩:=bsm h
  obtain⟨x6,e4,h⟩:=bsm h
  obtain rfl:=osi h
  exact Tri.of (x:=X12) aE aNG [.call ⟨true,[]⟩ (.tup [(.mp 0),(.int .i64 0)]) [(.map (b8 .i64 (fun y=>(bE y).headD aK) x3) x3.length)],df,.n x1.length,.norm 2 ⟨[(4,[]),(6,[]),(17,[]),(18,[]),(19,[])],[⟨.tmp 4,[],none⟩,⟨.tmp 6,[],some 2⟩],false,[],[]⟩,.n 0,.rows (List.map aB []),.out (.st .normal (aG9 x5)),.call ⟨true,[[(0,2)]]⟩ (.tup [(.sl 2 (List.map aB x6.1)),(.int .i64 x6.2)]) [],.rows (List.map aB x5)] [⟨(n9 k [] x5 _ e4)⟩,⟨(cH aB (l:=x5) (n:=x5.length) rfl)⟩,⟨(eR aB (Nat.le_refl x5.length):0+x5.length≤(List.map aB x5).length)⟩,⟨(LT.block (jM x1 x3 _ k 0 [] e2))⟩,⟨(eT aB (l:=[]) (n:=0) rfl)⟩,⟨(rfl:0=0)⟩,⟨(zle 0)⟩,⟨(aY aA x1)⟩,⟨(nF (rfl:eqI 0 0=true))⟩,⟨(gQ k x1 (.inl x3) e0)⟩] (by kernel_rfl)
 | inr x3 =>
  simp only[Sum.elim_inr] at h
  obtain rfl:=osi h
  exact Tri.of (x:=X12) aE aNG [.call ⟨true,[]⟩ (.tup [.mapn,(.int .i64 4)]) [],dt,.norm 0 ⟨[(2,[(0,2)]),(3,[])],[],false,[],[]⟩] [⟨(nT (rfl:eqI 4 0=false))⟩,⟨(gQ k x1 (.inr x3) e0)⟩] (by kernel_rfl)
end Go.Ws

namespace Go.Ws
open Go.Proofs
set_option linter.unusedSimpArgs false
set_option linter.unusedVariables false
set_option maxRecDepth 1000000
set_option maxHeartbeats 4000000
theorem aFA (x1:aG):Tri Try.prog 18 [(.ps [(.mp 0),.mapn,(.mp 0)])] [(.map (b8 .i64 (fun y=>(bE y).headD aK) x1) x1.length)] (.bool (o8 x1)) [(.map (b8 .i64 (fun y=>(bE y).headD aK) x1) x1.length)]:=aOM
end Go.Ws

namespace Go.Ws
open Go.Proofs
set_option linter.unusedSimpArgs false
set_option linter.unusedVariables false
set_option maxRecDepth 1000000
set_option maxHeartbeats 4000000
theorem aBO (x1:aG) (x2:aG):Tri Try.prog 18 [(.ps [(.mp 0),(.mp 1)])] [(.map (b8 .i64 (fun y=>(bE y).headD aK) x1) x1.length),(.map (b8 .i64 (fun y=>(bE y).headD aK) x2) x2.length)] (.bool (nS x1 x2)) [(.map (b8 .i64 (fun y=>(bE y).headD aK) x1) x1.length),(.map (b8 .i64 (fun y=>(bE y).headD aK) x2) x2.length)]:=agree_01
end Go.Ws

namespace Go.Ws
open Go.Proofs
set_option linter.unusedSimpArgs false
set_option linter.unusedVariables false
set_option maxRecDepth 1000000
set_option maxHeartbeats 4000000
noncomputable def X8:Ctx:=⟨Try.f8,[],true⟩
def A8_0 (x6:aG):Ans:=.call ⟨true,[]⟩ (.tup [(.mp 0),(.int .i64 0)]) [(.map (b8 .i64 (fun y=>(bE y).headD aK) x6) x6.length)]
def A8_1:Ans:=.call ⟨true,[]⟩ (.tup [.mapn,(.int .i64 4)]) []
theorem xI (k:Nat) (r:Bool) (h:o7 k=some r):Tri Try.prog 8 [] [] (.bool r) []:=by
 unfold o7 at h
 let u1:List Ans:=[.call ⟨true,[]⟩ (.sl 4 (List.map aA aJ)) [],.n aJ.length]
 let w2:List Prf:=[⟨(aY aA aJ)⟩,⟨(aC3)⟩]
 by_cases c0:eqI (nI aJ.length) 0=true
 · rw[if_pos c0] at h
   obtain rfl:=osi h
   exact Tri.of (x:=X8) aE lA (u1++[dt]) ([⟨c0⟩]++w2) (by kernel_rfl)
 rw[if_neg c0] at h;replace c0:=eqf c0
 obtain⟨x1,e1,h⟩:=bsm h
 cases x1 with
 | inl x2 =>
  simp only[Sum.elim_inl] at h
  obtain⟨x3,e3,h⟩:=bsm h
  obtain⟨x4,e4,h⟩:=bsm h
  by_cases c5:leI 1 aJ.length=true
  · rw[if_pos c5] at h
    let u5:List Ans:=u1++[df,.call ⟨true,[]⟩ (.tup [(.mp 0),(.int .i64 0)]) [(.map (b8 .i64 (fun y=>(bE y).headD aK) x2) x2.length)],.call ⟨true,[]⟩ (.tup [(.int .i64 x3.1),(.int .i64 x3.2)]) [],.call ⟨true,[]⟩ (.tup [(.sl 2 (List.map aB x4.1)),(.int .i64 x4.2)]) [],.n aJ.length,.rows (List.map aA (List.drop 1 aJ))]
    let w6:List Prf:=[⟨(aJX aA (l:=aJ) (n:=aJ.length) rfl 1)⟩,⟨c5⟩,⟨(aY aA aJ)⟩,⟨(rD k aJ _ e4)⟩,⟨(oH k aJ _ e3)⟩,⟨(gQ k aJ (.inl x2) e1)⟩,⟨c0⟩]++w2
    obtain⟨x5,e6,h⟩:=bsm h
    cases x5 with
    | inl x6 =>
     simp only[Sum.elim_inl] at h
     let u7:List Ans:=u5++[(A8_0 x6),dt,dt,.n x2.length,dt,dt]
     let w8:List Prf:=[⟨(rfl:eqI 0 0=true)⟩,⟨(rfl:eqI 0 0=true)⟩,⟨(aCW .i64 (fun y=>(bE y).headD aK) x2)⟩,⟨(rfl:eqI 0 0=true)⟩,⟨(rfl:eqI 0 0=true)⟩,⟨(gQ k (List.drop 1 aJ) (.inl x6) e6)⟩]++w6
     by_cases c8:eqI (nI x2.length) 1=true
     · rw[if_pos c8] at h
       by_cases c9:mN x2 1=true
       · rw[if_pos c9] at h
         obtain⟨x7,e10,h⟩:=bsm h
         let u11:List Ans:=u7++[dt,dt,.opt (some (.int .i64 x7)),dt,dt]
         let w12:List Prf:=[⟨c8⟩,⟨c8⟩,⟨(iS .i64 (fun y=>(bE y).headD aK) e10)⟩,⟨c8⟩,⟨c8⟩]++w8
         by_cases c11:eqI x7 2=true
         · rw[if_pos c11] at h
           by_cases c12:eqI x3.1 1=true
           · rw[if_pos c12] at h
             let w16:List Prf:=[⟨c12⟩,⟨c12⟩,⟨c12⟩,⟨c11⟩,⟨c11⟩,⟨c11⟩]++w12
             by_cases c13:eqI x3.2 0=true
             · rw[if_pos c13] at h
               let u17:List Ans:=u11++[dt,dt,dt,dt,dt,dt,dt,dt,.n x4.1.length,dt,dt]
               let w18:List Prf:=[⟨c13⟩,⟨c13⟩,⟨(aY aB x4.1)⟩,⟨c13⟩,⟨c13⟩]++w16
               by_cases c14:eqI (nI x4.1.length) 0=true
               · rw[if_pos c14] at h
                 by_cases c15:eqI x4.2 0=true
                 · rw[if_pos c15] at h
                   obtain rfl:=osi h
                   exact Tri.of (x:=X8) aE lA (u17++[dt,dt,dt,dt,dt,dt,df,df,df,df,df,df,df,df,df,df,df,df,df]) ([⟨rF⟩,⟨rF⟩,⟨rF⟩,⟨rF⟩,⟨rF⟩,⟨rF⟩,⟨rF⟩,⟨rF⟩,⟨(rfl:eqI 0 4=false)⟩,⟨(rfl:eqI 0 4=false)⟩,⟨(rfl:eqI 0 4=false)⟩,⟨(rfl:eqI 0 4=false)⟩,⟨(rfl:eqI 0 4=false)⟩,⟨c15⟩,⟨c15⟩,⟨c15⟩,⟨c14⟩,⟨c14⟩,⟨c14⟩]++w18) (by kernel_rfl)
                 rw[if_neg c15] at h;replace c15:=eqf c15
                 obtain rfl:=osi h
                 exact Tri.of (x:=X8) aE lA (u17++[dt,dt,dt,df,df,df,df,df,df,df,df,df,df,df,df,df,df,df,df]) ([⟨rF⟩,⟨rF⟩,⟨rF⟩,⟨rF⟩,⟨rF⟩,⟨rF⟩,⟨rF⟩,⟨rF⟩,⟨rF⟩,⟨rF⟩,⟨rF⟩,⟨rF⟩,⟨rF⟩,⟨c15⟩,⟨c15⟩,⟨c15⟩,⟨c14⟩,⟨c14⟩,⟨c14⟩]++w18) (by kernel_rfl)
               rw[if_neg c14] at h;replace c14:=eqf c14
               obtain rfl:=osi h
               exact Tri.of (x:=X8) aE lA (u17++[df,df,df,df,df,df,df,df,df,df,df,df,df,df,df,df,df,df,df]) ([⟨rF⟩,⟨rF⟩,⟨rF⟩,⟨rF⟩,⟨rF⟩,⟨rF⟩,⟨rF⟩,⟨rF⟩,⟨rF⟩,⟨rF⟩,⟨rF⟩,⟨rF⟩,⟨rF⟩,⟨rF⟩,⟨rF⟩,⟨rF⟩,⟨c14⟩,⟨c14⟩,⟨c14⟩]++w18) (by kernel_rfl)
             rw[if_neg c13] at h;replace c13:=eqf c13
             obtain rfl:=osi h
             exact Tri.of (x:=X8) aE lA (u11++[dt,dt,dt,dt,dt,dt,df,df,df,df,df,df,df,df,df,df,df,df,df,df,df,df,df,df,df,df,df,df,df]) ([⟨rF⟩,⟨rF⟩,⟨rF⟩,⟨rF⟩,⟨rF⟩,⟨rF⟩,⟨rF⟩,⟨rF⟩,⟨rF⟩,⟨rF⟩,⟨rF⟩,⟨rF⟩,⟨rF⟩,⟨rF⟩,⟨rF⟩,⟨rF⟩,⟨rF⟩,⟨rF⟩,⟨rF⟩,⟨c13⟩,⟨c13⟩,⟨c13⟩,⟨c13⟩]++w16) (by kernel_rfl)
           rw[if_neg c12] at h;replace c12:=eqf c12
           obtain rfl:=osi h
           exact Tri.of (x:=X8) aE lA (u11++[dt,dt,dt,df,df,df,df,df,df,df,df,df,df,df,df,df,df,df,df,df,df,df,df,df,df,df,df,df,df]) ([⟨rF⟩,⟨rF⟩,⟨rF⟩,⟨rF⟩,⟨rF⟩,⟨rF⟩,⟨rF⟩,⟨rF⟩,⟨rF⟩,⟨rF⟩,⟨rF⟩,⟨rF⟩,⟨rF⟩,⟨rF⟩,⟨rF⟩,⟨rF⟩,⟨rF⟩,⟨rF⟩,⟨rF⟩,⟨rF⟩,⟨rF⟩,⟨rF⟩,⟨rF⟩,⟨c12⟩,⟨c12⟩,⟨c12⟩,⟨c11⟩,⟨c11⟩,⟨c11⟩]++w12) (by kernel_rfl)
         rw[if_neg c11] at h;replace c11:=eqf c11
         obtain rfl:=osi h
         exact Tri.of (x:=X8) aE lA (u11++[df,df,df,df,df,df,df,df,df,df,df,df,df,df,df,df,df,df,df,df,df,df,df,df,df,df,df,df,df]) ([⟨rF⟩,⟨rF⟩,⟨rF⟩,⟨rF⟩,⟨rF⟩,⟨rF⟩,⟨rF⟩,⟨rF⟩,⟨rF⟩,⟨rF⟩,⟨rF⟩,⟨rF⟩,⟨rF⟩,⟨rF⟩,⟨rF⟩,⟨rF⟩,⟨rF⟩,⟨rF⟩,⟨rF⟩,⟨rF⟩,⟨rF⟩,⟨rF⟩,⟨rF⟩,⟨rF⟩,⟨rF⟩,⟨rF⟩,⟨c11⟩,⟨c11⟩,⟨c11⟩]++w12) (by kernel_rfl)
       rw[if_neg c9] at h;replace c9:=eqf c9
       obtain rfl:=osi h
       exact Tri.of (x:=X8) aE lA (u7++[dt,dt,.opt none,dt,dt,df,df,df,df,df,df,df,df,df,df,df,df,df,df,df,df,df,df,df,df,df,df,df,df,df,df,df,df,df]) ([⟨rF⟩,⟨rF⟩,⟨rF⟩,⟨rF⟩,⟨rF⟩,⟨rF⟩,⟨rF⟩,⟨rF⟩,⟨rF⟩,⟨rF⟩,⟨rF⟩,⟨rF⟩,⟨rF⟩,⟨rF⟩,⟨rF⟩,⟨rF⟩,⟨rF⟩,⟨rF⟩,⟨rF⟩,⟨rF⟩,⟨rF⟩,⟨rF⟩,⟨rF⟩,⟨rF⟩,⟨rF⟩,⟨rF⟩,⟨(rfl:eqI 0 2=false)⟩,⟨(rfl:eqI 0 2=false)⟩,⟨(rfl:eqI 0 2=false)⟩,⟨c8⟩,⟨c8⟩,⟨(mF .i64 (fun y=>(bE y).headD aK) c9)⟩,⟨c8⟩,⟨c8⟩]++w8) (by kernel_rfl)
     rw[if_neg c8] at h;replace c8:=eqf c8
     obtain rfl:=osi h
     exact Tri.of (x:=X8) aE lA (u7++[df,df,df,df,df,df,df,df,df,df,df,df,df,df,df,df,df,df,df,df,df,df,df,df,df,df,df,df,df,df,df,df,df]) ([⟨rF⟩,⟨rF⟩,⟨rF⟩,⟨rF⟩,⟨rF⟩,⟨rF⟩,⟨rF⟩,⟨rF⟩,⟨rF⟩,⟨rF⟩,⟨rF⟩,⟨rF⟩,⟨rF⟩,⟨rF⟩,⟨rF⟩,⟨rF⟩,⟨rF⟩,⟨rF⟩,⟨rF⟩,⟨rF⟩,⟨rF⟩,⟨rF⟩,⟨rF⟩,⟨rF⟩,⟨rF⟩,⟨rF⟩,⟨rF⟩,⟨rF⟩,⟨rF⟩,⟨c8⟩,⟨c8⟩,⟨c8⟩,⟨c8⟩]++w8) (by kernel_rfl)
    | inr x6 =>
     simp only[Sum.elim_inr] at h
     let u21:List Ans:=u5++[A8_1,dt,dt,.n x2.length,dt,dt]
     let w22:List Prf:=[⟨(rfl:eqI 0 0=true)⟩,⟨(rfl:eqI 0 0=true)⟩,⟨(aCW .i64 (fun y=>(bE y).headD aK) x2)⟩,⟨(rfl:eqI 0 0=true)⟩,⟨(rfl:eqI 0 0=true)⟩,⟨(gQ k (List.drop 1 aJ) (.inr x6) e6)⟩]++w6
     by_cases c8:eqI (nI x2.length) 1=true
     · rw[if_pos c8] at h
       by_cases c9:mN x2 1=true
       · rw[if_pos c9] at h
         obtain⟨x7,e10,h⟩:=bsm h
         let u25:List Ans:=u21++[dt,dt,.opt (some (.int .i64 x7)),dt,dt]
         let w26:List Prf:=[⟨c8⟩,⟨c8⟩,⟨(iS .i64 (fun y=>(bE y).headD aK) e10)⟩,⟨c8⟩,⟨c8⟩]++w22
         by_cases c11:eqI x7 2=true
         · rw[if_pos c11] at h
           by_cases c12:eqI x3.1 1=true
           · rw[if_pos c12] at h
             let w30:List Prf:=[⟨c12⟩,⟨c12⟩,⟨c12⟩,⟨c11⟩,⟨c11⟩,⟨c11⟩]++w26
             by_cases c13:eqI x3.2 0=true
             · rw[if_pos c13] at h
               let u31:List Ans:=u25++[dt,dt,dt,dt,dt,dt,dt,dt,.n x4.1.length,dt,dt]
               let w32:List Prf:=[⟨c13⟩,⟨c13⟩,⟨(aY aB x4.1)⟩,⟨c13⟩,⟨c13⟩]++w30
               by_cases c14:eqI (nI x4.1.length) 0=true
               · rw[if_pos c14] at h
                 by_cases c15:eqI x4.2 0=true
                 · rw[if_pos c15] at h
                   let u35:List Ans:=u31++[dt,dt,dt,dt,dt,dt,dt,dt,dt,dt,.call ⟨true,[]⟩ (.bool (o8 x2)) [(.map (b8 .i64 (fun y=>(bE y).headD aK) x2) x2.length)],dt]
                   let w36:List Prf:=[⟨(rfl:eqI 4 4=true)⟩,⟨(aFA x2)⟩,⟨(rfl:eqI 4 4=true)⟩,⟨(rfl:eqI 4 4=true)⟩,⟨(rfl:eqI 4 4=true)⟩,⟨(rfl:eqI 4 4=true)⟩,⟨c15⟩,⟨c15⟩,⟨c15⟩,⟨c14⟩,⟨c14⟩,⟨c14⟩]++w32
                   by_cases c16:(o8 x2)=true
                   · rw[if_pos c16] at h
                     obtain rfl:=osi h
                     exact Tri.of (x:=X8) aE lA (u35++[dt,dt,dt,.ents (b8 .i64 (fun y=>(bE y).headD aK) (aZ ([]:aG) 1 1)) (aZ ([]:aG) 1 1).length,dt,dt,dt,.call ⟨true,[]⟩ (.bool (nS x2 (aZ ([]:aG) 1 1))) [(.map (b8 .i64 (fun y=>(bE y).headD aK) x2) x2.length),(.map (b8 .i64 (fun y=>(bE y).headD aK) (aZ ([]:aG) 1 1)) (aZ ([]:aG) 1 1).length)],dt,dt]) ([⟨c16⟩,⟨c16⟩,⟨(aBO x2 (aZ ([]:aG) 1 1))⟩,⟨c16⟩,⟨c16⟩,⟨c16⟩,⟨(lP .i64 (fun y=>(bE y).headD aK) ([]:aG) 1 1)⟩,⟨c16⟩,⟨c16⟩,⟨c16⟩]++w36) (by kernel_rfl)
                   rw[if_neg c16] at h;replace c16:=eqf c16
                   obtain rfl:=osi h
                   exact Tri.of (x:=X8) aE lA (u35++[df,df,df,df,df,df,df,df]) ([⟨c16⟩,⟨c16⟩,⟨c16⟩,⟨c16⟩,⟨c16⟩,⟨c16⟩,⟨c16⟩,⟨c16⟩]++w36) (by kernel_rfl)
                 rw[if_neg c15] at h;replace c15:=eqf c15
                 obtain rfl:=osi h
                 exact Tri.of (x:=X8) aE lA (u31++[dt,dt,dt,df,df,df,df,df,df,df,df,df,df,df,df,df,df,df,df]) ([⟨rF⟩,⟨rF⟩,⟨rF⟩,⟨rF⟩,⟨rF⟩,⟨rF⟩,⟨rF⟩,⟨rF⟩,⟨rF⟩,⟨rF⟩,⟨rF⟩,⟨rF⟩,⟨rF⟩,⟨c15⟩,⟨c15⟩,⟨c15⟩,⟨c14⟩,⟨c14⟩,⟨c14⟩]++w32) (by kernel_rfl)
               rw[if_neg c14] at h;replace c14:=eqf c14
               obtain rfl:=osi h
               exact Tri.of (x:=X8) aE lA (u31++[df,df,df,df,df,df,df,df,df,df,df,df,df,df,df,df,df,df,df]) ([⟨rF⟩,⟨rF⟩,⟨rF⟩,⟨rF⟩,⟨rF⟩,⟨rF⟩,⟨rF⟩,⟨rF⟩,⟨rF⟩,⟨rF⟩,⟨rF⟩,⟨rF⟩,⟨rF⟩,⟨rF⟩,⟨rF⟩,⟨rF⟩,⟨c14⟩,⟨c14⟩,⟨c14⟩]++w32) (by kernel_rfl)
             rw[if_neg c13] at h;replace c13:=eqf c13
             obtain rfl:=osi h
             exact Tri.of (x:=X8) aE lA (u25++[dt,dt,dt,dt,dt,dt,df,df,df,df,df,df,df,df,df,df,df,df,df,df,df,df,df,df,df,df,df,df,df]) ([⟨rF⟩,⟨rF⟩,⟨rF⟩,⟨rF⟩,⟨rF⟩,⟨rF⟩,⟨rF⟩,⟨rF⟩,⟨rF⟩,⟨rF⟩,⟨rF⟩,⟨rF⟩,⟨rF⟩,⟨rF⟩,⟨rF⟩,⟨rF⟩,⟨rF⟩,⟨rF⟩,⟨rF⟩,⟨c13⟩,⟨c13⟩,⟨c13⟩,⟨c13⟩]++w30) (by kernel_rfl)
           rw[if_neg c12] at h;replace c12:=eqf c12
           obtain rfl:=osi h
           exact Tri.of (x:=X8) aE lA (u25++[dt,dt,dt,df,df,df,df,df,df,df,df,df,df,df,df,df,df,df,df,df,df,df,df,df,df,df,df,df,df]) ([⟨rF⟩,⟨rF⟩,⟨rF⟩,⟨rF⟩,⟨rF⟩,⟨rF⟩,⟨rF⟩,⟨rF⟩,⟨rF⟩,⟨rF⟩,⟨rF⟩,⟨rF⟩,⟨rF⟩,⟨rF⟩,⟨rF⟩,⟨rF⟩,⟨rF⟩,⟨rF⟩,⟨rF⟩,⟨rF⟩,⟨rF⟩,⟨rF⟩,⟨rF⟩,⟨c12⟩,⟨c12⟩,⟨c12⟩,⟨c11⟩,⟨c11⟩,⟨c11⟩]++w26) (by kernel_rfl)
         rw[if_neg c11] at h;replace c11:=eqf c11
         obtain rfl:=osi h
         exact Tri.of (x:=X8) aE lA (u25++[df,df,df,df,df,df,df,df,df,df,df,df,df,df,df,df,df,df,df,df,df,df,df,df,df,df,df,df,df]) ([⟨rF⟩,⟨rF⟩,⟨rF⟩,⟨rF⟩,⟨rF⟩,⟨rF⟩,⟨rF⟩,⟨rF⟩,⟨rF⟩,⟨rF⟩,⟨rF⟩,⟨rF⟩,⟨rF⟩,⟨rF⟩,⟨rF⟩,⟨rF⟩,⟨rF⟩,⟨rF⟩,⟨rF⟩,⟨rF⟩,⟨rF⟩,⟨rF⟩,⟨rF⟩,⟨rF⟩,⟨rF⟩,⟨rF⟩,⟨c11⟩,⟨c11⟩,⟨c11⟩]++w26) (by kernel_rfl)
       rw[if_neg c9] at h;replace c9:=eqf c9
       obtain rfl:=osi h
       exact Tri.of (x:=X8) aE lA (u21++[dt,dt,.opt none,dt,dt,df,df,df,df,df,df,df,df,df,df,df,df,df,df,df,df,df,df,df,df,df,df,df,df,df,df,df,df,df]) ([⟨rF⟩,⟨rF⟩,⟨rF⟩,⟨rF⟩,⟨rF⟩,⟨rF⟩,⟨rF⟩,⟨rF⟩,⟨rF⟩,⟨rF⟩,⟨rF⟩,⟨rF⟩,⟨rF⟩,⟨rF⟩,⟨rF⟩,⟨rF⟩,⟨rF⟩,⟨rF⟩,⟨rF⟩,⟨rF⟩,⟨rF⟩,⟨rF⟩,⟨rF⟩,⟨rF⟩,⟨rF⟩,⟨rF⟩,⟨(rfl:eqI 0 2=false)⟩,⟨(rfl:eqI 0 2=false)⟩,⟨(rfl:eqI 0 2=false)⟩,⟨c8⟩,⟨c8⟩,⟨(mF .i64 (fun y=>(bE y).headD aK) c9)⟩,⟨c8⟩,⟨c8⟩]++w22) (by kernel_rfl)
     rw[if_neg c8] at h;replace c8:=eqf c8
     obtain rfl:=osi h
     exact Tri.of (x:=X8) aE lA (u21++[df,df,df,df,df,df,df,df,df,df,df,df,df,df,df,df,df,df,df,df,df,df,df,df,df,df,df,df,df,df,df,df,df]) ([⟨rF⟩,⟨rF⟩,⟨rF⟩,⟨rF⟩,⟨rF⟩,⟨rF⟩,⟨rF⟩,⟨rF⟩,⟨rF⟩,⟨rF⟩,⟨rF⟩,⟨rF⟩,⟨rF⟩,⟨rF⟩,⟨rF⟩,⟨rF⟩,⟨rF⟩,⟨rF⟩,⟨rF⟩,⟨rF⟩,⟨rF⟩,⟨rF⟩,⟨rF⟩,⟨rF⟩,⟨rF⟩,⟨rF⟩,⟨rF⟩,⟨rF⟩,⟨rF⟩,⟨c8⟩,⟨c8⟩,⟨c8⟩,⟨c8⟩]++w22) (by kernel_rfl)
  rw[if_neg c5] at h;replace c5:=eqf c5
  cases h
 | inr x2 =>
  simp only[Sum.elim_inr] at h
  obtain⟨x3,e3,h⟩:=bsm h
  obtain⟨x4,e4,h⟩:=bsm h
  by_cases c5:leI 1 aJ.length=true
  · rw[if_pos c5] at h
    let u37:List Ans:=u1++[df,A8_1,.call ⟨true,[]⟩ (.tup [(.int .i64 x3.1),(.int .i64 x3.2)]) [],.call ⟨true,[]⟩ (.tup [(.sl 2 (List.map aB x4.1)),(.int .i64 x4.2)]) [],.n aJ.length,.rows (List.map aA (List.drop 1 aJ))]
    let w38:List Prf:=[⟨(aJX aA (l:=aJ) (n:=aJ.length) rfl 1)⟩,⟨c5⟩,⟨(aY aA aJ)⟩,⟨(rD k aJ _ e4)⟩,⟨(oH k aJ _ e3)⟩,⟨(gQ k aJ (.inr x2) e1)⟩,⟨c0⟩]++w2
    obtain⟨x5,e6,h⟩:=bsm h
    cases x5 with
    | inl x6 =>
     simp only[Sum.elim_inl] at h
     obtain rfl:=osi h
     exact Tri.of (x:=X8) aE lA (u37++[(A8_0 x6),df,df,df,df,df,df,df,df,df,df,df,df,df,df,df,df,df,df,df,df,df,df,df,df,df,df,df,df,df,df,df,df,df,df,df,df,df]) ([⟨rF⟩,⟨rF⟩,⟨rF⟩,⟨rF⟩,⟨rF⟩,⟨rF⟩,⟨rF⟩,⟨rF⟩,⟨rF⟩,⟨rF⟩,⟨rF⟩,⟨rF⟩,⟨rF⟩,⟨rF⟩,⟨rF⟩,⟨rF⟩,⟨rF⟩,⟨rF⟩,⟨rF⟩,⟨rF⟩,⟨rF⟩,⟨rF⟩,⟨rF⟩,⟨rF⟩,⟨rF⟩,⟨rF⟩,⟨rF⟩,⟨rF⟩,⟨rF⟩,⟨rF⟩,⟨rF⟩,⟨rF⟩,⟨rF⟩,⟨(rfl:eqI 4 0=false)⟩,⟨(rfl:eqI 4 0=false)⟩,⟨(rfl:eqI 4 0=false)⟩,⟨(rfl:eqI 4 0=false)⟩,⟨(gQ k (List.drop 1 aJ) (.inl x6) e6)⟩]++w38) (by kernel_rfl)
    | inr x6 =>
     simp only[Sum.elim_inr] at h
     obtain rfl:=osi h
     exact Tri.of (x:=X8) aE lA (u37++[A8_1,df,df,df,df,df,df,df,df,df,df,df,df,df,df,df,df,df,df,df,df,df,df,df,df,df,df,df,df,df,df,df,df,df,df,df,df,df]) ([⟨rF⟩,⟨rF⟩,⟨rF⟩,⟨rF⟩,⟨rF⟩,⟨rF⟩,⟨rF⟩,⟨rF⟩,⟨rF⟩,⟨rF⟩,⟨rF⟩,⟨rF⟩,⟨rF⟩,⟨rF⟩,⟨rF⟩,⟨rF⟩,⟨rF⟩,⟨rF⟩,⟨rF⟩,⟨rF⟩,⟨rF⟩,⟨rF⟩,⟨rF⟩,⟨rF⟩,⟨rF⟩,⟨rF⟩,⟨rF⟩,⟨rF⟩,⟨rF⟩,⟨rF⟩,⟨rF⟩,⟨rF⟩,⟨rF⟩,⟨(rfl:eqI 4 0=false)⟩,⟨(rfl:eqI 4 0=false)⟩,⟨(rfl:eqI 4 0=false)⟩,⟨(rfl:eqI 4 0=false)⟩,⟨(gQ k (List.drop 1 aJ) (.inr x6) e6)⟩]++w38) (by kernel_rfl)
  rw[if_neg c5] at h;replace c5:=eqf c5
  cases h
end Go.Ws

namespace Go.Ws
open Go.Proofs
set_option linter.unusedSimpArgs false
set_option linter.unusedVariables false
set_option maxRecDepth 1000000
set_option maxHeartbeats 4000000
noncomputable def X35_1001:Ctx:=⟨Try.f35,[],false⟩
theorem t6 (k:Nat) (x1:Ty7) (r:Unit) (h:gH k x1=some r):Tri Try.prog 35 [(.inl 4 (List.map aA x1))] [] (.ref 4 0 0 0 x1.length .virt) [(.arr 4 (List.map aA x1) 0 0 false)]:=by
 unfold gH at h
 by_cases c0:dF (x1.length*32)=true
 · rw[if_pos c0] at h
   obtain rfl:=osi h
   exact Tri.of (x:=X35_1001) aE aM5 [df,.n x1.length,.norm 0 ⟨[(2,[])],[⟨.tmp 2,[],some 4⟩],false,[],[]⟩,.n x1.length,.rows (List.map aA x1)] [⟨(eT aA (l:=x1) (n:=x1.length) rfl)⟩,⟨(rfl:x1.length=x1.length)⟩,⟨(zle x1.length)⟩,⟨c0⟩,⟨(aY aA x1)⟩,⟨rF⟩] (by kernel_rfl)
 rw[if_neg c0] at h;replace c0:=eqf c0
 cases h
end Go.Ws

namespace Go.Ws
open Go.Proofs
set_option linter.unusedSimpArgs false
set_option linter.unusedVariables false
set_option maxRecDepth 1000000
set_option maxHeartbeats 4000000
noncomputable def X35_1002:Ctx:=⟨Try.f35,[],false⟩
theorem uG:Tri Try.prog 35 [.nils] [] (.ref 4 0 0 0 0 .virt) [(.arr 4 (List.map aA []) 0 0 false)]:=by
 obtain⟨r,h⟩:∃r,m6=r:=⟨_,rfl⟩
 try rw[h]
 unfold m6 at h
 obtain rfl:=h
 exact Tri.of (x:=X35_1002) aE aM5 [dt,.norm 0 ⟨[(2,[])],[⟨.tmp 2,[],some 4⟩],false,[],[]⟩,.n 0,.rows (List.map aA [])] [⟨(eT aA (l:=[]) (n:=0) rfl)⟩,⟨(rfl:0=0)⟩,⟨(zle 0)⟩,⟨rT⟩] (by kernel_rfl)
end Go.Ws

namespace Go.Ws
open Go.Proofs
set_option linter.unusedSimpArgs false
set_option linter.unusedVariables false
set_option maxRecDepth 1000000
set_option maxHeartbeats 4000000
theorem sA (k:Nat) (x1:Ty7) (r:Unit) (h:jZ k x1=some r):Tri Try.prog 35 [(.sl 4 (List.map aA x1))] [] (.ref 4 0 0 0 x1.length .virt) [(.arr 4 (List.map aA x1) 0 0 false)]:=by
 refine Tri.slOf (t6 k x1 r h) fun h0=>?_
 have hx:x1=[]:=by simpa using h0
 subst hx
 exact uG
end Go.Ws

namespace Go.Ws
open Go.Proofs
set_option linter.unusedSimpArgs false
set_option linter.unusedVariables false
set_option maxRecDepth 1000000
set_option maxHeartbeats 4000000
noncomputable def X22 (x1:aG) (x2:Ty8) (x3:Ty2) (x4:Ty7):Ctx:=⟨Try.f22,[(.row [(.sl 2 (List.map aB x1)),(.sl 3 (List.map aC x2)),(.mp 1),(.ref 4 2 0 0 x4.length .virt)]),(.map (b8 .i64 (fun y=>AV.agg (aD y)) x3) x3.length),(.arr 4 (List.map aA x4) 0 0 false)],false⟩
theorem aBQ (k:Nat) (x1:aG) (x2:Ty8) (x3:Ty2) (x4:Ty7) (r:Unit) (h:mA k x1 x2 x3 x4=some r):Tri Try.prog 22 [(.hp 0 0)] [(.row [(.sl 2 (List.map aB x1)),(.sl 3 (List.map aC x2)),(.mp 1),(.ref 4 2 0 0 x4.length .virt)]),(.map (b8 .i64 (fun y=>AV.agg (aD y)) x3) x3.length),(.arr 4 (List.map aA x4) 0 0 false)] (.ref 4 3 0 0 x4.length .virt) [(.row [(.sl 2 (List.map aB x1)),(.sl 3 (List.map aC x2)),(.mp 1),(.ref 4 2 0 0 x4.length .virt)]),(.map (b8 .i64 (fun y=>AV.agg (aD y)) x3) x3.length),(.arr 4 (List.map aA x4) 0 0 true),(.arr 4 (List.map aA x4) 0 0 false)]:=by
 unfold mA at h
 obtain⟨x5,e0,h⟩:=bsm h
 obtain rfl:=osi h
 exact Tri.of (x:=(X22 x1 x2 x3 x4)) aE aMP [.call ⟨true,[]⟩ (.bool (!false)) [(.row [(.sl 2 (List.map aB x1)),(.sl 3 (List.map aC x2)),(.mp 1),(.ref 4 2 0 0 x4.length .virt)]),(.map (b8 .i64 (fun y=>AV.agg (aD y)) x3) x3.length),(.arr 4 (List.map aA x4) 0 0 false)],df,.call ⟨true,[]⟩ (.ref 4 0 0 0 x4.length .virt) [(.arr 4 (List.map aA x4) 0 0 false)],.rows (List.map aA x4),.norm 0 ⟨[(2,[])],[⟨.tmp 2,[],none⟩],false,[],[]⟩] [⟨(sA k x4 _ e0)⟩,⟨(cH aA (l:=x4) (n:=x4.length) rfl)⟩,⟨(eR aA (Nat.le_refl x4.length):0+x4.length≤(List.map aA x4).length)⟩,⟨(nF (nT rfl))⟩,⟨(rP x1 x2 x3 x4)⟩] (by kernel_rfl)
end Go.Ws

namespace Go.Ws
open Go.Proofs
set_option linter.unusedSimpArgs false
set_option linter.unusedVariables false
set_option maxRecDepth 1000000
set_option maxHeartbeats 4000000
noncomputable def X33_4 (x1:aG) (x2:Ty8) (x3:Ty2) (x4:Ty7):Ctx:=⟨Try.f33,[(.row [(.sl 2 (List.map aB x1)),(.sl 3 (List.map aC x2)),(.mp 1),(.ref 4 2 0 0 x4.length .virt)]),(.map (b8 .i64 (fun y=>AV.agg (aD y)) x3) x3.length),(.arr 4 (List.map aA x4) 0 0 true)],false⟩
theorem yY (x1:aG) (x2:Ty8) (x3:Ty2) (x4:Ty7):Tri Try.prog 33 [(.hp 0 0)] [(.row [(.sl 2 (List.map aB x1)),(.sl 3 (List.map aC x2)),(.mp 1),(.ref 4 2 0 0 x4.length .virt)]),(.map (b8 .i64 (fun y=>AV.agg (aD y)) x3) x3.length),(.arr 4 (List.map aA x4) 0 0 true)] (.bool (!false)) [(.row [(.sl 2 (List.map aB x1)),(.sl 3 (List.map aC x2)),(.mp 1),(.ref 4 2 0 0 x4.length .virt)]),(.map (b8 .i64 (fun y=>AV.agg (aD y)) x3) x3.length),(.arr 4 (List.map aA x4) 0 0 true)]:=by
 obtain⟨r,h⟩:∃r,pX x1 x2 x3 x4=r:=⟨_,rfl⟩
 try rw[h]
 unfold pX at h
 obtain rfl:=h
 exact Tri.of (x:=(X33_4 x1 x2 x3 x4)) aE aL5 [dt,dt,dt,dt,dt,dt,.norm 0 ⟨[(2,[])],[],false,[],[]⟩] [⟨(nT rfl)⟩,⟨(nT rfl)⟩,⟨(nT rfl)⟩,⟨(nT rfl)⟩,⟨(nT rfl)⟩,⟨(nT rfl)⟩] (by kernel_rfl)
end Go.Ws

namespace Go.Ws
open Go.Proofs
set_option linter.unusedSimpArgs false
set_option linter.unusedVariables false
set_option maxRecDepth 1000000
set_option maxHeartbeats 4000000
noncomputable def X22_1 (x1:aG) (x2:Ty8) (x3:Ty2) (x4:Ty7):Ctx:=⟨Try.f22,[(.row [(.sl 2 (List.map aB x1)),(.sl 3 (List.map aC x2)),(.mp 1),(.ref 4 2 0 0 x4.length .virt)]),(.map (b8 .i64 (fun y=>AV.agg (aD y)) x3) x3.length),(.arr 4 (List.map aA x4) 0 0 true)],false⟩
theorem zZ (k:Nat) (x1:aG) (x2:Ty8) (x3:Ty2) (x4:Ty7) (r:Unit) (h:jY k x1 x2 x3 x4=some r):Tri Try.prog 22 [(.hp 0 0)] [(.row [(.sl 2 (List.map aB x1)),(.sl 3 (List.map aC x2)),(.mp 1),(.ref 4 2 0 0 x4.length .virt)]),(.map (b8 .i64 (fun y=>AV.agg (aD y)) x3) x3.length),(.arr 4 (List.map aA x4) 0 0 true)] (.ref 4 3 0 0 x4.length .virt) [(.row [(.sl 2 (List.map aB x1)),(.sl 3 (List.map aC x2)),(.mp 1),(.ref 4 2 0 0 x4.length .virt)]),(.map (b8 .i64 (fun y=>AV.agg (aD y)) x3) x3.length),(.arr 4 (List.map aA x4) 0 0 true),(.arr 4 (List.map aA x4) 0 0 false)]:=by
 unfold jY at h
 obtain⟨x5,e0,h⟩:=bsm h
 obtain rfl:=osi h
 exact Tri.of (x:=(X22_1 x1 x2 x3 x4)) aE aMP [.call ⟨true,[]⟩ (.bool (!false)) [(.row [(.sl 2 (List.map aB x1)),(.sl 3 (List.map aC x2)),(.mp 1),(.ref 4 2 0 0 x4.length .virt)]),(.map (b8 .i64 (fun y=>AV.agg (aD y)) x3) x3.length),(.arr 4 (List.map aA x4) 0 0 true)],df,.call ⟨true,[]⟩ (.ref 4 0 0 0 x4.length .virt) [(.arr 4 (List.map aA x4) 0 0 false)],.rows (List.map aA x4),.norm 0 ⟨[(2,[])],[⟨.tmp 2,[],none⟩],false,[],[]⟩] [⟨(sA k x4 _ e0)⟩,⟨(cH aA (l:=x4) (n:=x4.length) rfl)⟩,⟨(eR aA (Nat.le_refl x4.length):0+x4.length≤(List.map aA x4).length)⟩,⟨(nF (nT rfl))⟩,⟨(yY x1 x2 x3 x4)⟩] (by kernel_rfl)
end Go.Ws

namespace Go.Ws
open Go.Proofs
set_option linter.unusedSimpArgs false
set_option linter.unusedVariables false
set_option maxRecDepth 1000000
set_option maxHeartbeats 4000000
noncomputable def X5:Ctx:=⟨Try.f5,[],true⟩
noncomputable def L5_1:Code:=at_ Try.f5 [1,1,1,1,1,1,0,1,4,5]
def S5_1 (x4:aG × Ty8 × Ty2 × Ty7) (eM:Int) (dS:Int):St:=⟨mkT 92 [(3,(.hp 0 0)),(6,(.int .i64 eM)),(38,(.ref 4 1 0 0 x4.2.2.2.length .virt)),(39,(.int .i64 (nI x4.2.2.2.length))),(40,(.int .i64 dS))],[(.row [(.sl 2 (List.map aB x4.1)),(.sl 3 (List.map aC x4.2.1)),(.mp 2),(.ref 4 3 0 0 x4.2.2.2.length .virt)]),(.arr 4 (List.map aA x4.2.2.2) 0 0 false),(.map (b8 .i64 (fun y=>AV.agg (aD y)) x4.2.2.1) x4.2.2.1.length),(.arr 4 (List.map aA x4.2.2.2) 0 0 true)]⟩
def aKN (x4:aG × Ty8 × Ty2 × Ty7) (v5012_1:Int):St:=⟨mkT 92 [(3,(.hp 0 0)),(6,(.int .i64 v5012_1))],[(.row [(.sl 2 (List.map aB x4.1)),(.sl 3 (List.map aC x4.2.1)),(.mp 1),(.ref 4 2 0 0 x4.2.2.2.length .virt)]),(.map (b8 .i64 (fun y=>AV.agg (aD y)) x4.2.2.1) x4.2.2.1.length),(.arr 4 (List.map aA x4.2.2.2) 0 0 true)]⟩
def O5_1 (x4:aG × Ty8 × Ty2 × Ty7) (y:(Int)):GX:=.st (.exit 2) (aKN x4 y)
noncomputable def L5_0:Code:=at_ Try.f5 [1,1,1,1,0,1,4,5]
def S5_0 (x1:Ty7) (eF:Int) (fQ:aG) (fR:Ty8) (fF:Ty2) (fG:Ty7):St:=⟨mkT 92 [(3,(.hp 0 0)),(27,(.sl 4 (List.map aA x1))),(28,(.int .i64 (nI x1.length))),(29,(.int .i64 eF))],[(.row [(.sl 2 (List.map aB fQ)),(.sl 3 (List.map aC fR)),(.mp 1),(.ref 4 2 0 0 fG.length .virt)]),(.map (b8 .i64 (fun y=>AV.agg (aD y)) fF) fF.length),(.arr 4 (List.map aA fG) 0 0 false)]⟩
def aLF (v5002_1:aG) (v5002_2:Ty8) (aNO:Ty2) (aNP:Ty7):St:=⟨mkT 92 [(3,(.hp 0 0))],[(.row [(.sl 2 (List.map aB v5002_1)),(.sl 3 (List.map aC v5002_2)),(.mp 1),(.ref 4 2 0 0 aNP.length .virt)]),(.map (b8 .i64 (fun y=>AV.agg (aD y)) aNO) aNO.length),(.arr 4 (List.map aA aNP) 0 0 false)]⟩
def O5_0 (x1:Ty7) (y:(aG × Ty8 × Ty2 × Ty7)):GX:=.st (.exit 0) (aLF y.1 y.2.1 y.2.2.1 y.2.2.2)
def A5_0 (x4:aG × Ty8 × Ty2 × Ty7):Ans:=.call ⟨true,[]⟩ (.ref 4 3 0 0 x4.2.2.2.length .virt) [(.row [(.sl 2 (List.map aB x4.1)),(.sl 3 (List.map aC x4.2.1)),(.mp 1),(.ref 4 2 0 0 x4.2.2.2.length .virt)]),(.map (b8 .i64 (fun y=>AV.agg (aD y)) x4.2.2.1) x4.2.2.1.length),(.arr 4 (List.map aA x4.2.2.2) 0 0 true),(.arr 4 (List.map aA x4.2.2.2) 0 0 false)]
theorem lB (x4:aG × Ty8 × Ty2 × Ty7) (y:(Int)):∀(k:Nat) (eM:Int) (dS:Int),bR k x4 eM dS=some y→LT Try.prog X5 L5_1 (S5_1 x4 eM dS) (O5_1 x4 y)
 | 0,eM,dS,h=>by cases h
 | k+1,eM,dS,h=>by
  rw[bR] at h
  by_cases cL0:ltI dS (nI x4.2.2.2.length)=true
  · rw[if_pos cL0] at h
    by_cases cL1:inI dS x4.2.2.2.length=true
    · rw[if_pos cL1] at h
      obtain⟨nH,eL2,h⟩:=bsm h
      let w2:List Prf:=[⟨(cS (e:=aA) eL2 4 0 4 (by decide))⟩,⟨cL1⟩,⟨cL0⟩]
      by_cases cL3:eqI nH.1 5=true
      · rw[if_pos cL3] at h
        exact LT.next aE (hs:=⟨[(3,[]),(6,[]),(38,[]),(39,[]),(40,[])],[⟨.tmp 3,[],none⟩,⟨.tmp 38,[],none⟩,⟨.cell 0 2,[],none⟩,⟨.cell 0 3,[],none⟩],false,[],[]⟩) (es:=none) [dt,.row [(.int .i64 nH.1),(.int .i64 nH.2.1),(.int .u8 nH.2.2.1),(.int .i64 nH.2.2.2)],dt] ([⟨cL3⟩]++w2) (by kernel_rfl) (lB x4 y k (aH .i64 eM 1) (aH .i64 dS 1) h)
      rw[if_neg cL3] at h;replace cL3:=eqf cL3
      exact LT.next aE (hs:=⟨[(3,[]),(6,[]),(38,[]),(39,[]),(40,[])],[⟨.tmp 3,[],none⟩,⟨.tmp 38,[],none⟩,⟨.cell 0 2,[],none⟩,⟨.cell 0 3,[],none⟩],false,[],[]⟩) (es:=none) [dt,.row [(.int .i64 nH.1),(.int .i64 nH.2.1),(.int .u8 nH.2.2.1),(.int .i64 nH.2.2.2)],df] ([⟨cL3⟩]++w2) (by kernel_rfl) (lB x4 y k eM (aH .i64 dS 1) h)
    rw[if_neg cL1] at h;replace cL1:=eqf cL1
    cases h
  rw[if_neg cL0] at h;replace cL0:=eqf cL0
  obtain rfl:=osi h
  show LT _ _ _ _ (.st (.exit 2) (aKN x4 eM))
  exact LT.done aE (hs:=⟨[],[],false,[],[]⟩) (es:=(some ⟨[(3,[]),(6,[])],[⟨.tmp 3,[],none⟩,⟨.cell 0 2,[],none⟩,⟨.cell 0 3,[],none⟩],false,[],[]⟩)) [df] [⟨cL0⟩] (by kernel_rfl) (fun s h=>by cases h)
theorem oW (x1:Ty7) (y:(aG × Ty8 × Ty2 × Ty7)):∀(k:Nat) (eF:Int) (fQ:aG) (fR:Ty8) (fF:Ty2) (fG:Ty7),cA k x1 eF fQ fR fF fG=some y→LT Try.prog X5 L5_0 (S5_0 x1 eF fQ fR fF fG) (O5_0 x1 y)
 | 0,eF,fQ,fR,fF,fG,h=>by cases h
 | k+1,eF,fQ,fR,fF,fG,h=>by
  rw[cA] at h
  by_cases cL0:ltI eF (nI x1.length)=true
  · rw[if_pos cL0] at h
    by_cases cL1:inI eF x1.length=true
    · rw[if_pos cL1] at h
      obtain⟨jR,eL2,h⟩:=bsm h
      obtain⟨eY,eL3,h⟩:=bsm h
      exact LT.next aE (hs:=⟨[(3,[]),(27,[]),(28,[]),(29,[])],[⟨.tmp 3,[],none⟩,⟨.cell 0 2,[],none⟩,⟨.cell 0 3,[],some 4⟩],false,[],[]⟩) (es:=none) [dt,.n x1.length,.row [(.int .i64 jR.1),(.int .i64 jR.2.1),(.int .u8 jR.2.2.1),(.int .i64 jR.2.2.2)],.call ⟨true,[]⟩ (.tup [(.int .i64 eY.2.1),(.int .i64 eY.1)]) [(.row [(.sl 2 (List.map aB eY.2.2.1)),(.sl 3 (List.map aC eY.2.2.2.1)),(.mp 1),(.ref 4 2 1 0 eY.2.2.2.2.2.length .virt)]),(.map (b8 .i64 (fun y=>AV.agg (aD y)) eY.2.2.2.2.1) eY.2.2.2.2.1.length),(.arr 4 (List.map aA eY.2.2.2.2.2) 1 1 false)],.n eY.2.2.2.2.2.length,.rows (List.map aA eY.2.2.2.2.2)] [⟨(eT aA (l:=eY.2.2.2.2.2) (n:=eY.2.2.2.2.2.length) rfl)⟩,⟨(rfl:eY.2.2.2.2.2.length=eY.2.2.2.2.2.length)⟩,⟨(zle eY.2.2.2.2.2.length)⟩,⟨(tG k jR.1 jR.2.1 jR.2.2.1 jR.2.2.2 fQ fR fF fG _ eL3)⟩,⟨(cS (e:=aA) eL2 4 0 4 (by decide))⟩,⟨cL1⟩,⟨(aY aA x1)⟩,⟨cL0⟩] (by kernel_rfl) (oW x1 y k (aH .i64 eF 1) eY.2.2.1 eY.2.2.2.1 eY.2.2.2.2.1 eY.2.2.2.2.2 h)
    rw[if_neg cL1] at h;replace cL1:=eqf cL1
    cases h
  rw[if_neg cL0] at h;replace cL0:=eqf cL0
  obtain rfl:=osi h
  show LT _ _ _ _ (.st (.exit 0) (aLF fQ fR fF fG))
  exact LT.done aE (hs:=⟨[],[],false,[],[]⟩) (es:=(some ⟨[(3,[])],[⟨.tmp 3,[],none⟩,⟨.cell 0 2,[],none⟩,⟨.cell 0 3,[],none⟩],false,[],[]⟩)) [df] [⟨cL0⟩] (by kernel_rfl) (fun s h=>by cases h)
theorem wM (k:Nat) (x1:Ty7) (r:Bool) (h:j6 k x1=some r):Tri Try.prog 5 [(.sl 4 (List.map aA x1))] [] (.bool r) []:=by
 unfold j6 at h
 obtain⟨x2,e0,h⟩:=bsm h
 let u3:List Ans:=[.call ⟨true,[]⟩ (.bool x2) []]
 by_cases c1:x2=true
 · rw[if_pos c1] at h
   let u5:List Ans:=u3++[df,.call ⟨true,[]⟩ (.hp 0 0) [(.row [.nils,.nils,(.mp 1),.nils]),(.map (b8 .i64 (fun y=>AV.agg (aD y)) ([]:Ty2)) ([]:Ty2).length)],df,df,.n x1.length,df,df]
   let w6:List Prf:=[⟨rF⟩,⟨rF⟩,⟨(aY aA x1)⟩,⟨rF⟩,⟨rF⟩,⟨(aCP)⟩,⟨(nF c1)⟩,⟨(xI k _ e0)⟩]
   by_cases c2:ltI 100 (nI x1.length)=true
   · rw[if_pos c2] at h
     obtain rfl:=osi h
     exact Tri.of (x:=X5) aE vQ (u5++[dt]) ([⟨c2⟩]++w6) (by kernel_rfl)
   rw[if_neg c2] at h;replace c2:=eqf c2
   obtain⟨x4,e3,h⟩:=bsm h
   obtain⟨x5,e5,h⟩:=bsm h
   obtain⟨x7,e6,h⟩:=bsm h
   obtain⟨x8,e8,h⟩:=bsm h
   obtain⟨x9,e9,h⟩:=bsm h
   obtain⟨x10,e10,h⟩:=bsm h
   obtain⟨x11,e11,h⟩:=bsm h
   let u7:List Ans:=u5++[df,.n x1.length,.norm 2 ⟨[(3,[]),(27,[]),(28,[]),(29,[])],[⟨.tmp 3,[(0,2),(1,3)],none⟩,⟨.cell 0 2,[],none⟩,⟨.cell 0 3,[],some 4⟩],false,[],[]⟩,.n 0,.rows (List.map aA []),.out (.st .normal (aLF x4.1 x4.2.1 x4.2.2.1 x4.2.2.2)),(A5_0 x4),.norm 8 ⟨[(3,[]),(6,[]),(38,[]),(39,[]),(40,[])],[⟨.tmp 3,[],none⟩,⟨.tmp 38,[],none⟩,⟨.cell 0 2,[],none⟩,⟨.cell 0 3,[],none⟩],false,[],[]⟩,.out (.st .normal (aKN x4 x7)),(A5_0 x4),.call ⟨true,[]⟩ (.tup [(.int .i64 x9.1),(.int .i64 x9.2)]) [],.rows (List.map aA x4.2.2.2),.call ⟨true,[[(0,4)]]⟩ (.tup [(.int .i64 x10.1),(.int .i64 x10.2)]) [],.call ⟨true,[[(0,4)]]⟩ (.tup [(.sl 2 (List.map aB x11.1)),(.int .i64 x11.2)]) []]
   let w8:List Prf:=[⟨(rD k [] _ e11)⟩,⟨(oH k [] _ e10)⟩,⟨(oH k x4.2.2.2 _ e9)⟩,⟨(cH aA (l:=x4.2.2.2) (n:=x4.2.2.2.length) rfl)⟩,⟨(eR aA (Nat.le_refl x4.2.2.2.length):0+x4.2.2.2.length≤(List.map aA x4.2.2.2).length)⟩,⟨(zZ k x4.1 x4.2.1 x4.2.2.1 x4.2.2.2 _ e8)⟩,⟨(LT.block (lB x4 _ k 0 0 e6))⟩,⟨(aBQ k x4.1 x4.2.1 x4.2.2.1 x4.2.2.2 _ e5)⟩,⟨(LT.block (oW x1 _ k 0 [] [] ([]:Ty2) [] e3))⟩,⟨(eT aA (l:=[]) (n:=0) rfl)⟩,⟨(rfl:0=0)⟩,⟨(zle 0)⟩,⟨(aY aA x1)⟩,⟨c2⟩]++w6
   by_cases c12:eqI x9.2 0=true
   · rw[if_pos c12] at h
     by_cases c13:ltI x9.1 0=true
     · rw[if_pos c13] at h
       obtain rfl:=osi h
       exact Tri.of (x:=X5) aE vQ (u7++[dt,dt,dt,df,df,df,df,df,df,df,df,df,df,df,df,df,df,df,df,df]) ([⟨rF⟩,⟨rF⟩,⟨rF⟩,⟨rF⟩,⟨rF⟩,⟨rF⟩,⟨rF⟩,⟨rF⟩,⟨rF⟩,⟨rF⟩,⟨rF⟩,⟨rF⟩,⟨rF⟩,⟨(nF c13)⟩,⟨(nF c13)⟩,⟨(nF c13)⟩,⟨(nF c13)⟩,⟨c12⟩,⟨c12⟩,⟨c12⟩]++w8) (by kernel_rfl)
     rw[if_neg c13] at h;replace c13:=eqf c13
     let w12:List Prf:=[⟨(nT c13)⟩,⟨(nT c13)⟩,⟨(nT c13)⟩,⟨(nT c13)⟩,⟨c12⟩,⟨c12⟩,⟨c12⟩]++w8
     by_cases c14:ltI x7 x9.1=true
     · rw[if_pos c14] at h
       obtain rfl:=osi h
       exact Tri.of (x:=X5) aE vQ (u7++[dt,dt,dt,dt,dt,dt,dt,df,df,df,df,df,df,df,df,df,df,df,df,df]) ([⟨rF⟩,⟨rF⟩,⟨rF⟩,⟨rF⟩,⟨rF⟩,⟨rF⟩,⟨rF⟩,⟨rF⟩,⟨rF⟩,⟨rF⟩,⟨(nF c14)⟩,⟨(nF c14)⟩,⟨(nF c14)⟩]++w12) (by kernel_rfl)
     rw[if_neg c14] at h;replace c14:=eqf c14
     let u13:List Ans:=u7++[dt,dt,dt,dt,dt,dt,dt,dt,dt,dt]
     let w14:List Prf:=[⟨(nT c14)⟩,⟨(nT c14)⟩,⟨(nT c14)⟩]++w12
     by_cases c15:eqI x10.1 0=true
     · rw[if_pos c15] at h
       by_cases c16:eqI x10.2 0=true
       · rw[if_pos c16] at h
         let u17:List Ans:=u13++[dt,dt,dt,dt,dt,.n x11.1.length,dt,dt]
         let w18:List Prf:=[⟨c16⟩,⟨c16⟩,⟨(aY aB x11.1)⟩,⟨c16⟩,⟨c16⟩,⟨c15⟩,⟨c15⟩,⟨c15⟩]++w14
         by_cases c17:eqI (nI x11.1.length) 0=true
         · rw[if_pos c17] at h
           obtain rfl:=osi h
           exact Tri.of (x:=X5) aE vQ (u17++[dt,dt,dt]) ([⟨c17⟩,⟨c17⟩,⟨c17⟩]++w18) (by kernel_rfl)
         rw[if_neg c17] at h;replace c17:=eqf c17
         obtain rfl:=osi h
         exact Tri.of (x:=X5) aE vQ (u17++[df,df,df]) ([⟨c17⟩,⟨c17⟩,⟨c17⟩]++w18) (by kernel_rfl)
       rw[if_neg c16] at h;replace c16:=eqf c16
       obtain rfl:=osi h
       exact Tri.of (x:=X5) aE vQ (u13++[dt,dt,dt,df,df,df,df,df,df,df]) ([⟨rF⟩,⟨rF⟩,⟨rF⟩,⟨c16⟩,⟨c16⟩,⟨c16⟩,⟨c16⟩,⟨c15⟩,⟨c15⟩,⟨c15⟩]++w14) (by kernel_rfl)
     rw[if_neg c15] at h;replace c15:=eqf c15
     obtain rfl:=osi h
     exact Tri.of (x:=X5) aE vQ (u13++[df,df,df,df,df,df,df,df,df,df]) ([⟨rF⟩,⟨rF⟩,⟨rF⟩,⟨rF⟩,⟨rF⟩,⟨rF⟩,⟨rF⟩,⟨c15⟩,⟨c15⟩,⟨c15⟩]++w14) (by kernel_rfl)
   rw[if_neg c12] at h;replace c12:=eqf c12
   obtain rfl:=osi h
   exact Tri.of (x:=X5) aE vQ (u7++[df,df,df,df,df,df,df,df,df,df,df,df,df,df,df,df,df,df,df,df]) ([⟨rF⟩,⟨rF⟩,⟨rF⟩,⟨rF⟩,⟨rF⟩,⟨rF⟩,⟨rF⟩,⟨rF⟩,⟨rF⟩,⟨rF⟩,⟨rF⟩,⟨rF⟩,⟨rF⟩,⟨rF⟩,⟨rF⟩,⟨rF⟩,⟨rF⟩,⟨c12⟩,⟨c12⟩,⟨c12⟩]++w8) (by kernel_rfl)
 rw[if_neg c1] at h;replace c1:=eqf c1
 obtain rfl:=osi h
 exact Tri.of (x:=X5) aE vQ (u3++[dt]) [⟨(nT c1)⟩,⟨(xI k _ e0)⟩] (by kernel_rfl)
end Go.Ws
