/-
  Walks, merged.
  Conditions: none.
-/
import Derived.Test.YtipeekdnpocclaaZPre
import Derived.Test.YtipeekdnpocclaaZPure
import Derived.Test.YtipeekdnpocclaaZIns72
import Derived.Test.YtipeekdnpocclaaZDel45
import Derived.Test.YtipeekdnpocclaaZIns44
import Derived.Test.YtipeekdnpocclaaZOppI
import Derived.Test.YtipeekdnpocclaaZAgr
set_option linter.unusedVariables false
set_option linter.unusedSimpArgs false
namespace Go.Ws
open Go.Proofs
set_option linter.unusedSimpArgs false
set_option linter.unusedVariables false
set_option maxRecDepth 1000000
set_option maxHeartbeats 4000000
noncomputable def X26:Ctx:=⟨Try.f26,[],true⟩
theorem aD0:Tri Try.prog 26 [] [] (.sl 4 (List.map aA (aK))) []:=by
 obtain⟨r,h⟩:∃r,aK=r:=⟨_,rfl⟩
 try rw[h]
 unfold aK at h
 obtain rfl:=h
 exact Tri.of (x:=X26) aE facts26 [.rows (List.map aA [(1,1,0,0),(3,1,0,5),(4,1,0,1),(5,1,0,0),(6,1,0,2)])] [⟨(cH aA (l:=[(1,1,0,0),(3,1,0,5),(4,1,0,1),(5,1,0,0),(6,1,0,2)]) (n:=5) rfl)⟩,⟨(eX aA (Nat.le_refl 5):0+5≤(List.map aA [(1,1,0,0),(3,1,0,5),(4,1,0,1),(5,1,0,0),(6,1,0,2)]).length)⟩] (by kernel_rfl)
end Go.Ws

namespace Go.Ws
open Go.Proofs
set_option linter.unusedSimpArgs false
set_option linter.unusedVariables false
set_option maxRecDepth 1000000
set_option maxHeartbeats 4000000
noncomputable def X20:Ctx:=⟨Try.f20,[],false⟩
theorem aDL:Tri Try.prog 20 [] [] (.hp 0 0) [(.row [.nils,.nils,(.mp 1),.nils]),(.map (bK .i64 (fun y=>AV.agg (aC y)) ([]:Ty2)) ([]:Ty2).length)]:=by
 obtain⟨r,h⟩:∃r,aFD=r:=⟨_,rfl⟩
 try rw[h]
 unfold aFD at h
 obtain rfl:=h
 exact Tri.of (x:=X20) aE facts20 [.norm 0 ⟨[(0,[])],[⟨.tmp 0,[],none⟩,⟨.cell 0 2,[],none⟩],false,[],[]⟩] [] (by kernel_rfl)
end Go.Ws

namespace Go.Ws
open Go.Proofs
set_option linter.unusedSimpArgs false
set_option linter.unusedVariables false
set_option maxRecDepth 1000000
set_option maxHeartbeats 4000000
noncomputable def X67_1001:Ctx:=⟨Try.f67,[],false⟩
theorem yD (k:Nat) (x1:Ty8) (r:Unit) (h:iY k x1=some r):Tri Try.prog 67 [(.inl 3 (List.map aD x1))] [] (.ref 3 0 0 0 x1.length .virt) [(.arr 3 (List.map aD x1) 0 0 false)]:=by
 unfold iY at h
 by_cases c0:dF (x1.length*24)=true
 · rw[if_pos c0] at h
   obtain rfl:=osi h
   exact Tri.of (x:=X67_1001) aE aNG [df,.n x1.length,.norm 0 ⟨[(2,[])],[⟨.tmp 2,[],some 3⟩],false,[],[]⟩,.n x1.length,.rows (List.map aD x1)] [⟨(eZ aD (l:=x1) (n:=x1.length) rfl)⟩,⟨(rfl:x1.length=x1.length)⟩,⟨(zle x1.length)⟩,⟨c0⟩,⟨(aU aD x1)⟩,⟨rF⟩] (by kernel_rfl)
 rw[if_neg c0] at h;replace c0:=eqf c0
 cases h
end Go.Ws

namespace Go.Ws
open Go.Proofs
set_option linter.unusedSimpArgs false
set_option linter.unusedVariables false
set_option maxRecDepth 1000000
set_option maxHeartbeats 4000000
noncomputable def X67_1002:Ctx:=⟨Try.f67,[],false⟩
theorem xB:Tri Try.prog 67 [.nils] [] (.ref 3 0 0 0 0 .virt) [(.arr 3 (List.map aD []) 0 0 false)]:=by
 obtain⟨r,h⟩:∃r,p8=r:=⟨_,rfl⟩
 try rw[h]
 unfold p8 at h
 obtain rfl:=h
 exact Tri.of (x:=X67_1002) aE aNG [dt,.norm 0 ⟨[(2,[])],[⟨.tmp 2,[],some 3⟩],false,[],[]⟩,.n 0,.rows (List.map aD [])] [⟨(eZ aD (l:=[]) (n:=0) rfl)⟩,⟨(rfl:0=0)⟩,⟨(zle 0)⟩,⟨rT⟩] (by kernel_rfl)
end Go.Ws

namespace Go.Ws
open Go.Proofs
set_option linter.unusedSimpArgs false
set_option linter.unusedVariables false
set_option maxRecDepth 1000000
set_option maxHeartbeats 4000000
theorem wQ (k:Nat) (x1:Ty8) (r:Unit) (h:nL k x1=some r):Tri Try.prog 67 [(.sl 3 (List.map aD x1))] [] (.ref 3 0 0 0 x1.length .virt) [(.arr 3 (List.map aD x1) 0 0 false)]:=by
 refine Tri.slOf (yD k x1 r h) fun h0=>?_
 have hx:x1=[]:=by simpa using h0
 subst hx
 exact xB
end Go.Ws

namespace Go.Ws
open Go.Proofs
set_option linter.unusedSimpArgs false
set_option linter.unusedVariables false
set_option maxRecDepth 1000000
set_option maxHeartbeats 4000000
noncomputable def X69:Ctx:=⟨Try.f69,[],true⟩
theorem aDR (x1:Int) (x2:Int):Tri Try.prog 69 [(.int .i64 x1),(.int .u8 x2)] [] (.bool (hH x1 x2)) []:=by
 obtain⟨r,h⟩:∃r,hH x1 x2=r:=⟨_,rfl⟩
 try rw[h]
 unfold hH at h
 by_cases c0:ltI x2 64=true
 · rw[if_pos c0] at h
   by_cases c1:ltI x1 0=true
   · rw[if_pos c1] at h
     obtain rfl:=h
     exact Tri.of (x:=X69) aE aJC [dt,dt,dt,df,df,df] [⟨(nF c1)⟩,⟨(nF c1)⟩,⟨(nF c1)⟩,⟨c0⟩,⟨c0⟩,⟨c0⟩] (by kernel_rfl)
   rw[if_neg c1] at h;replace c1:=eqf c1
   obtain rfl:=h
   exact Tri.of (x:=X69) aE aJC [dt,dt,dt,dt,dt,dt] [⟨(nT c1)⟩,⟨(nT c1)⟩,⟨(nT c1)⟩,⟨c0⟩,⟨c0⟩,⟨c0⟩] (by kernel_rfl)
 rw[if_neg c0] at h;replace c0:=eqf c0
 obtain rfl:=h
 exact Tri.of (x:=X69) aE aJC [df,df,df,df,df,df] [⟨rF⟩,⟨rF⟩,⟨rF⟩,⟨c0⟩,⟨c0⟩,⟨c0⟩] (by kernel_rfl)
end Go.Ws

namespace Go.Ws
open Go.Proofs
set_option linter.unusedSimpArgs false
set_option linter.unusedVariables false
set_option maxRecDepth 1000000
set_option maxHeartbeats 4000000
noncomputable def X65:Ctx:=⟨Try.f65,[],true⟩
theorem aBU (x1:Int):Tri Try.prog 65 [(.int .u8 x1)] [] (.bool (hI x1)) []:=by
 obtain⟨r,h⟩:∃r,hI x1=r:=⟨_,rfl⟩
 try rw[h]
 unfold hI at h
 obtain rfl:=h
 exact Tri.of (x:=X65) aE facts65 [] [] (by kernel_rfl)
end Go.Ws

namespace Go.Ws
open Go.Proofs
set_option linter.unusedSimpArgs false
set_option linter.unusedVariables false
set_option maxRecDepth 1000000
set_option maxHeartbeats 4000000
noncomputable def X53:Ctx:=⟨Try.f53,[],true⟩
theorem yF (x1:Int) (x2:Int):Tri Try.prog 53 [(.int .u8 x1),(.int .u8 x2)] [] (.int .i64 (bA x1 x2)) []:=by
 obtain⟨r,h⟩:∃r,bA x1 x2=r:=⟨_,rfl⟩
 try rw[h]
 unfold bA at h
 let u1:List Ans:=[.call ⟨true,[]⟩ (.bool (hI x1)) [],.call ⟨true,[]⟩ (.bool (hI x2)) []]
 let w2:List Prf:=[⟨(aBU x2)⟩,⟨(aBU x1)⟩]
 by_cases c0:(hI x1)=true
 · rw[if_pos c0] at h
   by_cases c1:(hI x2)=true
   · rw[if_pos c1] at h
     obtain rfl:=h
     exact Tri.of (x:=X53) aE y4 (u1++[dt,dt]) ([⟨c1⟩,⟨c0⟩]++w2) (by kernel_rfl)
   rw[if_neg c1] at h;replace c1:=eqf c1
   obtain rfl:=h
   exact Tri.of (x:=X53) aE y4 (u1++[dt,df]) ([⟨c1⟩,⟨c0⟩]++w2) (by kernel_rfl)
 rw[if_neg c0] at h;replace c0:=eqf c0
 by_cases c1:(hI x2)=true
 · rw[if_pos c1] at h
   obtain rfl:=h
   exact Tri.of (x:=X53) aE y4 (u1++[df,dt]) ([⟨c1⟩,⟨c0⟩]++w2) (by kernel_rfl)
 rw[if_neg c1] at h;replace c1:=eqf c1
 by_cases c2:ltI x1 x2=true
 · rw[if_pos c2] at h
   obtain rfl:=h
   exact Tri.of (x:=X53) aE y4 (u1++[df,df,dt]) ([⟨c2⟩,⟨c1⟩,⟨c0⟩]++w2) (by kernel_rfl)
 rw[if_neg c2] at h;replace c2:=eqf c2
 by_cases c3:ltI x2 x1=true
 · rw[if_pos c3] at h
   obtain rfl:=h
   exact Tri.of (x:=X53) aE y4 (u1++[df,df,df,dt]) ([⟨c3⟩,⟨c2⟩,⟨c1⟩,⟨c0⟩]++w2) (by kernel_rfl)
 rw[if_neg c3] at h;replace c3:=eqf c3
 obtain rfl:=h
 exact Tri.of (x:=X53) aE y4 (u1++[df,df,df,df]) ([⟨c3⟩,⟨c2⟩,⟨c1⟩,⟨c0⟩]++w2) (by kernel_rfl)
end Go.Ws

namespace Go.Ws
open Go.Proofs
set_option linter.unusedSimpArgs false
set_option linter.unusedVariables false
set_option maxRecDepth 1000000
set_option maxHeartbeats 4000000
noncomputable def X100:Ctx:=⟨Try.f100,[],true⟩
theorem uU (x1:Int):Tri Try.prog 100 [(.int .i64 x1)] [] (.bool (eI x1)) []:=by
 obtain⟨r,h⟩:∃r,eI x1=r:=⟨_,rfl⟩
 try rw[h]
 unfold eI at h
 obtain rfl:=h
 exact Tri.of (x:=X100) aE facts100 [] [] (by kernel_rfl)
end Go.Ws

namespace Go.Ws
open Go.Proofs
set_option linter.unusedSimpArgs false
set_option linter.unusedVariables false
set_option maxRecDepth 1000000
set_option maxHeartbeats 4000000
noncomputable def X88:Ctx:=⟨Try.f88,[],true⟩
theorem aA5 (x1:Int) (x2:Int):Tri Try.prog 88 [(.int .i64 x1),(.int .i64 x2)] [] (.int .i64 (dI x1 x2)) []:=by
 obtain⟨r,h⟩:∃r,dI x1 x2=r:=⟨_,rfl⟩
 try rw[h]
 unfold dI at h
 let u1:List Ans:=[.call ⟨true,[]⟩ (.bool (eI x1)) [],.call ⟨true,[]⟩ (.bool (eI x2)) []]
 let w2:List Prf:=[⟨(uU x2)⟩,⟨(uU x1)⟩]
 by_cases c0:(eI x1)=true
 · rw[if_pos c0] at h
   by_cases c1:(eI x2)=true
   · rw[if_pos c1] at h
     obtain rfl:=h
     exact Tri.of (x:=X88) aE y8 (u1++[dt,dt]) ([⟨c1⟩,⟨c0⟩]++w2) (by kernel_rfl)
   rw[if_neg c1] at h;replace c1:=eqf c1
   obtain rfl:=h
   exact Tri.of (x:=X88) aE y8 (u1++[dt,df]) ([⟨c1⟩,⟨c0⟩]++w2) (by kernel_rfl)
 rw[if_neg c0] at h;replace c0:=eqf c0
 by_cases c1:(eI x2)=true
 · rw[if_pos c1] at h
   obtain rfl:=h
   exact Tri.of (x:=X88) aE y8 (u1++[df,dt]) ([⟨c1⟩,⟨c0⟩]++w2) (by kernel_rfl)
 rw[if_neg c1] at h;replace c1:=eqf c1
 by_cases c2:ltI x1 x2=true
 · rw[if_pos c2] at h
   obtain rfl:=h
   exact Tri.of (x:=X88) aE y8 (u1++[df,df,dt]) ([⟨c2⟩,⟨c1⟩,⟨c0⟩]++w2) (by kernel_rfl)
 rw[if_neg c2] at h;replace c2:=eqf c2
 by_cases c3:ltI x2 x1=true
 · rw[if_pos c3] at h
   obtain rfl:=h
   exact Tri.of (x:=X88) aE y8 (u1++[df,df,df,dt]) ([⟨c3⟩,⟨c2⟩,⟨c1⟩,⟨c0⟩]++w2) (by kernel_rfl)
 rw[if_neg c3] at h;replace c3:=eqf c3
 obtain rfl:=h
 exact Tri.of (x:=X88) aE y8 (u1++[df,df,df,df]) ([⟨c3⟩,⟨c2⟩,⟨c1⟩,⟨c0⟩]++w2) (by kernel_rfl)
end Go.Ws

namespace Go.Ws
open Go.Proofs
set_option linter.unusedSimpArgs false
set_option linter.unusedVariables false
set_option maxRecDepth 1000000
set_option maxHeartbeats 4000000
noncomputable def X87:Ctx:=⟨Try.f87,[],true⟩
noncomputable def L87_0:Code:=at_ Try.f87 [1,1,0,1,4,5]
def S87_0 (x1:List Int) (cY:Int):St:=⟨mkT 18 [(3,(.int .i64 0)),(6,(.sl 1 (List.map bC x1))),(7,(.int .i64 (nI x1.length))),(8,(.int .i64 cY))],[]⟩
def aIU:St:=⟨mkT 18 [(3,(.int .i64 0))],[]⟩
def O87_0 (x1:List Int) (y:(Sum (Unit) (Int))):GX:=match y with
 | .inl y=>.st (.exit 0) (aIU)
 | .inr y=>.fin (.int .i64 y) []
theorem wH (x1:List Int) (y:(Sum (Unit) (Int))):∀(k:Nat) (cY:Int),j7 k x1 cY=some y→LT Try.prog X87 L87_0 (S87_0 x1 cY) (O87_0 x1 y)
 | 0,cY,h=>by cases h
 | k+1,cY,h=>by
  rw[j7] at h
  by_cases cL0:ltI cY (nI x1.length)=true
  · rw[if_pos cL0] at h
    by_cases cL1:inI cY x1.length=true
    · rw[if_pos cL1] at h
      obtain⟨p9,eL2,h⟩:=bsm h
      let u1:List Ans:=[dt,.n x1.length,.row [(.int .i64 p9)]]
      let w2:List Prf:=[⟨(cE (e:=bC) eL2 1 0 1 (by decide))⟩,⟨cL1⟩,⟨(aU bC x1)⟩,⟨cL0⟩]
      by_cases cL3:eqI p9 0=true
      · rw[if_pos cL3] at h
        exact LT.next aE (hs:=⟨[(3,[]),(6,[]),(7,[]),(8,[])],[],false,[],[]⟩) (es:=none) (u1++[df]) ([⟨(nF cL3)⟩]++w2) (by kernel_rfl) (wH x1 y k (aH .i64 cY 1) h)
      rw[if_neg cL3] at h;replace cL3:=eqf cL3
      obtain rfl:=osi h
      show LT _ _ _ _ (.fin (.int .i64 p9) [])
      exact LT.done aE (hs:=⟨[],[],false,[],[]⟩) (es:=none) (u1++[dt]) ([⟨(nT cL3)⟩]++w2) (by kernel_rfl) (fun s h=>by cases h)
    rw[if_neg cL1] at h;replace cL1:=eqf cL1
    cases h
  rw[if_neg cL0] at h;replace cL0:=eqf cL0
  obtain rfl:=osi h
  show LT _ _ _ _ (.st (.exit 0) (aIU))
  exact LT.done aE (hs:=⟨[],[],false,[],[]⟩) (es:=(some ⟨[(3,[])],[],false,[],[]⟩)) [df] [⟨cL0⟩] (by kernel_rfl) (fun s h=>by cases h)
theorem aPL (k:Nat) (x1:List Int) (r:Int) (h:aCW k x1=some r):Tri Try.prog 87 [(.sl 1 (List.map bC x1))] [] (.int .i64 r) []:=by
 unfold aCW at h
 let u3:List Ans:=[.n x1.length,.norm 2 ⟨[(3,[]),(6,[]),(7,[]),(8,[])],[],false,[],[]⟩]
 obtain⟨x2,e0,h⟩:=bsm h
 cases x2 with
 | inl x3 =>
  simp only[Sum.elim_inl] at h
  obtain rfl:=osi h
  exact Tri.of (x:=X87) aE aOH (u3++[.out (.st .normal (aIU))]) [⟨(LT.block (wH x1 _ k 0 e0))⟩,⟨(aU bC x1)⟩] (by kernel_rfl)
 | inr x3 =>
  simp only[Sum.elim_inr] at h
  obtain rfl:=osi h
  exact Tri.of (x:=X87) aE aOH (u3++[.out (.fin (.int .i64 x3) [])]) [⟨(LT.blockFin (id:=0) (wH x1 _ k 0 e0))⟩,⟨(aU bC x1)⟩] (by kernel_rfl)
end Go.Ws

namespace Go.Ws
open Go.Proofs
set_option linter.unusedSimpArgs false
set_option linter.unusedVariables false
set_option maxRecDepth 1000000
set_option maxHeartbeats 4000000
noncomputable def X71:Ctx:=⟨Try.f71,[],true⟩
theorem uF (k:Nat) (x1:Int) (x2:Int) (x3:Bool) (x4:Int) (x5:Int) (x6:Bool) (r:Int) (h:mZ k x1 x2 x3 x4 x5 x6=some r):Tri Try.prog 71 [(.agg [(.int .u8 x1),(.int .i64 x2),(.bool x3)]),(.agg [(.int .u8 x4),(.int .i64 x5),(.bool x6)])] [] (.int .i64 r) []:=by
 unfold mZ at h
 obtain⟨x7,e0,h⟩:=bsm h
 obtain rfl:=osi h
 exact Tri.of (x:=X71) aE facts71 [.call ⟨true,[]⟩ (.int .i64 (bA x1 x4)) [],.call ⟨true,[]⟩ (.int .i64 (dI x2 x5)) [],.call ⟨true,[]⟩ (.int .i64 x7) [],.rows (List.map bC [(bA x1 x4),(dI x2 x5)])] [⟨(aPL k [(bA x1 x4),(dI x2 x5)] _ e0)⟩,⟨(cH bC (l:=[(bA x1 x4),(dI x2 x5)]) (n:=2) rfl)⟩,⟨(eX bC (Nat.le_refl 2):0+2≤(List.map bC [(bA x1 x4),(dI x2 x5)]).length)⟩,⟨(aA5 x2 x5)⟩,⟨(yF x1 x4)⟩] (by kernel_rfl)
end Go.Ws

namespace Go.Ws
open Go.Proofs
set_option linter.unusedSimpArgs false
set_option linter.unusedVariables false
set_option maxRecDepth 1000000
set_option maxHeartbeats 4000000
noncomputable def X68:Ctx:=⟨Try.f68,[],true⟩
noncomputable def L68_0:Code:=at_ Try.f68 [1,0,1,4,5]
def S68_0 (x1:Ty8) (bF:Int):St:=⟨mkT 46 [(0,(.sl 3 (List.map aD x1))),(6,(.sl 3 (List.map aD x1))),(7,(.int .i64 (nI x1.length))),(8,(.int .i64 bF))],[]⟩
def aIJ:St:=⟨mkT 46 [],[]⟩
def O68_0 (x1:Ty8) (y:zO):GX:=match y with
 | .inl y=>.st (.exit 0) (aIJ)
 | .inr y=>.fin (.bool y) []
theorem k9 (x1:Ty8) (y:zO):∀(k:Nat) (bF:Int),eH k x1 bF=some y→LT Try.prog X68 L68_0 (S68_0 x1 bF) (O68_0 x1 y)
 | 0,bF,h=>by cases h
 | k+1,bF,h=>by
  rw[eH] at h
  by_cases cL0:ltI bF (nI x1.length)=true
  · rw[if_pos cL0] at h
    by_cases cL1:inI bF x1.length=true
    · rw[if_pos cL1] at h
      obtain⟨dL,eL2,h⟩:=bsm h
      let u1:List Ans:=[dt,.n x1.length,.row [(.int .u8 dL.1),(.int .i64 dL.2.1),(.bool dL.2.2)],.call ⟨true,[]⟩ (.bool (hH dL.2.1 dL.1)) []]
      let w2:List Prf:=[⟨(aDR dL.2.1 dL.1)⟩,⟨(cE (e:=aD) eL2 3 0 3 (by decide))⟩,⟨cL1⟩,⟨(aU aD x1)⟩,⟨cL0⟩]
      by_cases cL3:(hH dL.2.1 dL.1)=true
      · rw[if_pos cL3] at h
        by_cases cL4:eqI bF 0=true
        · rw[if_pos cL4] at h
          exact LT.next aE (hs:=⟨[(0,[]),(6,[]),(7,[]),(8,[])],[],false,[],[]⟩) (es:=none) (u1++[df,dt]) ([⟨cL4⟩,⟨(nF cL3)⟩]++w2) (by kernel_rfl) (k9 x1 y k (aH .i64 bF 1) h)
        rw[if_neg cL4] at h;replace cL4:=eqf cL4
        by_cases cL5:inI (rH .i64 bF 1) x1.length=true
        · rw[if_pos cL5] at h
          obtain⟨gV,eL6,h⟩:=bsm h
          obtain⟨vT,eL7,h⟩:=bsm h
          let u5:List Ans:=u1++[df,df,.n x1.length,.row [(.int .u8 gV.1),(.int .i64 gV.2.1),(.bool gV.2.2)],.call ⟨true,[]⟩ (.int .i64 vT) []]
          let w6:List Prf:=[⟨(uF k gV.1 gV.2.1 gV.2.2 dL.1 dL.2.1 dL.2.2 _ eL7)⟩,⟨(cE (e:=aD) eL6 3 0 3 (by decide))⟩,⟨cL5⟩,⟨(aU aD x1)⟩,⟨cL4⟩,⟨(nF cL3)⟩]++w2
          by_cases cL8:ltI vT 0=true
          · rw[if_pos cL8] at h
            let w8:List Prf:=[⟨(nF cL8)⟩,⟨(nF cL8)⟩,⟨(nF cL8)⟩,⟨(nF cL8)⟩,⟨(nF cL8)⟩,⟨(nF cL8)⟩]++w6
            by_cases cL9:eqI gV.1 dL.1=true
            · rw[if_pos cL9] at h
              let u9:List Ans:=u5++[df,df,df,df,df,df,dt,dt,dt]
              by_cases cL10:gV.2.2=true
              · rw[if_pos cL10] at h
                obtain rfl:=osi h
                show LT _ _ _ _ (.fin (.bool false) [])
                exact LT.done aE (hs:=⟨[],[],false,[],[]⟩) (es:=none) (u9++[dt,dt,dt,dt,df,dt,df,dt]) ([⟨rT⟩,⟨(nF cL8)⟩,⟨cL9⟩,⟨(nF cL8)⟩,⟨cL10⟩,⟨cL9⟩,⟨cL10⟩,⟨cL10⟩,⟨cL9⟩,⟨cL9⟩,⟨cL9⟩]++w8) (by kernel_rfl) (fun s h=>by cases h)
              rw[if_neg cL10] at h;replace cL10:=eqf cL10
              let w12:List Prf:=[⟨(nF cL8)⟩,⟨cL9⟩,⟨(nF cL8)⟩,⟨cL10⟩,⟨cL9⟩,⟨cL10⟩,⟨cL10⟩,⟨cL9⟩,⟨cL9⟩,⟨cL9⟩]++w8
              by_cases cL11:dL.2.2=true
              · rw[if_pos cL11] at h
                obtain rfl:=osi h
                show LT _ _ _ _ (.fin (.bool false) [])
                exact LT.done aE (hs:=⟨[],[],false,[],[]⟩) (es:=none) (u9++[df,df,dt,df,df,dt,df,dt]) ([⟨cL11⟩]++w12) (by kernel_rfl) (fun s h=>by cases h)
              rw[if_neg cL11] at h;replace cL11:=eqf cL11
              exact LT.next aE (hs:=⟨[(0,[]),(6,[]),(7,[]),(8,[])],[],false,[],[]⟩) (es:=none) (u9++[df,df,dt,df,df,dt,df,df]) ([⟨cL11⟩]++w12) (by kernel_rfl) (k9 x1 y k (aH .i64 bF 1) h)
            rw[if_neg cL9] at h;replace cL9:=eqf cL9
            exact LT.next aE (hs:=⟨[(0,[]),(6,[]),(7,[]),(8,[])],[],false,[],[]⟩) (es:=none) (u5++[df,df,df,df,df,df,df,df,df,df,df,df,df,df]) ([⟨rF⟩,⟨(nF cL8)⟩,⟨cL9⟩,⟨(nF cL8)⟩,⟨cL9⟩,⟨cL9⟩,⟨cL9⟩,⟨cL9⟩]++w8) (by kernel_rfl) (k9 x1 y k (aH .i64 bF 1) h)
          rw[if_neg cL8] at h;replace cL8:=eqf cL8
          obtain rfl:=osi h
          show LT _ _ _ _ (.fin (.bool false) [])
          exact LT.done aE (hs:=⟨[],[],false,[],[]⟩) (es:=none) (u5++[dt,dt,dt,dt,dt,dt,dt,dt,dt]) ([⟨rT⟩,⟨(nT cL8)⟩,⟨(nT cL8)⟩,⟨(nT cL8)⟩,⟨(nT cL8)⟩,⟨(nT cL8)⟩,⟨(nT cL8)⟩,⟨(nT cL8)⟩,⟨(nT cL8)⟩]++w6) (by kernel_rfl) (fun s h=>by cases h)
        rw[if_neg cL5] at h;replace cL5:=eqf cL5
        cases h
      rw[if_neg cL3] at h;replace cL3:=eqf cL3
      obtain rfl:=osi h
      show LT _ _ _ _ (.fin (.bool false) [])
      exact LT.done aE (hs:=⟨[],[],false,[],[]⟩) (es:=none) (u1++[dt]) ([⟨(nT cL3)⟩]++w2) (by kernel_rfl) (fun s h=>by cases h)
    rw[if_neg cL1] at h;replace cL1:=eqf cL1
    cases h
  rw[if_neg cL0] at h;replace cL0:=eqf cL0
  obtain rfl:=osi h
  show LT _ _ _ _ (.st (.exit 0) (aIJ))
  exact LT.done aE (hs:=⟨[],[],false,[],[]⟩) (es:=(some ⟨[],[],false,[],[]⟩)) [df] [⟨cL0⟩] (by kernel_rfl) (fun s h=>by cases h)
theorem aGH (k:Nat) (x1:Ty8) (r:Bool) (h:qJ k x1=some r):Tri Try.prog 68 [(.sl 3 (List.map aD x1))] [] (.bool r) []:=by
 unfold qJ at h
 let u13:List Ans:=[.n x1.length,.norm 2 ⟨[(0,[]),(6,[]),(7,[]),(8,[])],[],false,[],[]⟩]
 obtain⟨x2,e0,h⟩:=bsm h
 cases x2 with
 | inl x3 =>
  simp only[Sum.elim_inl] at h
  obtain rfl:=osi h
  exact Tri.of (x:=X68) aE aOA (u13++[.out (.st .normal (aIJ))]) [⟨(LT.block (k9 x1 _ k 0 e0))⟩,⟨(aU aD x1)⟩] (by kernel_rfl)
 | inr x3 =>
  simp only[Sum.elim_inr] at h
  obtain rfl:=osi h
  exact Tri.of (x:=X68) aE aOA (u13++[.out (.fin (.bool x3) [])]) [⟨(LT.blockFin (id:=0) (k9 x1 _ k 0 e0))⟩,⟨(aU aD x1)⟩] (by kernel_rfl)
end Go.Ws

namespace Go.Ws
open Go.Proofs
set_option linter.unusedSimpArgs false
set_option linter.unusedVariables false
set_option maxRecDepth 1000000
set_option maxHeartbeats 4000000
noncomputable def X70:Ctx:=⟨Try.f70,[],true⟩
noncomputable def L70_0:Code:=at_ Try.f70 [1,1,1,0,4,5]
def S70_0 (x1:Ty8) (x2:Int) (x3:Int) (x4:Bool) (bW:Int) (cA:Int):St:=⟨mkT 49 [(0,(.sl 3 (List.map aD x1))),(2,(.fn 71 [])),(4,(.hp 0 0)),(8,(.int .i64 (nI x1.length))),(9,(.int .i64 bW)),(10,(.int .i64 cA))],[(.row [(.int .u8 x2),(.int .i64 x3),(.bool x4)])]⟩
def aHV (x1:Ty8) (x2:Int) (x3:Int) (x4:Bool) (v70002_1:Int):St:=⟨mkT 49 [(0,(.sl 3 (List.map aD x1))),(2,(.fn 71 [])),(4,(.hp 0 0)),(8,(.int .i64 (nI x1.length))),(9,(.int .i64 v70002_1))],[(.row [(.int .u8 x2),(.int .i64 x3),(.bool x4)])]⟩
def O70_0 (x1:Ty8) (x2:Int) (x3:Int) (x4:Bool) (y:(Int)):GX:=.st (.exit 0) (aHV x1 x2 x3 x4 y)
theorem iQ (x1:Ty8) (x2:Int) (x3:Int) (x4:Bool) (y:(Int)):∀(k:Nat) (bW:Int) (cA:Int),aV k x1 x2 x3 x4 bW cA=some y→LT Try.prog X70 L70_0 (S70_0 x1 x2 x3 x4 bW cA) (O70_0 x1 x2 x3 x4 y)
 | 0,bW,cA,h=>by cases h
 | k+1,bW,cA,h=>by
  rw[aV] at h
  by_cases cL0:ltI bW cA=true
  · rw[if_pos cL0] at h
    by_cases cL1:inI (conv .i64 (rR .u64 (conv .u64 (aH .i64 bW cA)) 1)) x1.length=true
    · rw[if_pos cL1] at h
      obtain⟨kI,eL2,h⟩:=bsm h
      obtain⟨vU,eL3,h⟩:=bsm h
      let u1:List Ans:=[dt,.n x1.length,.row [(.int .u8 kI.1),(.int .i64 kI.2.1),(.bool kI.2.2)],.call ⟨true,[]⟩ (.int .i64 vU) []]
      let w2:List Prf:=[⟨(uF k kI.1 kI.2.1 kI.2.2 x2 x3 x4 _ eL3)⟩,⟨(cE (e:=aD) eL2 3 0 3 (by decide))⟩,⟨cL1⟩,⟨(aU aD x1)⟩,⟨cL0⟩]
      by_cases cL4:ltI vU 0=true
      · rw[if_pos cL4] at h
        exact LT.next aE (hs:=⟨[(0,[]),(2,[]),(4,[]),(8,[]),(9,[]),(10,[])],[⟨.tmp 4,[],none⟩],false,[],[]⟩) (es:=none) (u1++[dt]) ([⟨cL4⟩]++w2) (by kernel_rfl) (iQ x1 x2 x3 x4 y k (aH .i64 (conv .i64 (rR .u64 (conv .u64 (aH .i64 bW cA)) 1)) 1) cA h)
      rw[if_neg cL4] at h;replace cL4:=eqf cL4
      exact LT.next aE (hs:=⟨[(0,[]),(2,[]),(4,[]),(8,[]),(9,[]),(10,[])],[⟨.tmp 4,[],none⟩],false,[],[]⟩) (es:=none) (u1++[df]) ([⟨cL4⟩]++w2) (by kernel_rfl) (iQ x1 x2 x3 x4 y k bW (conv .i64 (rR .u64 (conv .u64 (aH .i64 bW cA)) 1)) h)
    rw[if_neg cL1] at h;replace cL1:=eqf cL1
    cases h
  rw[if_neg cL0] at h;replace cL0:=eqf cL0
  obtain rfl:=osi h
  show LT _ _ _ _ (.st (.exit 0) (aHV x1 x2 x3 x4 bW))
  exact LT.done aE (hs:=⟨[],[],false,[],[]⟩) (es:=(some ⟨[(0,[]),(2,[]),(4,[]),(8,[]),(9,[])],[⟨.tmp 4,[],none⟩],false,[],[]⟩)) [df] [⟨cL0⟩] (by kernel_rfl) (fun s h=>by cases h)
theorem tI (k:Nat) (x1:Ty8) (x2:Int) (x3:Int) (x4:Bool) (r:Int × Bool) (h:fJ k x1 x2 x3 x4=some r):Tri Try.prog 70 [(.sl 3 (List.map aD x1)),(.agg [(.int .u8 x2),(.int .i64 x3),(.bool x4)]),(.fn 71 [])] [] (.tup [(.int .i64 r.1),(.bool r.2)]) []:=by
 unfold fJ at h
 obtain⟨x6,e0,h⟩:=bsm h
 let u3:List Ans:=[.n x1.length,.norm 2 ⟨[(0,[]),(2,[]),(4,[]),(8,[]),(9,[]),(10,[])],[⟨.tmp 4,[],none⟩],false,[],[]⟩,.out (.st .normal (aHV x1 x2 x3 x4 x6))]
 let w4:List Prf:=[⟨(LT.block (iQ x1 x2 x3 x4 _ k 0 (nI x1.length) e0))⟩,⟨(aU aD x1)⟩]
 by_cases c2:ltI x6 (nI x1.length)=true
 · rw[if_pos c2] at h
   by_cases c3:inI x6 x1.length=true
   · rw[if_pos c3] at h
     obtain⟨x7,e4,h⟩:=bsm h
     obtain⟨x8,e5,h⟩:=bsm h
     obtain rfl:=osi h
     exact Tri.of (x:=X70) aE aOI (u3++[dt,dt,dt,dt,.n x1.length,dt,.row [(.int .u8 x7.1),(.int .i64 x7.2.1),(.bool x7.2.2)],dt,dt,.call ⟨true,[]⟩ (.int .i64 x8) [],dt,dt]) ([⟨c2⟩,⟨c2⟩,⟨(uF k x7.1 x7.2.1 x7.2.2 x2 x3 x4 _ e5)⟩,⟨c2⟩,⟨c2⟩,⟨(cE (e:=aD) e4 3 0 3 (by decide))⟩,⟨c2⟩,⟨c3⟩,⟨(aU aD x1)⟩,⟨c2⟩,⟨c2⟩,⟨c2⟩,⟨c2⟩]++w4) (by kernel_rfl)
   rw[if_neg c3] at h;replace c3:=eqf c3
   cases h
 rw[if_neg c2] at h;replace c2:=eqf c2
 obtain rfl:=osi h
 exact Tri.of (x:=X70) aE aOI (u3++[df,df,df,df,df,df,df,df,df]) ([⟨c2⟩,⟨c2⟩,⟨c2⟩,⟨c2⟩,⟨c2⟩,⟨c2⟩,⟨c2⟩,⟨c2⟩,⟨c2⟩]++w4) (by kernel_rfl)
end Go.Ws

namespace Go.Ws
open Go.Proofs
set_option linter.unusedSimpArgs false
set_option linter.unusedVariables false
set_option maxRecDepth 1000000
set_option maxHeartbeats 4000000
theorem aCU (k:Nat) (x1:Int) (x2:Ty8) (x3:Ty8) (r:Ty8) (h:n9 k x1 x2 x3=some r):Tri Try.prog 72 [(.ref 3 0 0 0 x2.length .virt),(.int .i64 x1),(.ref 3 1 0 0 x3.length .full)] [(.arr 3 (List.map aD x2) 0 0 false),(.arr 3 (List.map aD x3) 0 0 false)] (.ref 3 0 1 0 r.length .full) [(.arr 3 (List.map aD r) 1 1 false),(.arr 3 (List.map aD x3) 0 0 false)]:=ins_ok72 _ h rfl
end Go.Ws

namespace Go.Ws
open Go.Proofs
set_option linter.unusedSimpArgs false
set_option linter.unusedVariables false
set_option maxRecDepth 1000000
set_option maxHeartbeats 4000000
noncomputable def X56:Ctx:=⟨Try.f56,[],true⟩
noncomputable def L56_0:Code:=at_ Try.f56 [1,1,1,0,1,4,5]
def S56_0 (x1:Ty8) (x2:Int) (x3:Int) (x4:Bool) (cC:Int):St:=⟨mkT 82 [(0,(.ref 3 0 0 0 x1.length .virt)),(1,(.int .i64 x2)),(2,(.int .u8 x3)),(3,(.bool x4)),(27,(.ref 3 0 0 0 x1.length .virt)),(28,(.int .i64 (nI x1.length))),(29,(.int .i64 cC))],[(.arr 3 (List.map aD x1) 0 0 false)]⟩
def aJN (x1:Ty8) (x2:Int) (x3:Int) (x4:Bool):St:=⟨mkT 82 [(0,(.ref 3 0 0 0 x1.length .virt)),(1,(.int .i64 x2)),(2,(.int .u8 x3)),(3,(.bool x4))],[(.arr 3 (List.map aD x1) 0 0 false)]⟩
def O56_0 (x1:Ty8) (x2:Int) (x3:Int) (x4:Bool) (y:(Sum (Unit) (Ty8 × Int))):GX:=match y with
 | .inl y=>.st (.exit 0) (aJN x1 x2 x3 x4)
 | .inr y=>.fin (.tup [(.sl 3 (List.map aD y.1)),(.int .i64 y.2)]) []
def A56_0:Ans:=.norm 2 ⟨[(0,[]),(1,[]),(2,[]),(3,[]),(27,[]),(28,[]),(29,[])],[⟨.tmp 0,[],none⟩],false,[],[]⟩
theorem l8 (x1:Ty8) (x2:Int) (x3:Int) (x4:Bool) (y:(Sum (Unit) (Ty8 × Int))):∀(k:Nat) (cC:Int),fA k x1 x2 x3 x4 cC=some y→LT Try.prog X56 L56_0 (S56_0 x1 x2 x3 x4 cC) (O56_0 x1 x2 x3 x4 y)
 | 0,cC,h=>by cases h
 | k+1,cC,h=>by
  rw[fA] at h
  by_cases cL0:ltI cC (nI x1.length)=true
  · rw[if_pos cL0] at h
    by_cases cL1:inI cC x1.length=true
    · rw[if_pos cL1] at h
      obtain⟨iV,eL2,h⟩:=bsm h
      let w2:List Prf:=[⟨(cE (e:=aD) eL2 3 0 3 (by decide))⟩,⟨cL1⟩,⟨cL0⟩]
      by_cases cL3:eqI iV.1 x3=true
      · rw[if_pos cL3] at h
        let u3:List Ans:=[dt,.row [(.int .u8 iV.1),(.int .i64 iV.2.1),(.bool iV.2.2)],dt,dt,dt,dt,dt]
        let w4:List Prf:=[⟨cL3⟩,⟨cL3⟩,⟨cL3⟩,⟨cL3⟩,⟨cL3⟩]++w2
        by_cases cL4:eqI iV.2.1 x2=true
        · rw[if_pos cL4] at h
          exact LT.next aE (hs:=⟨[(0,[]),(1,[]),(2,[]),(3,[]),(27,[]),(28,[]),(29,[])],[⟨.tmp 0,[],none⟩],false,[],[]⟩) (es:=none) (u3++[df,df,df,df,df]) ([⟨rF⟩,⟨(nF cL4)⟩,⟨(nF cL4)⟩,⟨(nF cL4)⟩,⟨(nF cL4)⟩]++w4) (by kernel_rfl) (l8 x1 x2 x3 x4 y k (aH .i64 cC 1) h)
        rw[if_neg cL4] at h;replace cL4:=eqf cL4
        by_cases cL5:x4=true
        · rw[if_pos cL5] at h
          obtain rfl:=osi h
          show LT _ _ _ _ (.fin (.tup [(.sl 3 (List.map aD ((x1,9).1))),(.int .i64 ((x1,9).2))]) [])
          exact LT.done aE (hs:=⟨[],[],false,[],[]⟩) (es:=none) (u3++[dt,dt,dt,dt,dt,dt,dt,dt,.rows (List.map aD x1)]) ([⟨(cH aD (l:=x1) (n:=x1.length) rfl)⟩,⟨(eX aD (Nat.le_refl x1.length):0+x1.length≤(List.map aD x1).length)⟩,⟨rT⟩,⟨(nT cL4)⟩,⟨cL5⟩,⟨(nT cL4)⟩,⟨cL5⟩,⟨cL5⟩,⟨(nT cL4)⟩,⟨(nT cL4)⟩]++w4) (by kernel_rfl) (fun s h=>by cases h)
        rw[if_neg cL5] at h;replace cL5:=eqf cL5
        let w8:List Prf:=[⟨(nT cL4)⟩,⟨cL5⟩,⟨(nT cL4)⟩,⟨cL5⟩,⟨cL5⟩,⟨(nT cL4)⟩,⟨(nT cL4)⟩]++w4
        by_cases cL6:iV.2.2=true
        · rw[if_pos cL6] at h
          obtain rfl:=osi h
          show LT _ _ _ _ (.fin (.tup [(.sl 3 (List.map aD ((x1,9).1))),(.int .i64 ((x1,9).2))]) [])
          exact LT.done aE (hs:=⟨[],[],false,[],[]⟩) (es:=none) (u3++[dt,dt,df,df,dt,df,dt,dt,.rows (List.map aD x1)]) ([⟨(cH aD (l:=x1) (n:=x1.length) rfl)⟩,⟨(eX aD (Nat.le_refl x1.length):0+x1.length≤(List.map aD x1).length)⟩,⟨cL6⟩]++w8) (by kernel_rfl) (fun s h=>by cases h)
        rw[if_neg cL6] at h;replace cL6:=eqf cL6
        exact LT.next aE (hs:=⟨[(0,[]),(1,[]),(2,[]),(3,[]),(27,[]),(28,[]),(29,[])],[⟨.tmp 0,[],none⟩],false,[],[]⟩) (es:=none) (u3++[dt,dt,df,df,dt,df,dt,df]) ([⟨cL6⟩]++w8) (by kernel_rfl) (l8 x1 x2 x3 x4 y k (aH .i64 cC 1) h)
      rw[if_neg cL3] at h;replace cL3:=eqf cL3
      exact LT.next aE (hs:=⟨[(0,[]),(1,[]),(2,[]),(3,[]),(27,[]),(28,[]),(29,[])],[⟨.tmp 0,[],none⟩],false,[],[]⟩) (es:=none) [dt,.row [(.int .u8 iV.1),(.int .i64 iV.2.1),(.bool iV.2.2)],df,df,df,df,df,df,df,df,df,df] ([⟨rF⟩,⟨rF⟩,⟨rF⟩,⟨rF⟩,⟨rF⟩,⟨cL3⟩,⟨cL3⟩,⟨cL3⟩,⟨cL3⟩,⟨cL3⟩]++w2) (by kernel_rfl) (l8 x1 x2 x3 x4 y k (aH .i64 cC 1) h)
    rw[if_neg cL1] at h;replace cL1:=eqf cL1
    cases h
  rw[if_neg cL0] at h;replace cL0:=eqf cL0
  obtain rfl:=osi h
  show LT _ _ _ _ (.st (.exit 0) (aJN x1 x2 x3 x4))
  exact LT.done aE (hs:=⟨[],[],false,[],[]⟩) (es:=(some ⟨[(0,[]),(1,[]),(2,[]),(3,[])],[⟨.tmp 0,[],none⟩],false,[],[]⟩)) [df] [⟨cL0⟩] (by kernel_rfl) (fun s h=>by cases h)
theorem aHT (k:Nat) (x1:Ty8) (x2:Int) (x3:Int) (x4:Bool) (r:Ty8 × Int) (h:sK k x1 x2 x3 x4=some r):Tri Try.prog 56 [(.sl 3 (List.map aD x1)),(.int .i64 x2),(.int .u8 x3),(.bool x4)] [] (.tup [(.sl 3 (List.map aD r.1)),(.int .i64 r.2)]) []:=by
 unfold sK at h
 obtain⟨x5,e0,h⟩:=bsm h
 obtain⟨x6,e1,h⟩:=bsm h
 let u9:List Ans:=[.call ⟨true,[]⟩ (.ref 3 0 0 0 x1.length .virt) [(.arr 3 (List.map aD x1) 0 0 false)],.call ⟨true,[]⟩ (.bool x6) [],.rows (List.map aD x1)]
 let w10:List Prf:=[⟨(aGH k x1 _ e1)⟩,⟨(cH aD (l:=x1) (n:=x1.length) rfl)⟩,⟨(eX aD (Nat.le_refl x1.length):0+x1.length≤(List.map aD x1).length)⟩,⟨(wQ k x1 _ e0)⟩]
 by_cases c2:x6=true
 · rw[if_pos c2] at h
   let u11:List Ans:=u9++[df,df,df,.call ⟨true,[]⟩ (.bool (hH x2 x3)) [],df,df]
   let w12:List Prf:=[⟨(nF c2)⟩,⟨(nF c2)⟩,⟨(aDR x2 x3)⟩,⟨(nF c2)⟩,⟨(nF c2)⟩,⟨(nF c2)⟩]++w10
   by_cases c3:(hH x2 x3)=true
   · rw[if_pos c3] at h
     obtain⟨x7,e4,h⟩:=bsm h
     cases x7 with
     | inl x8 =>
      simp only[Sum.elim_inl] at h
      obtain⟨x9,e6,h⟩:=bsm h
      let u15:List Ans:=u11++[df,A56_0,.out (.st .normal (aJN x1 x2 x3 x4)),.call ⟨true,[]⟩ (.tup [(.int .i64 x9.1),(.bool x9.2)]) [],.rows (List.map aD x1)]
      let w16:List Prf:=[⟨(tI k x1 x3 x2 x4 _ e6)⟩,⟨(cH aD (l:=x1) (n:=x1.length) rfl)⟩,⟨(eX aD (Nat.le_refl x1.length):0+x1.length≤(List.map aD x1).length)⟩,⟨(LT.block (l8 x1 x2 x3 x4 _ k 0 e4))⟩,⟨(nF c3)⟩]++w12
      by_cases c7:x9.2=true
      · rw[if_pos c7] at h
        by_cases c8:inI x9.1 x1.length=true
        · rw[if_pos c8] at h
          obtain⟨x10,e9,h⟩:=bsm h
          let w18:List Prf:=[⟨(cE (e:=aD) e9 3 2 1 (by decide))⟩,⟨c8⟩,⟨(nF c7)⟩]++w16
          by_cases c10:x10.2.2=true
          · rw[if_pos c10] at h
            obtain rfl:=osi h
            exact Tri.of (x:=X56) aE yZ (u15++[df,.row [(.bool x10.2.2)],dt,dt,.rows (List.map aD (List.set x1 (tN x9.1) (x10.1,x10.2.1,true))),.rows (List.map aD (List.set x1 (tN x9.1) (x10.1,x10.2.1,true)))]) ([⟨(cH aD (l:=(List.set x1 (tN x9.1) (x10.1,x10.2.1,true))) (n:=x1.length) (by simp:x1.length=List.length (α:=Int × Int × Bool) (List.set x1 (tN x9.1) (x10.1,x10.2.1,true))))⟩,⟨(eX aD (Nat.le_of_eq (by simp:x1.length=List.length (α:=Int × Int × Bool) (List.set x1 (tN x9.1) (x10.1,x10.2.1,true)))))⟩,⟨(uP (e:=aD) e9 2 [(.bool true)] (x10.1,x10.2.1,true) rfl)⟩,⟨c8⟩,⟨c10⟩,⟨c10⟩]++w18) (by kernel_rfl)
          rw[if_neg c10] at h;replace c10:=eqf c10
          obtain rfl:=osi h
          exact Tri.of (x:=X56) aE yZ (u15++[df,.row [(.bool x10.2.2)],df,df,.rows (List.map aD (List.set x1 (tN x9.1) (x10.1,x10.2.1,x4))),.rows (List.map aD (List.set x1 (tN x9.1) (x10.1,x10.2.1,x4)))]) ([⟨(cH aD (l:=(List.set x1 (tN x9.1) (x10.1,x10.2.1,x4))) (n:=x1.length) (by simp:x1.length=List.length (α:=Int × Int × Bool) (List.set x1 (tN x9.1) (x10.1,x10.2.1,x4))))⟩,⟨(eX aD (Nat.le_of_eq (by simp:x1.length=List.length (α:=Int × Int × Bool) (List.set x1 (tN x9.1) (x10.1,x10.2.1,x4)))))⟩,⟨(uP (e:=aD) e9 2 [(.bool x4)] (x10.1,x10.2.1,x4) rfl)⟩,⟨c8⟩,⟨c10⟩,⟨c10⟩]++w18) (by kernel_rfl)
        rw[if_neg c8] at h;replace c8:=eqf c8
        cases h
      rw[if_neg c7] at h;replace c7:=eqf c7
      obtain⟨x10,e8,h⟩:=bsm h
      obtain rfl:=osi h
      exact Tri.of (x:=X56) aE yZ (u15++[dt,.call ⟨false,[]⟩ (.ref 3 0 1 0 x10.length .full) [(.arr 3 (List.map aD x10) 1 1 false),(.arr 3 (List.map aD [(x3,x2,x4)]) 0 0 false)],.rows (List.map aD x10)]) ([⟨(cH aD (l:=x10) (n:=x10.length) rfl)⟩,⟨(eX aD (Nat.le_refl x10.length):0+x10.length≤(List.map aD x10).length)⟩,⟨(aCU k x9.1 x1 [(x3,x2,x4)] _ e8)⟩,⟨(nT c7)⟩]++w16) (by kernel_rfl)
     | inr x8 =>
      simp only[Sum.elim_inr] at h
      obtain rfl:=osi h
      exact Tri.of (x:=X56) aE yZ (u11++[df,A56_0,.out (.fin (.tup [(.sl 3 (List.map aD x8.1)),(.int .i64 x8.2)]) [])]) ([⟨(LT.blockFin (id:=0) (l8 x1 x2 x3 x4 _ k 0 e4))⟩,⟨(nF c3)⟩]++w12) (by kernel_rfl)
   rw[if_neg c3] at h;replace c3:=eqf c3
   obtain rfl:=osi h
   exact Tri.of (x:=X56) aE yZ (u11++[dt,.rows (List.map aD x1)]) ([⟨(cH aD (l:=x1) (n:=x1.length) rfl)⟩,⟨(eX aD (Nat.le_refl x1.length):0+x1.length≤(List.map aD x1).length)⟩,⟨(nT c3)⟩]++w12) (by kernel_rfl)
 rw[if_neg c2] at h;replace c2:=eqf c2
 obtain rfl:=osi h
 exact Tri.of (x:=X56) aE yZ (u9++[dt,dt,dt,dt,dt,dt,.rows (List.map aD x1)]) ([⟨(cH aD (l:=x1) (n:=x1.length) rfl)⟩,⟨(eX aD (Nat.le_refl x1.length):0+x1.length≤(List.map aD x1).length)⟩,⟨rT⟩,⟨(nT c2)⟩,⟨(nT c2)⟩,⟨(nT c2)⟩,⟨(nT c2)⟩,⟨(nT c2)⟩]++w10) (by kernel_rfl)
end Go.Ws

namespace Go.Ws
open Go.Proofs
set_option linter.unusedSimpArgs false
set_option linter.unusedVariables false
set_option maxRecDepth 1000000
set_option maxHeartbeats 4000000
noncomputable def X36_1001:Ctx:=⟨Try.f36,[],false⟩
theorem vK (k:Nat) (x1:aG) (r:Unit) (h:gP k x1=some r):Tri Try.prog 36 [(.inl 2 (List.map aB x1))] [] (.ref 2 0 0 0 x1.length .virt) [(.arr 2 (List.map aB x1) 0 0 false)]:=by
 unfold gP at h
 by_cases c0:dF (x1.length*16)=true
 · rw[if_pos c0] at h
   obtain rfl:=osi h
   exact Tri.of (x:=X36_1001) aE aNV [df,.n x1.length,.norm 0 ⟨[(2,[])],[⟨.tmp 2,[],some 2⟩],false,[],[]⟩,.n x1.length,.rows (List.map aB x1)] [⟨(eZ aB (l:=x1) (n:=x1.length) rfl)⟩,⟨(rfl:x1.length=x1.length)⟩,⟨(zle x1.length)⟩,⟨c0⟩,⟨(aU aB x1)⟩,⟨rF⟩] (by kernel_rfl)
 rw[if_neg c0] at h;replace c0:=eqf c0
 cases h
end Go.Ws

namespace Go.Ws
open Go.Proofs
set_option linter.unusedSimpArgs false
set_option linter.unusedVariables false
set_option maxRecDepth 1000000
set_option maxHeartbeats 4000000
noncomputable def X36_1002:Ctx:=⟨Try.f36,[],false⟩
theorem vL:Tri Try.prog 36 [.nils] [] (.ref 2 0 0 0 0 .virt) [(.arr 2 (List.map aB []) 0 0 false)]:=by
 obtain⟨r,h⟩:∃r,nA=r:=⟨_,rfl⟩
 try rw[h]
 unfold nA at h
 obtain rfl:=h
 exact Tri.of (x:=X36_1002) aE aNV [dt,.norm 0 ⟨[(2,[])],[⟨.tmp 2,[],some 2⟩],false,[],[]⟩,.n 0,.rows (List.map aB [])] [⟨(eZ aB (l:=[]) (n:=0) rfl)⟩,⟨(rfl:0=0)⟩,⟨(zle 0)⟩,⟨rT⟩] (by kernel_rfl)
end Go.Ws

namespace Go.Ws
open Go.Proofs
set_option linter.unusedSimpArgs false
set_option linter.unusedVariables false
set_option maxRecDepth 1000000
set_option maxHeartbeats 4000000
theorem gM (k:Nat) (x1:aG) (r:Unit) (h:eP k x1=some r):Tri Try.prog 36 [(.sl 2 (List.map aB x1))] [] (.ref 2 0 0 0 x1.length .virt) [(.arr 2 (List.map aB x1) 0 0 false)]:=by
 refine Tri.slOf (vK k x1 r h) fun h0=>?_
 have hx:x1=[]:=by simpa using h0
 subst hx
 exact vL
end Go.Ws

namespace Go.Ws
open Go.Proofs
set_option linter.unusedSimpArgs false
set_option linter.unusedVariables false
set_option maxRecDepth 1000000
set_option maxHeartbeats 4000000
noncomputable def X73:Ctx:=⟨Try.f73,[],false⟩
theorem aC6 (k:Nat) (x1:Int) (x2:aG) (x3:Bool) (x4:Int) (r:Unit) (h:mL k x1 x2 x3 x4=some r):Tri Try.prog 73 [(.agg [(.int .i64 x1),(.sl 2 (List.map aB x2)),(.bool x3),(.int .i64 x4)])] [] (.agg [(.int .i64 x1),(.ref 2 0 0 0 x2.length .virt),(.bool x3),(.int .i64 x4)]) [(.arr 2 (List.map aB x2) 0 0 false)]:=by
 unfold mL at h
 obtain⟨x5,e0,h⟩:=bsm h
 obtain rfl:=osi h
 exact Tri.of (x:=X73) aE aNW [.call ⟨true,[]⟩ (.ref 2 0 0 0 x2.length .virt) [(.arr 2 (List.map aB x2) 0 0 false)],.norm 0 ⟨[(2,[])],[⟨.tmp 2,[],none⟩,⟨.cell 0 1,[],none⟩],false,[],[]⟩] [⟨(gM k x2 _ e0)⟩] (by kernel_rfl)
end Go.Ws

namespace Go.Ws
open Go.Proofs
set_option linter.unusedSimpArgs false
set_option linter.unusedVariables false
set_option maxRecDepth 1000000
set_option maxHeartbeats 4000000
noncomputable def X75:Ctx:=⟨Try.f75,[],true⟩
theorem aB8 (x1:Int) (x2:Int):Tri Try.prog 75 [(.agg [(.int .u8 x1),(.int .i64 x2)])] [] (.bool (hU x1 x2)) []:=by
 obtain⟨r,h⟩:∃r,hU x1 x2=r:=⟨_,rfl⟩
 try rw[h]
 unfold hU at h
 obtain rfl:=h
 exact Tri.of (x:=X75) aE facts75 [] [] (by kernel_rfl)
end Go.Ws

namespace Go.Ws
open Go.Proofs
set_option linter.unusedSimpArgs false
set_option linter.unusedVariables false
set_option maxRecDepth 1000000
set_option maxHeartbeats 4000000
noncomputable def X50:Ctx:=⟨Try.f50,[],true⟩
noncomputable def L50_0:Code:=at_ Try.f50 [1,0,1,4,5]
def S50_0 (x1:aG) (cL:Int):St:=⟨mkT 19 [(0,(.sl 2 (List.map aB x1))),(1,(.fn 75 [])),(7,(.int .i64 (nI x1.length))),(8,(.int .i64 cL))],[]⟩
def aH6:St:=⟨mkT 19 [],[]⟩
def O50_0 (x1:aG) (y:(Sum (Unit) (Int))):GX:=match y with
 | .inl y=>.st (.exit 0) (aH6)
 | .inr y=>.fin (.int .i64 y) []
theorem lQ (x1:aG) (y:(Sum (Unit) (Int))):∀(k:Nat) (cL:Int),cJ k x1 cL=some y→LT Try.prog X50 L50_0 (S50_0 x1 cL) (O50_0 x1 y)
 | 0,cL,h=>by cases h
 | k+1,cL,h=>by
  rw[cJ] at h
  by_cases cL0:ltI cL (nI x1.length)=true
  · rw[if_pos cL0] at h
    by_cases cL1:inI cL x1.length=true
    · rw[if_pos cL1] at h
      obtain⟨kJ,eL2,h⟩:=bsm h
      let u1:List Ans:=[dt,.n x1.length,.row [(.int .u8 kJ.1),(.int .i64 kJ.2)],.call ⟨true,[]⟩ (.bool (hU kJ.1 kJ.2)) []]
      let w2:List Prf:=[⟨(aB8 kJ.1 kJ.2)⟩,⟨(cE (e:=aB) eL2 2 0 2 (by decide))⟩,⟨cL1⟩,⟨(aU aB x1)⟩,⟨cL0⟩]
      by_cases cL3:(hU kJ.1 kJ.2)=true
      · rw[if_pos cL3] at h
        obtain rfl:=osi h
        show LT _ _ _ _ (.fin (.int .i64 cL) [])
        exact LT.done aE (hs:=⟨[],[],false,[],[]⟩) (es:=none) (u1++[dt]) ([⟨cL3⟩]++w2) (by kernel_rfl) (fun s h=>by cases h)
      rw[if_neg cL3] at h;replace cL3:=eqf cL3
      exact LT.next aE (hs:=⟨[(0,[]),(1,[]),(7,[]),(8,[])],[],false,[],[]⟩) (es:=none) (u1++[df]) ([⟨cL3⟩]++w2) (by kernel_rfl) (lQ x1 y k (aH .i64 cL 1) h)
    rw[if_neg cL1] at h;replace cL1:=eqf cL1
    cases h
  rw[if_neg cL0] at h;replace cL0:=eqf cL0
  obtain rfl:=osi h
  show LT _ _ _ _ (.st (.exit 0) (aH6))
  exact LT.done aE (hs:=⟨[],[],false,[],[]⟩) (es:=(some ⟨[],[],false,[],[]⟩)) [df] [⟨cL0⟩] (by kernel_rfl) (fun s h=>by cases h)
theorem zM (k:Nat) (x1:aG) (r:Int) (h:jH k x1=some r):Tri Try.prog 50 [(.sl 2 (List.map aB x1)),(.fn 75 [])] [] (.int .i64 r) []:=by
 unfold jH at h
 let u3:List Ans:=[.n x1.length,.norm 2 ⟨[(0,[]),(1,[]),(7,[]),(8,[])],[],false,[],[]⟩]
 obtain⟨x2,e0,h⟩:=bsm h
 cases x2 with
 | inl x3 =>
  simp only[Sum.elim_inl] at h
  obtain rfl:=osi h
  exact Tri.of (x:=X50) aE aEB (u3++[.out (.st .normal (aH6))]) [⟨(LT.block (lQ x1 _ k 0 e0))⟩,⟨(aU aB x1)⟩] (by kernel_rfl)
 | inr x3 =>
  simp only[Sum.elim_inr] at h
  obtain rfl:=osi h
  exact Tri.of (x:=X50) aE aEB (u3++[.out (.fin (.int .i64 x3) [])]) [⟨(LT.blockFin (id:=0) (lQ x1 _ k 0 e0))⟩,⟨(aU aB x1)⟩] (by kernel_rfl)
end Go.Ws

namespace Go.Ws
open Go.Proofs
set_option linter.unusedSimpArgs false
set_option linter.unusedVariables false
set_option maxRecDepth 1000000
set_option maxHeartbeats 4000000
noncomputable def X42:Ctx:=⟨Try.f42,[],true⟩
theorem wE (k:Nat) (x1:aG) (r:Bool) (h:hX k x1=some r):Tri Try.prog 42 [(.sl 2 (List.map aB x1)),(.fn 75 [])] [] (.bool r) []:=by
 unfold hX at h
 obtain⟨x2,e0,h⟩:=bsm h
 obtain rfl:=osi h
 exact Tri.of (x:=X42) aE aM8 [.call ⟨true,[]⟩ (.int .i64 x2) []] [⟨(zM k x1 _ e0)⟩] (by kernel_rfl)
end Go.Ws

namespace Go.Ws
open Go.Proofs
set_option linter.unusedSimpArgs false
set_option linter.unusedVariables false
set_option maxRecDepth 1000000
set_option maxHeartbeats 4000000
noncomputable def X74:Ctx:=⟨Try.f74,[],true⟩
theorem qW (k:Nat) (x1:Int) (x2:aG) (x3:Bool) (x4:Int) (r:Bool) (h:lL k x1 x2 x3 x4=some r):Tri Try.prog 74 [(.agg [(.int .i64 x1),(.sl 2 (List.map aB x2)),(.bool x3),(.int .i64 x4)])] [] (.bool r) []:=by
 unfold lL at h
 by_cases c0:ltI x1 0=true
 · rw[if_pos c0] at h
   obtain rfl:=osi h
   exact Tri.of (x:=X74) aE oQ [dt,dt,dt,dt,dt,dt,dt,dt,dt,dt,dt,dt,dt,dt] [⟨rT⟩,⟨rT⟩,⟨rT⟩,⟨rT⟩,⟨rT⟩,⟨rT⟩,⟨rT⟩,⟨rT⟩,⟨rT⟩,⟨rT⟩,⟨c0⟩,⟨c0⟩,⟨c0⟩,⟨c0⟩] (by kernel_rfl)
 rw[if_neg c0] at h;replace c0:=eqf c0
 by_cases c1:ltI 3 x1=true
 · rw[if_pos c1] at h
   obtain rfl:=osi h
   exact Tri.of (x:=X74) aE oQ [df,df,df,df,dt,dt,dt,dt,dt,dt,dt,dt,dt,dt] [⟨rT⟩,⟨rT⟩,⟨rT⟩,⟨rT⟩,⟨rT⟩,⟨c1⟩,⟨c1⟩,⟨c1⟩,⟨c1⟩,⟨c1⟩,⟨c0⟩,⟨c0⟩,⟨c0⟩,⟨c0⟩] (by kernel_rfl)
 rw[if_neg c1] at h;replace c1:=eqf c1
 let u3:List Ans:=[df,df,df,df,df,df,df,.n x2.length,df,df]
 let w4:List Prf:=[⟨c1⟩,⟨c1⟩,⟨(aU aB x2)⟩,⟨c1⟩,⟨c1⟩,⟨c1⟩,⟨c0⟩,⟨c0⟩,⟨c0⟩,⟨c0⟩]
 by_cases c2:ltI 50 (nI x2.length)=true
 · rw[if_pos c2] at h
   obtain rfl:=osi h
   exact Tri.of (x:=X74) aE oQ (u3++[dt,dt,dt,dt,dt]) ([⟨rT⟩,⟨c2⟩,⟨c2⟩,⟨c2⟩,⟨c2⟩]++w4) (by kernel_rfl)
 rw[if_neg c2] at h;replace c2:=eqf c2
 obtain⟨x5,e3,h⟩:=bsm h
 let u5:List Ans:=u3++[df,df,df,.call ⟨true,[]⟩ (.bool x5) [],df]
 let w6:List Prf:=[⟨c2⟩,⟨(wE k x2 _ e3)⟩,⟨c2⟩,⟨c2⟩,⟨c2⟩]++w4
 by_cases c4:x5=true
 · rw[if_pos c4] at h
   obtain rfl:=osi h
   exact Tri.of (x:=X74) aE oQ (u5++[dt]) ([⟨c4⟩]++w6) (by kernel_rfl)
 rw[if_neg c4] at h;replace c4:=eqf c4
 by_cases c5:eqI x4 1=true
 · rw[if_pos c5] at h
   by_cases c6:eqI x1 3=true
   · rw[if_pos c6] at h
     obtain rfl:=osi h
     exact Tri.of (x:=X74) aE oQ (u5++[df,dt,dt,dt,dt,dt]) ([⟨c6⟩,⟨c5⟩,⟨c5⟩,⟨c5⟩,⟨c5⟩,⟨c4⟩]++w6) (by kernel_rfl)
   rw[if_neg c6] at h;replace c6:=eqf c6
   let w12:List Prf:=[⟨c6⟩,⟨c5⟩,⟨c5⟩,⟨c5⟩,⟨c5⟩,⟨c4⟩]++w6
   by_cases c7:eqI x4 0=true
   · rw[if_pos c7] at h
     let u13:List Ans:=u5++[df,dt,dt,dt,dt,df,dt,dt,dt,dt]
     by_cases c8:x3=true
     · rw[if_pos c8] at h
       obtain rfl:=osi h
       exact Tri.of (x:=X74) aE oQ (u13++[df,df,df,dt,df,dt]) ([⟨c7⟩,⟨(nF c8)⟩,⟨c7⟩,⟨(nF c8)⟩,⟨(nF c8)⟩,⟨(nF c8)⟩,⟨c7⟩,⟨c7⟩,⟨c7⟩,⟨c7⟩]++w12) (by kernel_rfl)
     rw[if_neg c8] at h;replace c8:=eqf c8
     obtain rfl:=osi h
     exact Tri.of (x:=X74) aE oQ (u13++[dt,dt,dt,dt,dt,dt]) ([⟨c7⟩,⟨(nT c8)⟩,⟨c7⟩,⟨(nT c8)⟩,⟨(nT c8)⟩,⟨(nT c8)⟩,⟨c7⟩,⟨c7⟩,⟨c7⟩,⟨c7⟩]++w12) (by kernel_rfl)
   rw[if_neg c7] at h;replace c7:=eqf c7
   obtain rfl:=osi h
   exact Tri.of (x:=X74) aE oQ (u5++[df,dt,dt,dt,dt,df,df,df,df,df,df,df]) ([⟨c7⟩,⟨c7⟩,⟨c7⟩,⟨c7⟩,⟨c7⟩,⟨c7⟩]++w12) (by kernel_rfl)
 rw[if_neg c5] at h;replace c5:=eqf c5
 by_cases c6:eqI x1 3=true
 · rw[if_pos c6] at h
   obtain rfl:=osi h
   exact Tri.of (x:=X74) aE oQ (u5++[df,df,df,df,df,dt]) ([⟨c6⟩,⟨c5⟩,⟨c5⟩,⟨c5⟩,⟨c5⟩,⟨c4⟩]++w6) (by kernel_rfl)
 rw[if_neg c6] at h;replace c6:=eqf c6
 let w18:List Prf:=[⟨c6⟩,⟨c5⟩,⟨c5⟩,⟨c5⟩,⟨c5⟩,⟨c4⟩]++w6
 by_cases c7:eqI x4 0=true
 · rw[if_pos c7] at h
   let u19:List Ans:=u5++[df,df,df,df,df,df,dt,dt,dt,dt]
   by_cases c8:x3=true
   · rw[if_pos c8] at h
     obtain rfl:=osi h
     exact Tri.of (x:=X74) aE oQ (u19++[df,df,df,dt,df,dt]) ([⟨c7⟩,⟨(nF c8)⟩,⟨c7⟩,⟨(nF c8)⟩,⟨(nF c8)⟩,⟨(nF c8)⟩,⟨c7⟩,⟨c7⟩,⟨c7⟩,⟨c7⟩]++w18) (by kernel_rfl)
   rw[if_neg c8] at h;replace c8:=eqf c8
   obtain rfl:=osi h
   exact Tri.of (x:=X74) aE oQ (u19++[dt,dt,dt,dt,dt,dt]) ([⟨c7⟩,⟨(nT c8)⟩,⟨c7⟩,⟨(nT c8)⟩,⟨(nT c8)⟩,⟨(nT c8)⟩,⟨c7⟩,⟨c7⟩,⟨c7⟩,⟨c7⟩]++w18) (by kernel_rfl)
 rw[if_neg c7] at h;replace c7:=eqf c7
 obtain rfl:=osi h
 exact Tri.of (x:=X74) aE oQ (u5++[df,df,df,df,df,df,df,df,df,df,df,df]) ([⟨c7⟩,⟨c7⟩,⟨c7⟩,⟨c7⟩,⟨c7⟩,⟨c7⟩]++w18) (by kernel_rfl)
end Go.Ws

namespace Go.Ws
open Go.Proofs
set_option linter.unusedSimpArgs false
set_option linter.unusedVariables false
set_option maxRecDepth 1000000
set_option maxHeartbeats 4000000
noncomputable def X57:Ctx:=⟨Try.f57,[],true⟩
theorem aJS (k:Nat) (x1:Int) (x2:aG) (x3:Bool) (x4:Int) (x5:Int) (x6:Int) (r:Int × aG × Bool × Int × Int) (h:vR k x1 x2 x3 x4 x5 x6=some r):Tri Try.prog 57 [(.agg [(.int .i64 x1),(.sl 2 (List.map aB x2)),(.bool x3),(.int .i64 x4)]),(.agg [(.int .u8 x5),(.int .i64 x6)])] [] (.tup [(.agg [(.int .i64 r.1),(.sl 2 (List.map aB r.2.1)),(.bool r.2.2.1),(.int .i64 r.2.2.2.1)]),(.int .i64 r.2.2.2.2)]) []:=by
 unfold vR at h
 obtain⟨x7,e0,h⟩:=bsm h
 obtain⟨x8,e1,h⟩:=bsm h
 let u1:List Ans:=[.call ⟨true,[]⟩ (.agg [(.int .i64 x1),(.ref 2 0 0 0 x2.length .virt),(.bool x3),(.int .i64 x4)]) [(.arr 2 (List.map aB x2) 0 0 false)],.call ⟨true,[]⟩ (.bool x8) [],.rows (List.map aB x2)]
 let w2:List Prf:=[⟨(qW k x1 x2 x3 x4 _ e1)⟩,⟨(cH aB (l:=x2) (n:=x2.length) rfl)⟩,⟨(eX aB (Nat.le_refl x2.length):0+x2.length≤(List.map aB x2).length)⟩,⟨(aC6 k x1 x2 x3 x4 _ e0)⟩]
 by_cases c2:x8=true
 · rw[if_pos c2] at h
   let u3:List Ans:=u1++[df,df,.call ⟨true,[]⟩ (.bool (hU x5 x6)) [],df]
   let w4:List Prf:=[⟨(nF c2)⟩,⟨(aB8 x5 x6)⟩,⟨(nF c2)⟩,⟨(nF c2)⟩]++w2
   by_cases c3:(hU x5 x6)=true
   · rw[if_pos c3] at h
     obtain rfl:=osi h
     exact Tri.of (x:=X57) aE aAS (u3++[dt,.rows (List.map aB x2)]) ([⟨(cH aB (l:=x2) (n:=x2.length) rfl)⟩,⟨(eX aB (Nat.le_refl x2.length):0+x2.length≤(List.map aB x2).length)⟩,⟨c3⟩]++w4) (by kernel_rfl)
   rw[if_neg c3] at h;replace c3:=eqf c3
   by_cases c4:eqI x1 0=true
   · rw[if_pos c4] at h
     by_cases c5:ltI (nI x2.length) 50=true
     · rw[if_pos c5] at h
       by_cases c6:dF (((x2++[(x5,x6)]).length)*16)=true
       · rw[if_pos c6] at h
         obtain rfl:=osi h
         exact Tri.of (x:=X57) aE aAS (u3++[df,df,df,.rows (List.map aB [(x5,x6)]),.n ((x2++[(x5,x6)]).length),.n x2.length,dt,.rows (List.map aB (x2++[(x5,x6)])),.rows (List.map aB (x2++[(x5,x6)]))]) ([⟨(cH aB (l:=(x2++[(x5,x6)])) (n:=((x2++[(x5,x6)]).length)) rfl)⟩,⟨(eX aB (Nat.le_refl ((x2++[(x5,x6)]).length)):0+(x2++[(x5,x6)]).length≤(List.map aB (x2++[(x5,x6)])).length)⟩,⟨(aEN aB x2 [(x5,x6)])⟩,⟨(aBV x2.length)⟩,⟨(aU aB x2)⟩,⟨c6⟩,⟨(by simp only[wl,List.length_map,List.map_nil,List.map_cons]<;>omega:x2.length+(List.map aB [(x5,x6)]).length=(x2++[(x5,x6)]).length)⟩,⟨(cH aB (l:=[(x5,x6)]) (n:=1) rfl)⟩,⟨(eX aB (Nat.le_refl 1):0+1≤(List.map aB [(x5,x6)]).length)⟩,⟨(nF c5)⟩,⟨(nF c4)⟩,⟨c3⟩]++w4) (by kernel_rfl)
       rw[if_neg c6] at h;replace c6:=eqf c6
       cases h
     rw[if_neg c5] at h;replace c5:=eqf c5
     obtain rfl:=osi h
     exact Tri.of (x:=X57) aE aAS (u3++[df,df,dt,.rows (List.map aB x2)]) ([⟨(cH aB (l:=x2) (n:=x2.length) rfl)⟩,⟨(eX aB (Nat.le_refl x2.length):0+x2.length≤(List.map aB x2).length)⟩,⟨(nT c5)⟩,⟨(nF c4)⟩,⟨c3⟩]++w4) (by kernel_rfl)
   rw[if_neg c4] at h;replace c4:=eqf c4
   obtain rfl:=osi h
   exact Tri.of (x:=X57) aE aAS (u3++[df,dt,.rows (List.map aB x2)]) ([⟨(cH aB (l:=x2) (n:=x2.length) rfl)⟩,⟨(eX aB (Nat.le_refl x2.length):0+x2.length≤(List.map aB x2).length)⟩,⟨(nT c4)⟩,⟨c3⟩]++w4) (by kernel_rfl)
 rw[if_neg c2] at h;replace c2:=eqf c2
 obtain rfl:=osi h
 exact Tri.of (x:=X57) aE aAS (u1++[dt,dt,dt,dt,.rows (List.map aB x2)]) ([⟨(cH aB (l:=x2) (n:=x2.length) rfl)⟩,⟨(eX aB (Nat.le_refl x2.length):0+x2.length≤(List.map aB x2).length)⟩,⟨rT⟩,⟨(nT c2)⟩,⟨(nT c2)⟩,⟨(nT c2)⟩]++w2) (by kernel_rfl)
end Go.Ws

namespace Go.Ws
open Go.Proofs
set_option linter.unusedSimpArgs false
set_option linter.unusedVariables false
set_option maxRecDepth 1000000
set_option maxHeartbeats 4000000
noncomputable def X37:Ctx:=⟨Try.f37,[],true⟩
noncomputable def L37_0:Code:=at_ Try.f37 [1,0,1,4,5]
def S37_0 (x1:aG) (x2:Int) (cZ:Int):St:=⟨mkT 20 [(1,(.int .u8 x2)),(7,(.sl 2 (List.map aB x1))),(8,(.int .i64 (nI x1.length))),(9,(.int .i64 cZ))],[]⟩
def aI5:St:=⟨mkT 20 [],[]⟩
def O37_0 (x1:aG) (x2:Int) (y:(Sum (Unit) (Int))):GX:=match y with
 | .inl y=>.st (.exit 0) (aI5)
 | .inr y=>.fin (.int .i64 y) []
theorem qM (x1:aG) (x2:Int) (y:(Sum (Unit) (Int))):∀(k:Nat) (cZ:Int),fU k x1 x2 cZ=some y→LT Try.prog X37 L37_0 (S37_0 x1 x2 cZ) (O37_0 x1 x2 y)
 | 0,cZ,h=>by cases h
 | k+1,cZ,h=>by
  rw[fU] at h
  by_cases cL0:ltI cZ (nI x1.length)=true
  · rw[if_pos cL0] at h
    by_cases cL1:inI cZ x1.length=true
    · rw[if_pos cL1] at h
      obtain⟨oI,eL2,h⟩:=bsm h
      let u1:List Ans:=[dt,.n x1.length,.row [(.int .u8 oI.1),(.int .i64 oI.2)]]
      let w2:List Prf:=[⟨(cE (e:=aB) eL2 2 0 2 (by decide))⟩,⟨cL1⟩,⟨(aU aB x1)⟩,⟨cL0⟩]
      by_cases cL3:eqI oI.1 x2=true
      · rw[if_pos cL3] at h
        obtain rfl:=osi h
        show LT _ _ _ _ (.fin (.int .i64 oI.2) [])
        exact LT.done aE (hs:=⟨[],[],false,[],[]⟩) (es:=none) (u1++[dt]) ([⟨cL3⟩]++w2) (by kernel_rfl) (fun s h=>by cases h)
      rw[if_neg cL3] at h;replace cL3:=eqf cL3
      exact LT.next aE (hs:=⟨[(1,[]),(7,[]),(8,[]),(9,[])],[],false,[],[]⟩) (es:=none) (u1++[df]) ([⟨cL3⟩]++w2) (by kernel_rfl) (qM x1 x2 y k (aH .i64 cZ 1) h)
    rw[if_neg cL1] at h;replace cL1:=eqf cL1
    cases h
  rw[if_neg cL0] at h;replace cL0:=eqf cL0
  obtain rfl:=osi h
  show LT _ _ _ _ (.st (.exit 0) (aI5))
  exact LT.done aE (hs:=⟨[],[],false,[],[]⟩) (es:=(some ⟨[],[],false,[],[]⟩)) [df] [⟨cL0⟩] (by kernel_rfl) (fun s h=>by cases h)
theorem zU (k:Nat) (x1:aG) (x2:Int) (r:Int) (h:oS k x1 x2=some r):Tri Try.prog 37 [(.sl 2 (List.map aB x1)),(.int .u8 x2)] [] (.int .i64 r) []:=by
 unfold oS at h
 let u3:List Ans:=[.n x1.length,.norm 2 ⟨[(1,[]),(7,[]),(8,[]),(9,[])],[],false,[],[]⟩]
 obtain⟨x3,e0,h⟩:=bsm h
 cases x3 with
 | inl x4 =>
  simp only[Sum.elim_inl] at h
  obtain rfl:=osi h
  exact Tri.of (x:=X37) aE aNP (u3++[.out (.st .normal (aI5))]) [⟨(LT.block (qM x1 x2 _ k 0 e0))⟩,⟨(aU aB x1)⟩] (by kernel_rfl)
 | inr x4 =>
  simp only[Sum.elim_inr] at h
  obtain rfl:=osi h
  exact Tri.of (x:=X37) aE aNP (u3++[.out (.fin (.int .i64 x4) [])]) [⟨(LT.blockFin (id:=0) (qM x1 x2 _ k 0 e0))⟩,⟨(aU aB x1)⟩] (by kernel_rfl)
end Go.Ws

namespace Go.Ws
open Go.Proofs
set_option linter.unusedSimpArgs false
set_option linter.unusedVariables false
set_option maxRecDepth 1000000
set_option maxHeartbeats 4000000
noncomputable def X73_1:Ctx:=⟨Try.f73,[],true⟩
theorem oT (k:Nat) (x1:Int) (x2:aG) (x3:Bool) (x4:Int) (r:Int × aG × Bool × Int) (h:iA k x1 x2 x3 x4=some r):Tri Try.prog 73 [(.agg [(.int .i64 x1),(.sl 2 (List.map aB x2)),(.bool x3),(.int .i64 x4)])] [] (.agg [(.int .i64 r.1),(.sl 2 (List.map aB r.2.1)),(.bool r.2.2.1),(.int .i64 r.2.2.2)]) []:=by
 unfold iA at h
 obtain⟨x5,e0,h⟩:=bsm h
 obtain rfl:=osi h
 exact Tri.of (x:=X73_1) aE aNW [.call ⟨true,[]⟩ (.ref 2 0 0 0 x2.length .virt) [(.arr 2 (List.map aB x2) 0 0 false)],.rows (List.map aB x2)] [⟨(cH aB (l:=x2) (n:=x2.length) rfl)⟩,⟨(eX aB (Nat.le_refl x2.length):0+x2.length≤(List.map aB x2).length)⟩,⟨(gM k x2 _ e0)⟩] (by kernel_rfl)
end Go.Ws

namespace Go.Ws
open Go.Proofs
set_option linter.unusedSimpArgs false
set_option linter.unusedVariables false
set_option maxRecDepth 1000000
set_option maxHeartbeats 4000000
noncomputable def X58:Ctx:=⟨Try.f58,[],true⟩
theorem aI3 (k:Nat) (x1:Int) (x2:aG) (x3:Bool) (x4:Int) (x5:Bool) (r:Int × aG × Bool × Int × Int) (h:sM k x1 x2 x3 x4 x5=some r):Tri Try.prog 58 [(.agg [(.int .i64 x1),(.sl 2 (List.map aB x2)),(.bool x3),(.int .i64 x4)]),(.bool x5)] [] (.tup [(.agg [(.int .i64 r.1),(.sl 2 (List.map aB r.2.1)),(.bool r.2.2.1),(.int .i64 r.2.2.2.1)]),(.int .i64 r.2.2.2.2)]) []:=by
 unfold sM at h
 obtain⟨x6,e0,h⟩:=bsm h
 obtain⟨x7,e1,h⟩:=bsm h
 let u1:List Ans:=[.call ⟨true,[]⟩ (.agg [(.int .i64 x6.1),(.sl 2 (List.map aB x6.2.1)),(.bool x6.2.2.1),(.int .i64 x6.2.2.2)]) [],.call ⟨true,[]⟩ (.bool x7) []]
 let w2:List Prf:=[⟨(qW k x6.1 x6.2.1 x6.2.2.1 x6.2.2.2 _ e1)⟩,⟨(oT k x1 x2 x3 x4 _ e0)⟩]
 by_cases c2:x7=true
 · rw[if_pos c2] at h
   by_cases c3:eqI x6.1 0=true
   · rw[if_pos c3] at h
     by_cases c4:x5=true
     · rw[if_pos c4] at h
       obtain rfl:=osi h
       exact Tri.of (x:=X58) aE aEF (u1++[df,df,dt]) ([⟨c4⟩,⟨(nF c3)⟩,⟨(nF c2)⟩]++w2) (by kernel_rfl)
     rw[if_neg c4] at h;replace c4:=eqf c4
     obtain rfl:=osi h
     exact Tri.of (x:=X58) aE aEF (u1++[df,df,df]) ([⟨c4⟩,⟨(nF c3)⟩,⟨(nF c2)⟩]++w2) (by kernel_rfl)
   rw[if_neg c3] at h;replace c3:=eqf c3
   obtain rfl:=osi h
   exact Tri.of (x:=X58) aE aEF (u1++[df,dt]) ([⟨(nT c3)⟩,⟨(nF c2)⟩]++w2) (by kernel_rfl)
 rw[if_neg c2] at h;replace c2:=eqf c2
 obtain rfl:=osi h
 exact Tri.of (x:=X58) aE aEF (u1++[dt]) ([⟨(nT c2)⟩]++w2) (by kernel_rfl)
end Go.Ws

namespace Go.Ws
open Go.Proofs
set_option linter.unusedSimpArgs false
set_option linter.unusedVariables false
set_option maxRecDepth 1000000
set_option maxHeartbeats 4000000
noncomputable def X40_1001:Ctx:=⟨Try.f40,[],false⟩
theorem vN (k:Nat) (x1:aG) (r:Unit) (h:gQ k x1=some r):Tri Try.prog 40 [(.inl 2 (List.map aB x1))] [] (.ref 2 0 0 0 x1.length .virt) [(.arr 2 (List.map aB x1) 0 0 false)]:=by
 unfold gQ at h
 by_cases c0:dF (x1.length*16)=true
 · rw[if_pos c0] at h
   obtain rfl:=osi h
   exact Tri.of (x:=X40_1001) aE aNQ [df,.n x1.length,.norm 0 ⟨[(2,[])],[⟨.tmp 2,[],some 2⟩],false,[],[]⟩,.n x1.length,.rows (List.map aB x1)] [⟨(eZ aB (l:=x1) (n:=x1.length) rfl)⟩,⟨(rfl:x1.length=x1.length)⟩,⟨(zle x1.length)⟩,⟨c0⟩,⟨(aU aB x1)⟩,⟨rF⟩] (by kernel_rfl)
 rw[if_neg c0] at h;replace c0:=eqf c0
 cases h
end Go.Ws

namespace Go.Ws
open Go.Proofs
set_option linter.unusedSimpArgs false
set_option linter.unusedVariables false
set_option maxRecDepth 1000000
set_option maxHeartbeats 4000000
noncomputable def X40_1002:Ctx:=⟨Try.f40,[],false⟩
theorem uQ:Tri Try.prog 40 [.nils] [] (.ref 2 0 0 0 0 .virt) [(.arr 2 (List.map aB []) 0 0 false)]:=by
 obtain⟨r,h⟩:∃r,mX=r:=⟨_,rfl⟩
 try rw[h]
 unfold mX at h
 obtain rfl:=h
 exact Tri.of (x:=X40_1002) aE aNQ [dt,.norm 0 ⟨[(2,[])],[⟨.tmp 2,[],some 2⟩],false,[],[]⟩,.n 0,.rows (List.map aB [])] [⟨(eZ aB (l:=[]) (n:=0) rfl)⟩,⟨(rfl:0=0)⟩,⟨(zle 0)⟩,⟨rT⟩] (by kernel_rfl)
end Go.Ws

namespace Go.Ws
open Go.Proofs
set_option linter.unusedSimpArgs false
set_option linter.unusedVariables false
set_option maxRecDepth 1000000
set_option maxHeartbeats 4000000
theorem z6 (k:Nat) (x1:aG) (r:Unit) (h:l7 k x1=some r):Tri Try.prog 40 [(.sl 2 (List.map aB x1))] [] (.ref 2 0 0 0 x1.length .virt) [(.arr 2 (List.map aB x1) 0 0 false)]:=by
 refine Tri.slOf (vN k x1 r h) fun h0=>?_
 have hx:x1=[]:=by simpa using h0
 subst hx
 exact uQ
end Go.Ws

namespace Go.Ws
open Go.Proofs
set_option linter.unusedSimpArgs false
set_option linter.unusedVariables false
set_option maxRecDepth 1000000
set_option maxHeartbeats 4000000
noncomputable def X41:Ctx:=⟨Try.f41,[],true⟩
noncomputable def L41_0:Code:=at_ Try.f41 [1,0,1,4,5]
def S41_0 (x1:aG) (bL:Int):St:=⟨mkT 36 [(0,(.sl 2 (List.map aB x1))),(5,(.sl 2 (List.map aB x1))),(6,(.int .i64 (nI x1.length))),(7,(.int .i64 bL))],[]⟩
def aJP:St:=⟨mkT 36 [],[]⟩
def O41_0 (x1:aG) (y:zO):GX:=match y with
 | .inl y=>.st (.exit 0) (aJP)
 | .inr y=>.fin (.bool y) []
theorem lU (x1:aG) (y:zO):∀(k:Nat) (bL:Int),dO k x1 bL=some y→LT Try.prog X41 L41_0 (S41_0 x1 bL) (O41_0 x1 y)
 | 0,bL,h=>by cases h
 | k+1,bL,h=>by
  rw[dO] at h
  by_cases cL0:ltI bL (nI x1.length)=true
  · rw[if_pos cL0] at h
    by_cases cL1:inI bL x1.length=true
    · rw[if_pos cL1] at h
      obtain⟨lI,eL2,h⟩:=bsm h
      let u1:List Ans:=[dt,.n x1.length,.row [(.int .u8 lI.1),(.int .i64 lI.2)]]
      let w2:List Prf:=[⟨(cE (e:=aB) eL2 2 0 2 (by decide))⟩,⟨cL1⟩,⟨(aU aB x1)⟩,⟨cL0⟩]
      by_cases cL3:ltI lI.1 64=true
      · rw[if_pos cL3] at h
        let w4:List Prf:=[⟨(nF cL3)⟩,⟨(nF cL3)⟩,⟨(nF cL3)⟩,⟨(nF cL3)⟩]++w2
        by_cases cL4:eqI lI.2 0=true
        · rw[if_pos cL4] at h
          obtain rfl:=osi h
          show LT _ _ _ _ (.fin (.bool false) [])
          exact LT.done aE (hs:=⟨[],[],false,[],[]⟩) (es:=none) (u1++[df,df,df,df,dt,dt,dt,dt,dt,dt]) ([⟨rT⟩,⟨cL4⟩,⟨cL4⟩,⟨cL4⟩,⟨cL4⟩,⟨cL4⟩]++w4) (by kernel_rfl) (fun s h=>by cases h)
        rw[if_neg cL4] at h;replace cL4:=eqf cL4
        by_cases cL5:ltI 0 bL=true
        · rw[if_pos cL5] at h
          by_cases cL6:inI (rH .i64 bL 1) x1.length=true
          · rw[if_pos cL6] at h
            obtain⟨vV,eL7,h⟩:=bsm h
            let u7:List Ans:=u1++[df,df,df,df,df,df,df,dt,dt,dt,dt,.n x1.length,dt,dt,.row [(.int .u8 vV.1)],dt,dt,dt,df,dt,df]
            let w8:List Prf:=[⟨cL4⟩,⟨cL5⟩,⟨cL4⟩,⟨cL5⟩,⟨cL5⟩,⟨cL5⟩,⟨(cE (e:=aB) eL7 2 0 1 (by decide))⟩,⟨cL5⟩,⟨cL5⟩,⟨cL6⟩,⟨(aU aB x1)⟩,⟨cL5⟩,⟨cL5⟩,⟨cL5⟩,⟨cL5⟩,⟨cL4⟩,⟨cL4⟩,⟨cL4⟩]++w4
            by_cases cL8:ltI vV.1 lI.1=true
            · rw[if_pos cL8] at h
              exact LT.next aE (hs:=⟨[(0,[]),(5,[]),(6,[]),(7,[])],[],false,[],[]⟩) (es:=none) (u7++[df]) ([⟨(nF cL8)⟩]++w8) (by kernel_rfl) (lU x1 y k (aH .i64 bL 1) h)
            rw[if_neg cL8] at h;replace cL8:=eqf cL8
            obtain rfl:=osi h
            show LT _ _ _ _ (.fin (.bool false) [])
            exact LT.done aE (hs:=⟨[],[],false,[],[]⟩) (es:=none) (u7++[dt]) ([⟨(nT cL8)⟩]++w8) (by kernel_rfl) (fun s h=>by cases h)
          rw[if_neg cL6] at h;replace cL6:=eqf cL6
          cases h
        rw[if_neg cL5] at h;replace cL5:=eqf cL5
        exact LT.next aE (hs:=⟨[(0,[]),(5,[]),(6,[]),(7,[])],[],false,[],[]⟩) (es:=none) (u1++[df,df,df,df,df,df,df,df,df,df,df,df,df,df,df,df,df,df,df,df]) ([⟨rF⟩,⟨cL4⟩,⟨cL5⟩,⟨cL4⟩,⟨cL5⟩,⟨cL5⟩,⟨cL5⟩,⟨cL5⟩,⟨cL5⟩,⟨cL5⟩,⟨cL5⟩,⟨cL5⟩,⟨cL5⟩,⟨cL4⟩,⟨cL4⟩,⟨cL4⟩]++w4) (by kernel_rfl) (lU x1 y k (aH .i64 bL 1) h)
      rw[if_neg cL3] at h;replace cL3:=eqf cL3
      obtain rfl:=osi h
      show LT _ _ _ _ (.fin (.bool false) [])
      exact LT.done aE (hs:=⟨[],[],false,[],[]⟩) (es:=none) (u1++[dt,dt,dt,dt,dt,dt,dt,dt,dt,dt]) ([⟨rT⟩,⟨rT⟩,⟨rT⟩,⟨rT⟩,⟨rT⟩,⟨rT⟩,⟨(nT cL3)⟩,⟨(nT cL3)⟩,⟨(nT cL3)⟩,⟨(nT cL3)⟩]++w2) (by kernel_rfl) (fun s h=>by cases h)
    rw[if_neg cL1] at h;replace cL1:=eqf cL1
    cases h
  rw[if_neg cL0] at h;replace cL0:=eqf cL0
  obtain rfl:=osi h
  show LT _ _ _ _ (.st (.exit 0) (aJP))
  exact LT.done aE (hs:=⟨[],[],false,[],[]⟩) (es:=(some ⟨[],[],false,[],[]⟩)) [df] [⟨cL0⟩] (by kernel_rfl) (fun s h=>by cases h)
theorem aD3 (k:Nat) (x1:aG) (r:Bool) (h:nN k x1=some r):Tri Try.prog 41 [(.sl 2 (List.map aB x1))] [] (.bool r) []:=by
 unfold nN at h
 let u9:List Ans:=[.n x1.length,.norm 2 ⟨[(0,[]),(5,[]),(6,[]),(7,[])],[],false,[],[]⟩]
 obtain⟨x2,e0,h⟩:=bsm h
 cases x2 with
 | inl x3 =>
  simp only[Sum.elim_inl] at h
  obtain rfl:=osi h
  exact Tri.of (x:=X41) aE aOF (u9++[.out (.st .normal (aJP))]) [⟨(LT.block (lU x1 _ k 0 e0))⟩,⟨(aU aB x1)⟩] (by kernel_rfl)
 | inr x3 =>
  simp only[Sum.elim_inr] at h
  obtain rfl:=osi h
  exact Tri.of (x:=X41) aE aOF (u9++[.out (.fin (.bool x3) [])]) [⟨(LT.blockFin (id:=0) (lU x1 _ k 0 e0))⟩,⟨(aU aB x1)⟩] (by kernel_rfl)
end Go.Ws

namespace Go.Ws
open Go.Proofs
set_option linter.unusedSimpArgs false
set_option linter.unusedVariables false
set_option maxRecDepth 1000000
set_option maxHeartbeats 4000000
noncomputable def X39:Ctx:=⟨Try.f39,[],false⟩
theorem aDY (x1:Int) (x2:Int):Tri Try.prog 39 [(.agg [(.int .u8 x1),(.int .i64 x2)])] [] (.bool (!ltI x1 64)) []:=by
 obtain⟨r,h⟩:∃r,vX x1 x2=r:=⟨_,rfl⟩
 try rw[h]
 unfold vX at h
 obtain rfl:=h
 exact Tri.of (x:=X39) aE facts39 [.norm 0 ⟨[(2,[])],[],false,[],[]⟩] [] (by kernel_rfl)
end Go.Ws

namespace Go.Ws
open Go.Proofs
set_option linter.unusedSimpArgs false
set_option linter.unusedVariables false
set_option maxRecDepth 1000000
set_option maxHeartbeats 4000000
noncomputable def X50_1:Ctx:=⟨Try.f50,[],true⟩
noncomputable def L50_1_0:Code:=at_ Try.f50 [1,0,1,4,5]
def S50_1_0 (x1:aG) (bX:Int):St:=⟨mkT 19 [(0,(.sl 2 (List.map aB x1))),(1,(.fn 39 [])),(7,(.int .i64 (nI x1.length))),(8,(.int .i64 bX))],[]⟩
def aCM:St:=⟨mkT 19 [],[]⟩
def O50_1_0 (x1:aG) (y:(Sum (Unit) (Int))):GX:=match y with
 | .inl y=>.st (.exit 0) (aCM)
 | .inr y=>.fin (.int .i64 y) []
theorem kM (x1:aG) (y:(Sum (Unit) (Int))):∀(k:Nat) (bX:Int),b7 k x1 bX=some y→LT Try.prog X50_1 L50_1_0 (S50_1_0 x1 bX) (O50_1_0 x1 y)
 | 0,bX,h=>by cases h
 | k+1,bX,h=>by
  rw[b7] at h
  by_cases cL0:ltI bX (nI x1.length)=true
  · rw[if_pos cL0] at h
    by_cases cL1:inI bX x1.length=true
    · rw[if_pos cL1] at h
      obtain⟨mO,eL2,h⟩:=bsm h
      let u1:List Ans:=[dt,.n x1.length,.row [(.int .u8 mO.1),(.int .i64 mO.2)],.call ⟨false,[]⟩ (.bool (!ltI mO.1 64)) []]
      let w2:List Prf:=[⟨(aDY mO.1 mO.2)⟩,⟨(cE (e:=aB) eL2 2 0 2 (by decide))⟩,⟨cL1⟩,⟨(aU aB x1)⟩,⟨cL0⟩]
      by_cases cL3:ltI mO.1 64=true
      · rw[if_pos cL3] at h
        exact LT.next aE (hs:=⟨[(0,[]),(1,[]),(7,[]),(8,[])],[],false,[],[]⟩) (es:=none) (u1++[df]) ([⟨(nF cL3)⟩]++w2) (by kernel_rfl) (kM x1 y k (aH .i64 bX 1) h)
      rw[if_neg cL3] at h;replace cL3:=eqf cL3
      obtain rfl:=osi h
      show LT _ _ _ _ (.fin (.int .i64 bX) [])
      exact LT.done aE (hs:=⟨[],[],false,[],[]⟩) (es:=none) (u1++[dt]) ([⟨(nT cL3)⟩]++w2) (by kernel_rfl) (fun s h=>by cases h)
    rw[if_neg cL1] at h;replace cL1:=eqf cL1
    cases h
  rw[if_neg cL0] at h;replace cL0:=eqf cL0
  obtain rfl:=osi h
  show LT _ _ _ _ (.st (.exit 0) (aCM))
  exact LT.done aE (hs:=⟨[],[],false,[],[]⟩) (es:=(some ⟨[],[],false,[],[]⟩)) [df] [⟨cL0⟩] (by kernel_rfl) (fun s h=>by cases h)
theorem wZ (k:Nat) (x1:aG) (r:Int) (h:iF k x1=some r):Tri Try.prog 50 [(.sl 2 (List.map aB x1)),(.fn 39 [])] [] (.int .i64 r) []:=by
 unfold iF at h
 let u3:List Ans:=[.n x1.length,.norm 2 ⟨[(0,[]),(1,[]),(7,[]),(8,[])],[],false,[],[]⟩]
 obtain⟨x2,e0,h⟩:=bsm h
 cases x2 with
 | inl x3 =>
  simp only[Sum.elim_inl] at h
  obtain rfl:=osi h
  exact Tri.of (x:=X50_1) aE aEB (u3++[.out (.st .normal (aCM))]) [⟨(LT.block (kM x1 _ k 0 e0))⟩,⟨(aU aB x1)⟩] (by kernel_rfl)
 | inr x3 =>
  simp only[Sum.elim_inr] at h
  obtain rfl:=osi h
  exact Tri.of (x:=X50_1) aE aEB (u3++[.out (.fin (.int .i64 x3) [])]) [⟨(LT.blockFin (id:=0) (kM x1 _ k 0 e0))⟩,⟨(aU aB x1)⟩] (by kernel_rfl)
end Go.Ws

namespace Go.Ws
open Go.Proofs
set_option linter.unusedSimpArgs false
set_option linter.unusedVariables false
set_option maxRecDepth 1000000
set_option maxHeartbeats 4000000
noncomputable def X42_1:Ctx:=⟨Try.f42,[],true⟩
theorem uI (k:Nat) (x1:aG) (r:Bool) (h:gE k x1=some r):Tri Try.prog 42 [(.sl 2 (List.map aB x1)),(.fn 39 [])] [] (.bool r) []:=by
 unfold gE at h
 obtain⟨x2,e0,h⟩:=bsm h
 obtain rfl:=osi h
 exact Tri.of (x:=X42_1) aE aM8 [.call ⟨true,[]⟩ (.int .i64 x2) []] [⟨(wZ k x1 _ e0)⟩] (by kernel_rfl)
end Go.Ws

namespace Go.Ws
open Go.Proofs
set_option linter.unusedSimpArgs false
set_option linter.unusedVariables false
set_option maxRecDepth 1000000
set_option maxHeartbeats 4000000
noncomputable def X52:Ctx:=⟨Try.f52,[],false⟩
theorem vJ (x1:Int) (x2:Int) (x3:Int):Tri Try.prog 52 [(.agg [(.int .u8 x1),(.int .i64 x2)]),(.int .u8 x3)] [] (.int .i64 (bA x1 x3)) []:=by
 obtain⟨r,h⟩:∃r,uG x1 x2 x3=r:=⟨_,rfl⟩
 try rw[h]
 unfold uG at h
 obtain rfl:=h
 exact Tri.of (x:=X52) aE facts52 [.call ⟨true,[]⟩ (.int .i64 (bA x1 x3)) [],.norm 0 ⟨[(4,[])],[],false,[],[]⟩] [⟨(yF x1 x3)⟩] (by kernel_rfl)
end Go.Ws

namespace Go.Ws
open Go.Proofs
set_option linter.unusedSimpArgs false
set_option linter.unusedVariables false
set_option maxRecDepth 1000000
set_option maxHeartbeats 4000000
noncomputable def X51:Ctx:=⟨Try.f51,[],true⟩
noncomputable def L51_0:Code:=at_ Try.f51 [1,1,1,0,4,5]
def S51_0 (x1:aG) (x2:Int) (bY:Int) (cD:Int):St:=⟨mkT 49 [(0,(.sl 2 (List.map aB x1))),(1,(.int .u8 x2)),(2,(.fn 52 [])),(8,(.int .i64 (nI x1.length))),(9,(.int .i64 bY)),(10,(.int .i64 cD))],[]⟩
def aI9 (x1:aG) (x2:Int) (v51002_1:Int):St:=⟨mkT 49 [(0,(.sl 2 (List.map aB x1))),(1,(.int .u8 x2)),(2,(.fn 52 [])),(8,(.int .i64 (nI x1.length))),(9,(.int .i64 v51002_1))],[]⟩
def O51_0 (x1:aG) (x2:Int) (y:(Int)):GX:=.st (.exit 0) (aI9 x1 x2 y)
theorem g7 (x1:aG) (x2:Int) (y:(Int)):∀(k:Nat) (bY:Int) (cD:Int),aR k x1 x2 bY cD=some y→LT Try.prog X51 L51_0 (S51_0 x1 x2 bY cD) (O51_0 x1 x2 y)
 | 0,bY,cD,h=>by cases h
 | k+1,bY,cD,h=>by
  rw[aR] at h
  by_cases cL0:ltI bY cD=true
  · rw[if_pos cL0] at h
    by_cases cL1:inI (conv .i64 (rR .u64 (conv .u64 (aH .i64 bY cD)) 1)) x1.length=true
    · rw[if_pos cL1] at h
      obtain⟨oJ,eL2,h⟩:=bsm h
      let u1:List Ans:=[dt,.n x1.length,.row [(.int .u8 oJ.1),(.int .i64 oJ.2)],.call ⟨false,[]⟩ (.int .i64 (bA oJ.1 x2)) []]
      let w2:List Prf:=[⟨(vJ oJ.1 oJ.2 x2)⟩,⟨(cE (e:=aB) eL2 2 0 2 (by decide))⟩,⟨cL1⟩,⟨(aU aB x1)⟩,⟨cL0⟩]
      by_cases cL3:ltI (bA oJ.1 x2) 0=true
      · rw[if_pos cL3] at h
        exact LT.next aE (hs:=⟨[(0,[]),(1,[]),(2,[]),(8,[]),(9,[]),(10,[])],[],false,[],[]⟩) (es:=none) (u1++[dt]) ([⟨cL3⟩]++w2) (by kernel_rfl) (g7 x1 x2 y k (aH .i64 (conv .i64 (rR .u64 (conv .u64 (aH .i64 bY cD)) 1)) 1) cD h)
      rw[if_neg cL3] at h;replace cL3:=eqf cL3
      exact LT.next aE (hs:=⟨[(0,[]),(1,[]),(2,[]),(8,[]),(9,[]),(10,[])],[],false,[],[]⟩) (es:=none) (u1++[df]) ([⟨cL3⟩]++w2) (by kernel_rfl) (g7 x1 x2 y k bY (conv .i64 (rR .u64 (conv .u64 (aH .i64 bY cD)) 1)) h)
    rw[if_neg cL1] at h;replace cL1:=eqf cL1
    cases h
  rw[if_neg cL0] at h;replace cL0:=eqf cL0
  obtain rfl:=osi h
  show LT _ _ _ _ (.st (.exit 0) (aI9 x1 x2 bY))
  exact LT.done aE (hs:=⟨[],[],false,[],[]⟩) (es:=(some ⟨[(0,[]),(1,[]),(2,[]),(8,[]),(9,[])],[],false,[],[]⟩)) [df] [⟨cL0⟩] (by kernel_rfl) (fun s h=>by cases h)
theorem rE (k:Nat) (x1:aG) (x2:Int) (r:Int × Bool) (h:eE k x1 x2=some r):Tri Try.prog 51 [(.sl 2 (List.map aB x1)),(.int .u8 x2),(.fn 52 [])] [] (.tup [(.int .i64 r.1),(.bool r.2)]) []:=by
 unfold eE at h
 obtain⟨x4,e0,h⟩:=bsm h
 let u3:List Ans:=[.n x1.length,.norm 2 ⟨[(0,[]),(1,[]),(2,[]),(8,[]),(9,[]),(10,[])],[],false,[],[]⟩,.out (.st .normal (aI9 x1 x2 x4))]
 let w4:List Prf:=[⟨(LT.block (g7 x1 x2 _ k 0 (nI x1.length) e0))⟩,⟨(aU aB x1)⟩]
 by_cases c2:ltI x4 (nI x1.length)=true
 · rw[if_pos c2] at h
   by_cases c3:inI x4 x1.length=true
   · rw[if_pos c3] at h
     obtain⟨x5,e4,h⟩:=bsm h
     obtain rfl:=osi h
     exact Tri.of (x:=X51) aE aM6 (u3++[dt,dt,dt,dt,.n x1.length,dt,.row [(.int .u8 x5.1),(.int .i64 x5.2)],dt,dt,.call ⟨false,[]⟩ (.int .i64 (bA x5.1 x2)) [],dt,dt]) ([⟨c2⟩,⟨c2⟩,⟨(vJ x5.1 x5.2 x2)⟩,⟨c2⟩,⟨c2⟩,⟨(cE (e:=aB) e4 2 0 2 (by decide))⟩,⟨c2⟩,⟨c3⟩,⟨(aU aB x1)⟩,⟨c2⟩,⟨c2⟩,⟨c2⟩,⟨c2⟩]++w4) (by kernel_rfl)
   rw[if_neg c3] at h;replace c3:=eqf c3
   cases h
 rw[if_neg c2] at h;replace c2:=eqf c2
 obtain rfl:=osi h
 exact Tri.of (x:=X51) aE aM6 (u3++[df,df,df,df,df,df,df,df,df]) ([⟨c2⟩,⟨c2⟩,⟨c2⟩,⟨c2⟩,⟨c2⟩,⟨c2⟩,⟨c2⟩,⟨c2⟩,⟨c2⟩]++w4) (by kernel_rfl)
end Go.Ws

namespace Go.Ws
open Go.Proofs
set_option linter.unusedSimpArgs false
set_option linter.unusedVariables false
set_option maxRecDepth 1000000
set_option maxHeartbeats 4000000
noncomputable def X43:Ctx:=⟨Try.f43,[],true⟩
theorem aFQ (k:Nat) (x1:aG) (x2:Int) (r:Int × Bool) (h:o5 k x1 x2=some r):Tri Try.prog 43 [(.sl 2 (List.map aB x1)),(.int .u8 x2)] [] (.tup [(.int .i64 r.1),(.bool r.2)]) []:=by
 unfold o5 at h
 obtain⟨x3,e0,h⟩:=bsm h
 obtain rfl:=osi h
 exact Tri.of (x:=X43) aE facts43 [.call ⟨true,[]⟩ (.tup [(.int .i64 x3.1),(.bool x3.2)]) []] [⟨(rE k x1 x2 _ e0)⟩] (by kernel_rfl)
end Go.Ws

namespace Go.Ws
open Go.Proofs
set_option linter.unusedSimpArgs false
set_option linter.unusedVariables false
set_option maxRecDepth 1000000
set_option maxHeartbeats 4000000
theorem aC5 (k:Nat) (x1:Int) (x2:Int) (x3:aG) (r:aG) (h:n8 k x1 x2 x3=some r):Tri Try.prog 45 [(.ref 2 0 0 0 x3.length .virt),(.int .i64 x1),(.int .i64 x2)] [(.arr 2 (List.map aB x3) 0 0 false)] (.ref 2 0 1 0 r.length .full) [(.arr 2 (List.map aB r) 1 1 false)]:=aKP _ h
end Go.Ws

namespace Go.Ws
open Go.Proofs
set_option linter.unusedSimpArgs false
set_option linter.unusedVariables false
set_option maxRecDepth 1000000
set_option maxHeartbeats 4000000
theorem zN (k:Nat) (x1:Int) (x2:aG) (x3:aG) (r:aG) (h:lF k x1 x2 x3=some r):Tri Try.prog 44 [(.ref 2 0 0 0 x2.length .virt),(.int .i64 x1),(.ref 2 1 0 0 x3.length .full)] [(.arr 2 (List.map aB x2) 0 0 false),(.arr 2 (List.map aB x3) 0 0 false)] (.ref 2 0 1 0 r.length .full) [(.arr 2 (List.map aB r) 1 1 false),(.arr 2 (List.map aB x3) 0 0 false)]:=ins_ok44 _ h rfl
end Go.Ws

namespace Go.Ws
open Go.Proofs
set_option linter.unusedSimpArgs false
set_option linter.unusedVariables false
set_option maxRecDepth 1000000
set_option maxHeartbeats 4000000
theorem z9 (k:Nat) (x1:Int) (x2:Int) (x3:aG) (r:aG) (h:l6 k x1 x2 x3=some r):Tri Try.prog 45 [(.ref 2 0 1 0 x3.length .full),(.int .i64 x1),(.int .i64 x2)] [(.arr 2 (List.map aB x3) 1 1 false)] (.ref 2 0 2 0 r.length .full) [(.arr 2 (List.map aB r) 2 2 false)]:=aKP _ h
end Go.Ws

namespace Go.Ws
open Go.Proofs
set_option linter.unusedSimpArgs false
set_option linter.unusedVariables false
set_option maxRecDepth 1000000
set_option maxHeartbeats 4000000
noncomputable def X30:Ctx:=⟨Try.f30,[],true⟩
noncomputable def L30_0:Code:=at_ Try.f30 [1,1,1,1,0,1,4,5]
def S30_0 (x2:aG) (bZ:Int) (aS:aG):St:=⟨mkT 67 [(0,(.ref 2 0 0 0 aS.length .virt)),(22,(.sl 2 (List.map aB x2))),(23,(.int .i64 (nI x2.length))),(24,(.int .i64 bZ))],[(.arr 2 (List.map aB aS) 0 0 false)]⟩
def aH8 (aLD:aG):St:=⟨mkT 67 [(0,(.ref 2 0 0 0 aLD.length .virt))],[(.arr 2 (List.map aB aLD) 0 0 false)]⟩
def O30_0 (x2:aG) (y:(aG)):GX:=.st (.exit 0) (aH8 y)
theorem k8 (x2:aG) (y:(aG)):∀(k:Nat) (bZ:Int) (aS:aG),dY k x2 bZ aS=some y→LT Try.prog X30 L30_0 (S30_0 x2 bZ aS) (O30_0 x2 y)
 | 0,bZ,aS,h=>by cases h
 | k+1,bZ,aS,h=>by
  rw[dY] at h
  by_cases cL0:ltI bZ (nI x2.length)=true
  · rw[if_pos cL0] at h
    by_cases cL1:inI bZ x2.length=true
    · rw[if_pos cL1] at h
      obtain⟨bG,eL2,h⟩:=bsm h
      obtain⟨aP,eL3,h⟩:=bsm h
      let u1:List Ans:=[dt,.n x2.length,.row [(.int .u8 bG.1),(.int .i64 bG.2)],.call ⟨true,[]⟩ (.tup [(.int .i64 aP.1),(.bool aP.2)]) [],.rows (List.map aB aS)]
      let w2:List Prf:=[⟨(aFQ k aS bG.1 _ eL3)⟩,⟨(cH aB (l:=aS) (n:=aS.length) rfl)⟩,⟨(eX aB (Nat.le_refl aS.length):0+aS.length≤(List.map aB aS).length)⟩,⟨(cE (e:=aB) eL2 2 0 2 (by decide))⟩,⟨cL1⟩,⟨(aU aB x2)⟩,⟨cL0⟩]
      by_cases cL4:aP.2=true
      · rw[if_pos cL4] at h
        by_cases cL5:inI aP.1 aS.length=true
        · rw[if_pos cL5] at h
          obtain⟨aQ,eL6,h⟩:=bsm h
          obtain⟨bM,eL7,h⟩:=bsm h
          let u3:List Ans:=u1++[df,.row [(.int .i64 aQ.2)],.rows (List.map aB (List.set aS (tN aP.1) (aQ.1,aH .i64 aQ.2 bG.2))),.row [(.int .i64 bM.2)]]
          let w4:List Prf:=[⟨(cE (e:=aB) eL7 2 1 1 (by decide))⟩,⟨cL5⟩,⟨(uP (e:=aB) eL6 1 [(.int .i64 (aH .i64 aQ.2 bG.2))] (aQ.1,aH .i64 aQ.2 bG.2) rfl)⟩,⟨cL5⟩,⟨(cE (e:=aB) eL6 2 1 1 (by decide))⟩,⟨cL5⟩,⟨(nF cL4)⟩]++w2
          by_cases cL8:eqI bM.2 0=true
          · rw[if_pos cL8] at h
            obtain⟨gH,eL9,h⟩:=bsm h
            exact LT.next aE (hs:=⟨[(0,[]),(22,[]),(23,[]),(24,[])],[⟨.tmp 0,[],some 2⟩],false,[],[]⟩) (es:=none) (u3++[dt,.call ⟨false,[]⟩ (.ref 2 0 1 0 gH.length .full) [(.arr 2 (List.map aB gH) 1 1 false)],.n gH.length,.rows (List.map aB gH)]) ([⟨(eZ aB (l:=gH) (n:=gH.length) rfl)⟩,⟨(rfl:gH.length=gH.length)⟩,⟨(zle gH.length)⟩,⟨(by have hh:=(aC5 k aP.1 (aH .i64 aP.1 1) (List.set aS (tN aP.1) (aQ.1,aH .i64 aQ.2 bG.2)) _ eL9);simp only[List.length_set] at hh;exact hh)⟩,⟨cL8⟩]++w4) (by kernel_rfl) (k8 x2 y k (aH .i64 bZ 1) gH h)
          rw[if_neg cL8] at h;replace cL8:=eqf cL8
          exact LT.next aE (hs:=⟨[(0,[]),(22,[]),(23,[]),(24,[])],[⟨.tmp 0,[],some 2⟩],false,[],[]⟩) (es:=none) (u3++[df,.n ((List.set aS (tN aP.1) (aQ.1,aH .i64 aQ.2 bG.2)).length),.rows (List.map aB (List.set aS (tN aP.1) (aQ.1,aH .i64 aQ.2 bG.2)))]) ([⟨(eZ aB (l:=(List.set aS (tN aP.1) (aQ.1,aH .i64 aQ.2 bG.2))) (n:=aS.length) (by simp:aS.length=(List.set aS (tN aP.1) (aQ.1,aH .i64 aQ.2 bG.2)).length))⟩,⟨((by simp:aS.length=List.length (α:=Int × Int) (List.set aS (tN aP.1) (aQ.1,aH .i64 aQ.2 bG.2))):aS.length=(List.set aS (tN aP.1) (aQ.1,aH .i64 aQ.2 bG.2)).length)⟩,⟨(zle aS.length)⟩,⟨cL8⟩]++w4) (by kernel_rfl) (k8 x2 y k (aH .i64 bZ 1) (List.set aS (tN aP.1) (aQ.1,aH .i64 aQ.2 bG.2)) h)
        rw[if_neg cL5] at h;replace cL5:=eqf cL5
        cases h
      rw[if_neg cL4] at h;replace cL4:=eqf cL4
      obtain⟨aQ,eL5,h⟩:=bsm h
      by_cases cL6:inI aP.1 aQ.length=true
      · rw[if_pos cL6] at h
        obtain⟨bM,eL7,h⟩:=bsm h
        obtain⟨gH,eL8,h⟩:=bsm h
        let u5:List Ans:=u1++[dt,.call ⟨false,[]⟩ (.ref 2 0 1 0 aQ.length .full) [(.arr 2 (List.map aB aQ) 1 1 false),(.arr 2 (List.map aB [(bG.1,0)]) 0 0 false)],.row [(.int .i64 bM.2)],.rows (List.map aB (List.set aQ (tN aP.1) (bM.1,aH .i64 bM.2 bG.2))),.row [(.int .i64 gH.2)]]
        let w6:List Prf:=[⟨(cE (e:=aB) eL8 2 1 1 (by decide))⟩,⟨cL6⟩,⟨(uP (e:=aB) eL7 1 [(.int .i64 (aH .i64 bM.2 bG.2))] (bM.1,aH .i64 bM.2 bG.2) rfl)⟩,⟨cL6⟩,⟨(cE (e:=aB) eL7 2 1 1 (by decide))⟩,⟨cL6⟩,⟨(zN k aP.1 aS [(bG.1,0)] _ eL5)⟩,⟨(nT cL4)⟩]++w2
        by_cases cL9:eqI gH.2 0=true
        · rw[if_pos cL9] at h
          obtain⟨kK,eL10,h⟩:=bsm h
          exact LT.next aE (hs:=⟨[(0,[]),(22,[]),(23,[]),(24,[])],[⟨.tmp 0,[],some 2⟩],false,[],[]⟩) (es:=none) (u5++[dt,.call ⟨false,[]⟩ (.ref 2 0 2 0 kK.length .full) [(.arr 2 (List.map aB kK) 2 2 false)],.n kK.length,.rows (List.map aB kK)]) ([⟨(eZ aB (l:=kK) (n:=kK.length) rfl)⟩,⟨(rfl:kK.length=kK.length)⟩,⟨(zle kK.length)⟩,⟨(by have hh:=(z9 k aP.1 (aH .i64 aP.1 1) (List.set aQ (tN aP.1) (bM.1,aH .i64 bM.2 bG.2)) _ eL10);simp only[List.length_set] at hh;exact hh)⟩,⟨cL9⟩]++w6) (by kernel_rfl) (k8 x2 y k (aH .i64 bZ 1) kK h)
        rw[if_neg cL9] at h;replace cL9:=eqf cL9
        exact LT.next aE (hs:=⟨[(0,[]),(22,[]),(23,[]),(24,[])],[⟨.tmp 0,[],some 2⟩],false,[],[]⟩) (es:=none) (u5++[df,.n ((List.set aQ (tN aP.1) (bM.1,aH .i64 bM.2 bG.2)).length),.rows (List.map aB (List.set aQ (tN aP.1) (bM.1,aH .i64 bM.2 bG.2)))]) ([⟨(eZ aB (l:=(List.set aQ (tN aP.1) (bM.1,aH .i64 bM.2 bG.2))) (n:=aQ.length) (by simp:aQ.length=(List.set aQ (tN aP.1) (bM.1,aH .i64 bM.2 bG.2)).length))⟩,⟨((by simp:aQ.length=List.length (α:=Int × Int) (List.set aQ (tN aP.1) (bM.1,aH .i64 bM.2 bG.2))):aQ.length=(List.set aQ (tN aP.1) (bM.1,aH .i64 bM.2 bG.2)).length)⟩,⟨(zle aQ.length)⟩,⟨cL9⟩]++w6) (by kernel_rfl) (k8 x2 y k (aH .i64 bZ 1) (List.set aQ (tN aP.1) (bM.1,aH .i64 bM.2 bG.2)) h)
      rw[if_neg cL6] at h;replace cL6:=eqf cL6
      cases h
    rw[if_neg cL1] at h;replace cL1:=eqf cL1
    cases h
  rw[if_neg cL0] at h;replace cL0:=eqf cL0
  obtain rfl:=osi h
  show LT _ _ _ _ (.st (.exit 0) (aH8 aS))
  exact LT.done aE (hs:=⟨[],[],false,[],[]⟩) (es:=(some ⟨[(0,[])],[⟨.tmp 0,[],none⟩],false,[],[]⟩)) [df] [⟨cL0⟩] (by kernel_rfl) (fun s h=>by cases h)
theorem oE (k:Nat) (x1:aG) (x2:aG) (r:aG × Int) (h:kO k x1 x2=some r):Tri Try.prog 30 [(.sl 2 (List.map aB x1)),(.sl 2 (List.map aB x2))] [] (.tup [(.sl 2 (List.map aB r.1)),(.int .i64 r.2)]) []:=by
 unfold kO at h
 obtain⟨x3,e0,h⟩:=bsm h
 obtain⟨x4,e1,h⟩:=bsm h
 let u7:List Ans:=[.call ⟨true,[]⟩ (.ref 2 0 0 0 x1.length .virt) [(.arr 2 (List.map aB x1) 0 0 false)],.call ⟨true,[]⟩ (.bool x4) [],.rows (List.map aB x1)]
 let w8:List Prf:=[⟨(aD3 k x1 _ e1)⟩,⟨(cH aB (l:=x1) (n:=x1.length) rfl)⟩,⟨(eX aB (Nat.le_refl x1.length):0+x1.length≤(List.map aB x1).length)⟩,⟨(z6 k x1 _ e0)⟩]
 by_cases c2:x4=true
 · rw[if_pos c2] at h
   obtain⟨x5,e3,h⟩:=bsm h
   let u9:List Ans:=u7++[df,df,df,.call ⟨true,[]⟩ (.bool x5) [],df]
   let w10:List Prf:=[⟨(nF c2)⟩,⟨(uI k x2 _ e3)⟩,⟨(nF c2)⟩,⟨(nF c2)⟩,⟨(nF c2)⟩]++w8
   by_cases c4:x5=true
   · rw[if_pos c4] at h
     obtain rfl:=osi h
     exact Tri.of (x:=X30) aE aIG (u9++[dt,.rows (List.map aB x1)]) ([⟨(cH aB (l:=x1) (n:=x1.length) rfl)⟩,⟨(eX aB (Nat.le_refl x1.length):0+x1.length≤(List.map aB x1).length)⟩,⟨c4⟩]++w10) (by kernel_rfl)
   rw[if_neg c4] at h;replace c4:=eqf c4
   obtain⟨x7,e5,h⟩:=bsm h
   obtain rfl:=osi h
   exact Tri.of (x:=X30) aE aIG (u9++[df,.n x2.length,.norm 2 ⟨[(0,[]),(22,[]),(23,[]),(24,[])],[⟨.tmp 0,[],some 2⟩],false,[],[]⟩,.n x1.length,.rows (List.map aB x1),.out (.st .normal (aH8 x7)),.rows (List.map aB x7)]) ([⟨(cH aB (l:=x7) (n:=x7.length) rfl)⟩,⟨(eX aB (Nat.le_refl x7.length):0+x7.length≤(List.map aB x7).length)⟩,⟨(LT.block (k8 x2 _ k 0 x1 e5))⟩,⟨(eZ aB (l:=x1) (n:=x1.length) rfl)⟩,⟨(rfl:x1.length=x1.length)⟩,⟨(zle x1.length)⟩,⟨(aU aB x2)⟩,⟨c4⟩]++w10) (by kernel_rfl)
 rw[if_neg c2] at h;replace c2:=eqf c2
 obtain rfl:=osi h
 exact Tri.of (x:=X30) aE aIG (u7++[dt,dt,dt,dt,dt,.rows (List.map aB x1)]) ([⟨(cH aB (l:=x1) (n:=x1.length) rfl)⟩,⟨(eX aB (Nat.le_refl x1.length):0+x1.length≤(List.map aB x1).length)⟩,⟨rT⟩,⟨(nT c2)⟩,⟨(nT c2)⟩,⟨(nT c2)⟩,⟨(nT c2)⟩]++w8) (by kernel_rfl)
end Go.Ws

namespace Go.Ws
open Go.Proofs
set_option linter.unusedSimpArgs false
set_option linter.unusedVariables false
set_option maxRecDepth 1000000
set_option maxHeartbeats 4000000
noncomputable def X78 (x4:Int):Ctx:=⟨Try.f78,[(.row [(.int .i64 x4)])],false⟩
theorem yC (x1:Int) (x2:Int) (x3:Bool) (x4:Int):Tri Try.prog 78 [(.agg [(.int .u8 x1),(.int .i64 x2),(.bool x3)]),(.hp 0 0)] [(.row [(.int .i64 x4)])] (.bool (eqI x2 x4)) [(.row [(.int .i64 x4)])]:=by
 obtain⟨r,h⟩:∃r,xA x1 x2 x3 x4=r:=⟨_,rfl⟩
 try rw[h]
 unfold xA at h
 obtain rfl:=h
 exact Tri.of (x:=(X78 x4)) aE facts78 [.norm 0 ⟨[(3,[])],[],false,[],[]⟩] [] (by kernel_rfl)
end Go.Ws

namespace Go.Ws
open Go.Proofs
set_option linter.unusedSimpArgs false
set_option linter.unusedVariables false
set_option maxRecDepth 1000000
set_option maxHeartbeats 4000000
noncomputable def X92 (x1:Ty8) (x2:Int):Ctx:=⟨Try.f92,[(.arr 3 (List.map aD x1) 0 0 false),(.row [(.int .i64 x2)])],false⟩
noncomputable def L92_0:Code:=at_ Try.f92 [1,0,1,4,5]
def S92_0 (x1:Ty8) (x2:Int) (cM:Int):St:=⟨mkT 19 [(0,(.ref 3 0 0 0 x1.length .virt)),(1,(.fn 78 [(.hp 1 0)])),(7,(.int .i64 (nI x1.length))),(8,(.int .i64 cM))],[(.arr 3 (List.map aD x1) 0 0 false),(.row [(.int .i64 x2)])]⟩
def aIZ (x1:Ty8) (x2:Int):St:=⟨mkT 19 [],[(.arr 3 (List.map aD x1) 0 0 false),(.row [(.int .i64 x2)])]⟩
def O92_0 (x1:Ty8) (x2:Int) (y:(Sum (Unit) (Int))):GX:=match y with
 | .inl y=>.st (.exit 0) (aIZ x1 x2)
 | .inr y=>.fin (.int .i64 y) [(.arr 3 (List.map aD x1) 0 0 false),(.row [(.int .i64 x2)])]
theorem jZ (x1:Ty8) (x2:Int) (y:(Sum (Unit) (Int))):∀(k:Nat) (cM:Int),bP k x1 x2 cM=some y→LT Try.prog (X92 x1 x2) L92_0 (S92_0 x1 x2 cM) (O92_0 x1 x2 y)
 | 0,cM,h=>by cases h
 | k+1,cM,h=>by
  rw[bP] at h
  by_cases cL0:ltI cM (nI x1.length)=true
  · rw[if_pos cL0] at h
    by_cases cL1:inI cM x1.length=true
    · rw[if_pos cL1] at h
      obtain⟨mH,eL2,h⟩:=bsm h
      let u1:List Ans:=[dt,.row [(.int .u8 mH.1),(.int .i64 mH.2.1),(.bool mH.2.2)],.call ⟨false,[]⟩ (.bool (eqI mH.2.1 x2)) [(.row [(.int .i64 x2)])]]
      let w2:List Prf:=[⟨(yC mH.1 mH.2.1 mH.2.2 x2)⟩,⟨(cE (e:=aD) eL2 3 0 3 (by decide))⟩,⟨cL1⟩,⟨cL0⟩]
      by_cases cL3:eqI mH.2.1 x2=true
      · rw[if_pos cL3] at h
        obtain rfl:=osi h
        show LT _ _ _ _ (.fin (.int .i64 cM) [(.arr 3 (List.map aD x1) 0 0 false),(.row [(.int .i64 x2)])])
        exact LT.done aE (hs:=⟨[],[],false,[],[]⟩) (es:=none) (u1++[dt,.norm 0 ⟨[(4,[])],[],false,[],[]⟩]) ([⟨cL3⟩]++w2) (by kernel_rfl) (fun s h=>by cases h)
      rw[if_neg cL3] at h;replace cL3:=eqf cL3
      exact LT.next aE (hs:=⟨[(0,[]),(1,[]),(7,[]),(8,[])],[],false,[],[]⟩) (es:=none) (u1++[df]) ([⟨cL3⟩]++w2) (by kernel_rfl) (jZ x1 x2 y k (aH .i64 cM 1) h)
    rw[if_neg cL1] at h;replace cL1:=eqf cL1
    cases h
  rw[if_neg cL0] at h;replace cL0:=eqf cL0
  obtain rfl:=osi h
  show LT _ _ _ _ (.st (.exit 0) (aIZ x1 x2))
  exact LT.done aE (hs:=⟨[],[],false,[],[]⟩) (es:=(some ⟨[],[],false,[],[]⟩)) [df] [⟨cL0⟩] (by kernel_rfl) (fun s h=>by cases h)
theorem wN (k:Nat) (x1:Ty8) (x2:Int) (r:Int) (h:hO k x1 x2=some r):Tri Try.prog 92 [(.ref 3 0 0 0 x1.length .virt),(.fn 78 [(.hp 1 0)])] [(.arr 3 (List.map aD x1) 0 0 false),(.row [(.int .i64 x2)])] (.int .i64 r) [(.arr 3 (List.map aD x1) 0 0 false),(.row [(.int .i64 x2)])]:=by
 unfold hO at h
 obtain⟨x3,e0,h⟩:=bsm h
 cases x3 with
 | inl x4 =>
  simp only[Sum.elim_inl] at h
  obtain rfl:=osi h
  exact Tri.of (x:=(X92 x1 x2)) aE aNB [.norm 2 ⟨[(0,[]),(1,[]),(7,[]),(8,[])],[],false,[],[]⟩,.out (.st .normal (aIZ x1 x2)),.norm 0 ⟨[(4,[])],[],false,[],[]⟩] [⟨(LT.block (jZ x1 x2 _ k 0 e0))⟩] (by kernel_rfl)
 | inr x4 =>
  simp only[Sum.elim_inr] at h
  obtain rfl:=osi h
  exact Tri.of (x:=(X92 x1 x2)) aE aNB [.norm 2 ⟨[(0,[]),(1,[]),(7,[]),(8,[])],[],false,[],[]⟩,.out (.fin (.int .i64 x4) [(.arr 3 (List.map aD x1) 0 0 false),(.row [(.int .i64 x2)])])] [⟨(LT.blockFin (id:=0) (jZ x1 x2 _ k 0 e0))⟩] (by kernel_rfl)
end Go.Ws

namespace Go.Ws
open Go.Proofs
set_option linter.unusedSimpArgs false
set_option linter.unusedVariables false
set_option maxRecDepth 1000000
set_option maxHeartbeats 4000000
noncomputable def X77 (x1:Ty8) (x2:Int):Ctx:=⟨Try.f77,[(.arr 3 (List.map aD x1) 0 0 false),(.row [(.int .i64 x2)])],false⟩
noncomputable def L77_0:Code:=at_ Try.f77 [1,1,1,0,1,4,5]
def S77_0 (x1:Ty8) (x2:Int) (cN:Int) (b8:Int) (cO:Ty8):St:=⟨mkT 42 [(0,(.ref 3 0 0 0 x1.length .virt)),(1,(.fn 78 [(.hp 1 0)])),(5,(.int .i64 b8)),(6,(.int .i64 cN))],[(.arr 3 (List.map aD cO) 0 0 false),(.row [(.int .i64 x2)])]⟩
def aIA (x1:Ty8) (x2:Int) (v77002_1:Int) (v77002_2:Ty8):St:=⟨mkT 42 [(0,(.ref 3 0 0 0 x1.length .virt)),(5,(.int .i64 v77002_1))],[(.arr 3 (List.map aD v77002_2) 0 0 false),(.row [(.int .i64 x2)])]⟩
def O77_0 (x1:Ty8) (x2:Int) (y:(Int × Ty8)):GX:=.st (.exit 0) (aIA x1 x2 y.1 y.2)
theorem lG (x1:Ty8) (x2:Int) (y:(Int × Ty8)):∀(k:Nat) (cN:Int) (b8:Int) (cO:Ty8),bV k x1 x2 cN b8 cO=some y→LT Try.prog (X77 x1 x2) L77_0 (S77_0 x1 x2 cN b8 cO) (O77_0 x1 x2 y)
 | 0,cN,b8,cO,h=>by cases h
 | k+1,cN,b8,cO,h=>by
  rw[bV] at h
  by_cases cL0:ltI cN (nI x1.length)=true
  · rw[if_pos cL0] at h
    by_cases cL1:inI cN x1.length=true
    · rw[if_pos cL1] at h
      obtain⟨gW,eL2,h⟩:=bsm h
      let u1:List Ans:=[dt,.row [(.int .u8 gW.1),(.int .i64 gW.2.1),(.bool gW.2.2)],.call ⟨false,[]⟩ (.bool (eqI gW.2.1 x2)) [(.row [(.int .i64 x2)])]]
      let w2:List Prf:=[⟨(yC gW.1 gW.2.1 gW.2.2 x2)⟩,⟨(cE (e:=aD) eL2 3 0 3 (by decide))⟩,⟨cL1⟩,⟨cL0⟩]
      by_cases cL3:eqI gW.2.1 x2=true
      · rw[if_pos cL3] at h
        exact LT.next aE (hs:=⟨[(0,[]),(1,[]),(5,[]),(6,[])],[],false,[],[]⟩) (es:=none) (u1++[df]) ([⟨(nF cL3)⟩]++w2) (by kernel_rfl) (lG x1 x2 y k (aH .i64 cN 1) b8 cO h)
      rw[if_neg cL3] at h;replace cL3:=eqf cL3
      by_cases cL4:inI b8 x1.length=true
      · rw[if_pos cL4] at h
        obtain⟨aLC,eL5,h⟩:=bsm h
        exact LT.next aE (hs:=⟨[(0,[]),(1,[]),(5,[]),(6,[])],[],false,[],[]⟩) (es:=none) (u1++[dt,.rows (List.map aD (List.set cO (tN b8) gW))]) ([⟨(uP (e:=aD) eL5 0 [(.int .u8 gW.1),(.int .i64 gW.2.1),(.bool gW.2.2)] gW rfl)⟩,⟨cL4⟩,⟨(nT cL3)⟩]++w2) (by kernel_rfl) (lG x1 x2 y k (aH .i64 cN 1) (aH .i64 b8 1) (List.set cO (tN b8) gW) h)
      rw[if_neg cL4] at h;replace cL4:=eqf cL4
      cases h
    rw[if_neg cL1] at h;replace cL1:=eqf cL1
    cases h
  rw[if_neg cL0] at h;replace cL0:=eqf cL0
  obtain rfl:=osi h
  show LT _ _ _ _ (.st (.exit 0) (aIA x1 x2 b8 cO))
  exact LT.done aE (hs:=⟨[],[],false,[],[]⟩) (es:=(some ⟨[(0,[]),(5,[])],[],false,[],[]⟩)) [df] [⟨cL0⟩] (by kernel_rfl) (fun s h=>by cases h)
theorem xY (k:Nat) (x1:Ty8) (x2:Int) (r:Nat × Ty8) (h:iZ k x1 x2=some r):Tri Try.prog 77 [(.ref 3 0 0 0 x1.length .virt),(.fn 78 [(.hp 1 0)])] [(.arr 3 (List.map aD x1) 0 0 false),(.row [(.int .i64 x2)])] (.ref 3 0 0 0 r.1 .virt) [(.arr 3 (List.map aD r.2) 0 0 false),(.row [(.int .i64 x2)])]:=by
 unfold iZ at h
 obtain⟨x3,e0,h⟩:=bsm h
 let w4:List Prf:=[⟨(wN k x1 x2 _ e0)⟩]
 by_cases c1:eqI x3 (-1)=true
 · rw[if_pos c1] at h
   obtain rfl:=osi h
   exact Tri.of (x:=(X77 x1 x2)) aE aIY [.call ⟨false,[]⟩ (.int .i64 x3) [(.arr 3 (List.map aD x1) 0 0 false),(.row [(.int .i64 x2)])],dt,.norm 0 ⟨[(4,[])],[],false,[],[]⟩] ([⟨c1⟩]++w4) (by kernel_rfl)
 rw[if_neg c1] at h;replace c1:=eqf c1
 obtain⟨x5,e2,h⟩:=bsm h
 by_cases c4:isZ x1.length=true
 · rw[if_pos c4] at h
   cases h
 rw[if_neg c4] at h;replace c4:=eqf c4
 by_cases c5:rU x1.length x5.2.length=true
 · rw[if_pos c5] at h
   by_cases c6:leI x5.1 x1.length=true
   · rw[if_pos c6] at h
     let u5:List Ans:=[.call ⟨false,[]⟩ (.int .i64 x3) [(.arr 3 (List.map aD x1) 0 0 false),(.row [(.int .i64 x2)])],df,.norm 2 ⟨[(0,[]),(1,[]),(5,[]),(6,[])],[],false,[],[]⟩,.out (.st .normal (aIA x1 x2 x5.1 x5.2)),df,.n x5.2.length,.n x5.2.length,.n (tN x5.1),.n (x1.length - (tN x5.1))]
     let w6:List Prf:=[⟨(rfl:x1.length - (tN x5.1)=x1.length - (tN x5.1))⟩,⟨((Nat.zero_add _):0+(tN x5.1)=tN x5.1)⟩,⟨c6⟩,⟨(rfl:x5.2.length - 0=x5.2.length)⟩,⟨(aJE ((aEO c5):x1.length≤x5.2.length))⟩,⟨(aU aD x5.2)⟩,⟨c4⟩,⟨(LT.block (lG x1 x2 _ k (aH .i64 x3 1) x3 x1 e2))⟩,⟨c1⟩]++w4
     by_cases c7:isZ (x1.length - (tN x5.1))=true
     · rw[if_pos c7] at h
       by_cases c8:leI x5.1 x5.2.length=true
       · rw[if_pos c8] at h
         obtain rfl:=osi h
         exact Tri.of (x:=(X77 x1 x2)) aE aIY (u5++[dt,df,.n x5.2.length,.n x5.2.length,.n 0,.n (tN x5.1),.norm 0 ⟨[(4,[])],[],false,[],[]⟩]) ([⟨(rfl:(tN x5.1) - 0=tN x5.1)⟩,⟨((Nat.zero_add _):0+0=0)⟩,⟨c8⟩,⟨(rfl:x5.2.length - 0=x5.2.length)⟩,⟨(aJE ((aEO c5):x1.length≤x5.2.length))⟩,⟨(aU aD x5.2)⟩,⟨c4⟩,⟨c7⟩]++w6) (by kernel_rfl)
       rw[if_neg c8] at h;replace c8:=eqf c8
       cases h
     rw[if_neg c7] at h;replace c7:=eqf c7
     by_cases c8:rU (tN x5.1+(x1.length - (tN x5.1))) x5.2.length=true
     · rw[if_pos c8] at h
       by_cases c9:rU (tN x5.1) x5.2.length=true
       · rw[if_pos c9] at h
         by_cases c10:rU x1.length ((((List.take (tN x5.1) x5.2)++(List.replicate (x1.length - (tN x5.1)) (0,0,false)))++(List.drop (tN x5.1+(x1.length - (tN x5.1))) x5.2)).length)=true
         · rw[if_pos c10] at h
           by_cases c11:leI x5.1 ((((List.take (tN x5.1) x5.2)++(List.replicate (x1.length - (tN x5.1)) (0,0,false)))++(List.drop (tN x5.1+(x1.length - (tN x5.1))) x5.2)).length)=true
           · rw[if_pos c11] at h
             obtain rfl:=osi h
             exact Tri.of (x:=(X77 x1 x2)) aE aIY (u5++[df,.rows (List.map aD (((List.take (tN x5.1) x5.2)++(List.replicate (x1.length - (tN x5.1)) (0,0,false)))++(List.drop (tN x5.1+(x1.length - (tN x5.1))) x5.2))),df,.n ((((List.take (tN x5.1) x5.2)++(List.replicate (x1.length - (tN x5.1)) (0,0,false)))++(List.drop (tN x5.1+(x1.length - (tN x5.1))) x5.2)).length),.n ((((List.take (tN x5.1) x5.2)++(List.replicate (x1.length - (tN x5.1)) (0,0,false)))++(List.drop (tN x5.1+(x1.length - (tN x5.1))) x5.2)).length),.n 0,.n (tN x5.1),.norm 0 ⟨[(4,[])],[],false,[],[]⟩]) ([⟨(rfl:(tN x5.1) - 0=tN x5.1)⟩,⟨((Nat.zero_add _):0+0=0)⟩,⟨c11⟩,⟨(rfl:((((List.take (tN x5.1) x5.2)++(List.replicate (x1.length - (tN x5.1)) (0,0,false)))++(List.drop (tN x5.1+(x1.length - (tN x5.1))) x5.2)).length) - 0=(((List.take (tN x5.1) x5.2)++(List.replicate (x1.length - (tN x5.1)) (0,0,false)))++(List.drop (tN x5.1+(x1.length - (tN x5.1))) x5.2)).length)⟩,⟨(aJE ((aEO c10):x1.length≤(((List.take (tN x5.1) x5.2)++(List.replicate (x1.length - (tN x5.1)) (0,0,false)))++(List.drop (tN x5.1+(x1.length - (tN x5.1))) x5.2)).length))⟩,⟨(aU aD (((List.take (tN x5.1) x5.2)++(List.replicate (x1.length - (tN x5.1)) (0,0,false)))++(List.drop (tN x5.1+(x1.length - (tN x5.1))) x5.2)))⟩,⟨c4⟩,⟨(aO7 aD x5.2 (tN x5.1) (x1.length - (tN x5.1)) (0,0,false))⟩,⟨(le_mapI aD (aEO c8))⟩,⟨c7⟩]++w6) (by kernel_rfl)
           rw[if_neg c11] at h;replace c11:=eqf c11
           cases h
         rw[if_neg c10] at h;replace c10:=eqf c10
         cases h
       rw[if_neg c9] at h;replace c9:=eqf c9
       cases h
     rw[if_neg c8] at h;replace c8:=eqf c8
     cases h
   rw[if_neg c6] at h;replace c6:=eqf c6
   cases h
 rw[if_neg c5] at h;replace c5:=eqf c5
 cases h
end Go.Ws

namespace Go.Ws
open Go.Proofs
set_option linter.unusedSimpArgs false
set_option linter.unusedVariables false
set_option maxRecDepth 1000000
set_option maxHeartbeats 4000000
noncomputable def X61:Ctx:=⟨Try.f61,[],true⟩
theorem sG (k:Nat) (x1:Ty8) (x2:Int) (r:Ty8) (h:nM k x1 x2=some r):Tri Try.prog 61 [(.sl 3 (List.map aD x1)),(.int .i64 x2)] [] (.sl 3 (List.map aD r)) []:=by
 unfold nM at h
 obtain⟨x3,e0,h⟩:=bsm h
 obtain⟨x4,e1,h⟩:=bsm h
 by_cases c2:rU x4.1 x4.2.length=true
 · rw[if_pos c2] at h
   obtain rfl:=osi h
   exact Tri.of (x:=X61) aE facts61 [.call ⟨true,[]⟩ (.ref 3 0 0 0 x1.length .virt) [(.arr 3 (List.map aD x1) 0 0 false)],.call ⟨false,[]⟩ (.ref 3 0 0 0 x4.1 .virt) [(.arr 3 (List.map aD x4.2) 0 0 false),(.row [(.int .i64 x2)])],.rows (List.map aD (List.take x4.1 x4.2))] [⟨(aPH aD x4.2 x4.1)⟩,⟨(eX aD (aEO c2))⟩,⟨(xY k x1 x2 _ e1)⟩,⟨(wQ k x1 _ e0)⟩] (by kernel_rfl)
 rw[if_neg c2] at h;replace c2:=eqf c2
 cases h
end Go.Ws

namespace Go.Ws
open Go.Proofs
set_option linter.unusedSimpArgs false
set_option linter.unusedVariables false
set_option maxRecDepth 1000000
set_option maxHeartbeats 4000000
noncomputable def X59:Ctx:=⟨Try.f59,[],true⟩
def A59_0:Ans:=.norm 0 ⟨[(2,[]),(3,[(0,2)]),(4,[])],[⟨.tmp 2,[],none⟩],false,[],[]⟩
theorem aGJ (k:Nat) (x1:Int) (x2:aG) (x3:Bool) (x4:Int) (r:Int × aG × Bool × Int × aG × Int) (h:qQ k x1 x2 x3 x4=some r):Tri Try.prog 59 [(.agg [(.int .i64 x1),(.sl 2 (List.map aB x2)),(.bool x3),(.int .i64 x4)])] [] (.tup [(.agg [(.int .i64 r.1),(.sl 2 (List.map aB r.2.1)),(.bool r.2.2.1),(.int .i64 r.2.2.2.1)]),(.sl 2 (List.map aB r.2.2.2.2.1)),(.int .i64 r.2.2.2.2.2)]) []:=by
 unfold qQ at h
 obtain⟨x5,e0,h⟩:=bsm h
 obtain⟨x6,e1,h⟩:=bsm h
 let u1:List Ans:=[.call ⟨true,[]⟩ (.agg [(.int .i64 x5.1),(.sl 2 (List.map aB x5.2.1)),(.bool x5.2.2.1),(.int .i64 x5.2.2.2)]) [],.call ⟨true,[]⟩ (.bool x6) []]
 let w2:List Prf:=[⟨(qW k x5.1 x5.2.1 x5.2.2.1 x5.2.2.2 _ e1)⟩,⟨(oT k x1 x2 x3 x4 _ e0)⟩]
 by_cases c2:x6=true
 · rw[if_pos c2] at h
   by_cases c3:eqI x5.1 1=true
   · rw[if_pos c3] at h
     by_cases c4:x5.2.2.1=true
     · rw[if_pos c4] at h
       obtain rfl:=osi h
       exact Tri.of (x:=X59) aE aD7 (u1++[df,df,dt,A59_0]) ([⟨c4⟩,⟨(nF c3)⟩,⟨(nF c2)⟩]++w2) (by kernel_rfl)
     rw[if_neg c4] at h;replace c4:=eqf c4
     obtain⟨x7,e5,h⟩:=bsm h
     obtain rfl:=osi h
     exact Tri.of (x:=X59) aE aD7 (u1++[df,df,df,.call ⟨true,[]⟩ (.ref 2 0 0 0 x5.2.1.length .virt) [(.arr 2 (List.map aB x5.2.1) 0 0 false)],.rows (List.map aB x5.2.1)]) ([⟨(cH aB (l:=x5.2.1) (n:=x5.2.1.length) rfl)⟩,⟨(eX aB (Nat.le_refl x5.2.1.length):0+x5.2.1.length≤(List.map aB x5.2.1).length)⟩,⟨(gM k x5.2.1 _ e5)⟩,⟨c4⟩,⟨(nF c3)⟩,⟨(nF c2)⟩]++w2) (by kernel_rfl)
   rw[if_neg c3] at h;replace c3:=eqf c3
   obtain rfl:=osi h
   exact Tri.of (x:=X59) aE aD7 (u1++[df,dt,A59_0]) ([⟨(nT c3)⟩,⟨(nF c2)⟩]++w2) (by kernel_rfl)
 rw[if_neg c2] at h;replace c2:=eqf c2
 obtain rfl:=osi h
 exact Tri.of (x:=X59) aE aD7 (u1++[dt,A59_0]) ([⟨(nT c2)⟩]++w2) (by kernel_rfl)
end Go.Ws

namespace Go.Ws
open Go.Proofs
set_option linter.unusedSimpArgs false
set_option linter.unusedVariables false
set_option maxRecDepth 1000000
set_option maxHeartbeats 4000000
theorem uC (k:Nat) (x1:aG) (r:aG) (h:lH k x1=some r):Tri Try.prog 76 [(.sl 2 (List.map aB x1))] [] (.ref 2 0 0 0 r.length .virt) [(.arr 2 (List.map aB r) 0 0 false)]:=opp_tri h
end Go.Ws

namespace Go.Ws
open Go.Proofs
set_option linter.unusedSimpArgs false
set_option linter.unusedVariables false
set_option maxRecDepth 1000000
set_option maxHeartbeats 4000000
noncomputable def X60:Ctx:=⟨Try.f60,[],true⟩
def aB6:Ans:=.norm 0 ⟨[(4,[]),(5,[(0,2)]),(6,[])],[⟨.tmp 4,[],none⟩],false,[],[]⟩
theorem xV (k:Nat) (x1:Int) (x2:aG) (x3:Bool) (x4:Int) (x5:Int) (r:Int × aG × Bool × Int × aG × Int) (h:mW k x1 x2 x3 x4 x5=some r):Tri Try.prog 60 [(.agg [(.int .i64 x1),(.sl 2 (List.map aB x2)),(.bool x3),(.int .i64 x4)]),(.int .i64 x5)] [] (.tup [(.agg [(.int .i64 r.1),(.sl 2 (List.map aB r.2.1)),(.bool r.2.2.1),(.int .i64 r.2.2.2.1)]),(.sl 2 (List.map aB r.2.2.2.2.1)),(.int .i64 r.2.2.2.2.2)]) []:=by
 unfold mW at h
 obtain⟨x6,e0,h⟩:=bsm h
 obtain⟨x7,e1,h⟩:=bsm h
 let u1:List Ans:=[.call ⟨true,[]⟩ (.agg [(.int .i64 x6.1),(.sl 2 (List.map aB x6.2.1)),(.bool x6.2.2.1),(.int .i64 x6.2.2.2)]) [],.call ⟨true,[]⟩ (.bool x7) []]
 let w2:List Prf:=[⟨(qW k x6.1 x6.2.1 x6.2.2.1 x6.2.2.2 _ e1)⟩,⟨(oT k x1 x2 x3 x4 _ e0)⟩]
 by_cases c2:x7=true
 · rw[if_pos c2] at h
   let w4:List Prf:=[⟨(nF c2)⟩,⟨(nF c2)⟩,⟨(nF c2)⟩]++w2
   by_cases c3:eqI x5 1=true
   · rw[if_pos c3] at h
     let u5:List Ans:=u1++[df,df,df,df,df,df,df,df,df]
     let w6:List Prf:=[⟨rF⟩,⟨(nF c2)⟩,⟨(nF c3)⟩,⟨(nF c2)⟩,⟨(nF c3)⟩,⟨(nF c3)⟩]++w4
     by_cases c4:eqI x6.2.2.2 x5=true
     · rw[if_pos c4] at h
       obtain rfl:=osi h
       exact Tri.of (x:=X60) aE nP (u5++[dt,aB6]) ([⟨c4⟩]++w6) (by kernel_rfl)
     rw[if_neg c4] at h;replace c4:=eqf c4
     by_cases c5:eqI x6.1 3=true
     · rw[if_pos c5] at h
       obtain rfl:=osi h
       exact Tri.of (x:=X60) aE nP (u5++[df,dt,dt,dt,dt,dt,dt,aB6]) ([⟨rT⟩,⟨c5⟩,⟨c5⟩,⟨c5⟩,⟨c5⟩,⟨c5⟩,⟨c4⟩]++w6) (by kernel_rfl)
     rw[if_neg c5] at h;replace c5:=eqf c5
     let u9:List Ans:=u5++[df,df,df,df,dt,dt,dt,df,dt,df]
     let w10:List Prf:=[⟨c5⟩,⟨c3⟩,⟨c5⟩,⟨c3⟩,⟨c3⟩,⟨c3⟩,⟨c5⟩,⟨c5⟩,⟨c5⟩,⟨c4⟩]++w6
     by_cases c6:eqI x6.1 1=true
     · rw[if_pos c6] at h
       by_cases c7:eqB (eqI x5 1) x6.2.2.1=true
       · rw[if_pos c7] at h
         obtain rfl:=osi h
         exact Tri.of (x:=X60) aE nP (u9++[df,dt,aB6]) ([⟨c7⟩,⟨(nF c6)⟩]++w10) (by kernel_rfl)
       rw[if_neg c7] at h;replace c7:=eqf c7
       by_cases c8:x6.2.2.1=true
       · rw[if_pos c8] at h
         obtain⟨x8,e9,h⟩:=bsm h
         obtain rfl:=osi h
         exact Tri.of (x:=X60) aE nP (u9++[df,df,dt,.call ⟨true,[]⟩ (.ref 2 0 0 0 x8.length .virt) [(.arr 2 (List.map aB x8) 0 0 false)],.rows (List.map aB x8)]) ([⟨(cH aB (l:=x8) (n:=x8.length) rfl)⟩,⟨(eX aB (Nat.le_refl x8.length):0+x8.length≤(List.map aB x8).length)⟩,⟨(uC k x6.2.1 _ e9)⟩,⟨c8⟩,⟨c7⟩,⟨(nF c6)⟩]++w10) (by kernel_rfl)
       rw[if_neg c8] at h;replace c8:=eqf c8
       obtain⟨x8,e9,h⟩:=bsm h
       obtain rfl:=osi h
       exact Tri.of (x:=X60) aE nP (u9++[df,df,df,.call ⟨true,[]⟩ (.ref 2 0 0 0 x6.2.1.length .virt) [(.arr 2 (List.map aB x6.2.1) 0 0 false)],.rows (List.map aB x6.2.1)]) ([⟨(cH aB (l:=x6.2.1) (n:=x6.2.1.length) rfl)⟩,⟨(eX aB (Nat.le_refl x6.2.1.length):0+x6.2.1.length≤(List.map aB x6.2.1).length)⟩,⟨(gM k x6.2.1 _ e9)⟩,⟨c8⟩,⟨c7⟩,⟨(nF c6)⟩]++w10) (by kernel_rfl)
     rw[if_neg c6] at h;replace c6:=eqf c6
     obtain rfl:=osi h
     exact Tri.of (x:=X60) aE nP (u9++[dt,aB6]) ([⟨(nT c6)⟩]++w10) (by kernel_rfl)
   rw[if_neg c3] at h;replace c3:=eqf c3
   let u15:List Ans:=u1++[df,df,df,dt,dt,df,dt,df]
   let w16:List Prf:=[⟨(nF c2)⟩,⟨(nT c3)⟩,⟨(nF c2)⟩,⟨(nT c3)⟩,⟨(nT c3)⟩]++w4
   by_cases c4:eqI x5 2=true
   · rw[if_pos c4] at h
     by_cases c5:eqI x6.2.2.2 x5=true
     · rw[if_pos c5] at h
       obtain rfl:=osi h
       exact Tri.of (x:=X60) aE nP (u15++[df,dt,aB6]) ([⟨c5⟩,⟨(nF c4)⟩]++w16) (by kernel_rfl)
     rw[if_neg c5] at h;replace c5:=eqf c5
     by_cases c6:eqI x6.1 3=true
     · rw[if_pos c6] at h
       obtain rfl:=osi h
       exact Tri.of (x:=X60) aE nP (u15++[df,df,dt,dt,dt,dt,dt,dt,aB6]) ([⟨rT⟩,⟨c6⟩,⟨c6⟩,⟨c6⟩,⟨c6⟩,⟨c6⟩,⟨c5⟩,⟨(nF c4)⟩]++w16) (by kernel_rfl)
     rw[if_neg c6] at h;replace c6:=eqf c6
     let u21:List Ans:=u15++[df,df,df,df,df,df,df,df,df,df,df,df]
     let w22:List Prf:=[⟨rF⟩,⟨c6⟩,⟨c3⟩,⟨c6⟩,⟨c3⟩,⟨c3⟩,⟨c3⟩,⟨c6⟩,⟨c6⟩,⟨c6⟩,⟨c5⟩,⟨(nF c4)⟩]++w16
     by_cases c7:eqB (eqI x5 1) x6.2.2.1=true
     · rw[if_pos c7] at h
       obtain rfl:=osi h
       exact Tri.of (x:=X60) aE nP (u21++[dt,aB6]) ([⟨c7⟩]++w22) (by kernel_rfl)
     rw[if_neg c7] at h;replace c7:=eqf c7
     by_cases c8:x6.2.2.1=true
     · rw[if_pos c8] at h
       obtain⟨x8,e9,h⟩:=bsm h
       obtain rfl:=osi h
       exact Tri.of (x:=X60) aE nP (u21++[df,dt,.call ⟨true,[]⟩ (.ref 2 0 0 0 x8.length .virt) [(.arr 2 (List.map aB x8) 0 0 false)],.rows (List.map aB x8)]) ([⟨(cH aB (l:=x8) (n:=x8.length) rfl)⟩,⟨(eX aB (Nat.le_refl x8.length):0+x8.length≤(List.map aB x8).length)⟩,⟨(uC k x6.2.1 _ e9)⟩,⟨c8⟩,⟨c7⟩]++w22) (by kernel_rfl)
     rw[if_neg c8] at h;replace c8:=eqf c8
     obtain⟨x8,e9,h⟩:=bsm h
     obtain rfl:=osi h
     exact Tri.of (x:=X60) aE nP (u21++[df,df,.call ⟨true,[]⟩ (.ref 2 0 0 0 x6.2.1.length .virt) [(.arr 2 (List.map aB x6.2.1) 0 0 false)],.rows (List.map aB x6.2.1)]) ([⟨(cH aB (l:=x6.2.1) (n:=x6.2.1.length) rfl)⟩,⟨(eX aB (Nat.le_refl x6.2.1.length):0+x6.2.1.length≤(List.map aB x6.2.1).length)⟩,⟨(gM k x6.2.1 _ e9)⟩,⟨c8⟩,⟨c7⟩]++w22) (by kernel_rfl)
   rw[if_neg c4] at h;replace c4:=eqf c4
   obtain rfl:=osi h
   exact Tri.of (x:=X60) aE nP (u15++[dt,aB6]) ([⟨(nT c4)⟩]++w16) (by kernel_rfl)
 rw[if_neg c2] at h;replace c2:=eqf c2
 obtain rfl:=osi h
 exact Tri.of (x:=X60) aE nP (u1++[dt,dt,dt,dt,dt,dt,aB6]) ([⟨rT⟩,⟨(nT c2)⟩,⟨(nT c2)⟩,⟨(nT c2)⟩,⟨(nT c2)⟩,⟨(nT c2)⟩]++w2) (by kernel_rfl)
end Go.Ws

namespace Go.Ws
open Go.Proofs
set_option linter.unusedSimpArgs false
set_option linter.unusedVariables false
set_option maxRecDepth 1000000
set_option maxHeartbeats 4000000
noncomputable def X33_3 (x1:aG) (x2:Ty8) (x3:Ty2) (x4:Ty7):Ctx:=⟨Try.f33,[(.row [(.sl 2 (List.map aB x1)),(.sl 3 (List.map aD x2)),(.mp 1),(.ref 4 2 0 0 x4.length .virt)]),(.map (bK .i64 (fun y=>AV.agg (aC y)) x3) x3.length),(.arr 4 (List.map aA x4) 0 0 false)],false⟩
theorem sE (x1:aG) (x2:Ty8) (x3:Ty2) (x4:Ty7):Tri Try.prog 33 [(.hp 0 0)] [(.row [(.sl 2 (List.map aB x1)),(.sl 3 (List.map aD x2)),(.mp 1),(.ref 4 2 0 0 x4.length .virt)]),(.map (bK .i64 (fun y=>AV.agg (aC y)) x3) x3.length),(.arr 4 (List.map aA x4) 0 0 false)] (.bool (!false)) [(.row [(.sl 2 (List.map aB x1)),(.sl 3 (List.map aD x2)),(.mp 1),(.ref 4 2 0 0 x4.length .virt)]),(.map (bK .i64 (fun y=>AV.agg (aC y)) x3) x3.length),(.arr 4 (List.map aA x4) 0 0 false)]:=by
 obtain⟨r,h⟩:∃r,qN x1 x2 x3 x4=r:=⟨_,rfl⟩
 try rw[h]
 unfold qN at h
 obtain rfl:=h
 exact Tri.of (x:=(X33_3 x1 x2 x3 x4)) aE aM2 [dt,dt,dt,dt,dt,dt,.norm 0 ⟨[(2,[])],[],false,[],[]⟩] [⟨(nT rfl)⟩,⟨(nT rfl)⟩,⟨(nT rfl)⟩,⟨(nT rfl)⟩,⟨(nT rfl)⟩,⟨(nT rfl)⟩] (by kernel_rfl)
end Go.Ws

namespace Go.Ws
open Go.Proofs
set_option linter.unusedSimpArgs false
set_option linter.unusedVariables false
set_option maxRecDepth 1000000
set_option maxHeartbeats 4000000
noncomputable def aFU (x9:aG) (x10:Ty8) (x11:Ty2) (x12:Ty7):Ctx:=⟨Try.f47,[(.row [(.sl 2 (List.map aB x9)),(.sl 3 (List.map aD x10)),(.mp 1),(.ref 4 2 0 0 x12.length .virt)]),(.map (bK .i64 (fun y=>AV.agg (aC y)) x11) x11.length),(.arr 4 (List.map aA x12) 0 0 false)],false⟩
noncomputable def L47_3_0:Code:=at_ Try.f47 [1,1,1,1,1,1,1,0,1,4,5]
def S47_3_0 (x2:aG) (x5:Int) (x6:Int) (x7:Int) (x8:Int) (x9:aG) (x11:Ty2) (x12:Ty7) (x13:Ty8 × Int) (cK:Int) (b5:Int):St:=⟨mkT 92 [(5,(.hp 3 0)),(10,(.int .i64 cK)),(75,(.sl 2 (List.map aB x2))),(76,(.int .i64 (nI x2.length))),(77,(.int .i64 b5))],[(.row [(.sl 2 (List.map aB x9)),(.sl 3 (List.map aD x13.1)),(.mp 1),(.ref 4 2 0 0 x12.length .virt)]),(.map (bK .i64 (fun y=>AV.agg (aC y)) x11) x11.length),(.arr 4 (List.map aA x12) 0 0 false),(.row [(.int .i64 x5),(.int .i64 x6),(.int .u8 x7),(.int .i64 x8)])]⟩
def aDB (x9:aG) (x11:Ty2) (x12:Ty7) (x13:Ty8 × Int) (aPY:Int):St:=⟨mkT 92 [(10,(.int .i64 aPY))],[(.row [(.sl 2 (List.map aB x9)),(.sl 3 (List.map aD x13.1)),(.mp 1),(.ref 4 2 0 0 x12.length .virt)]),(.map (bK .i64 (fun y=>AV.agg (aC y)) x11) x11.length),(.arr 4 (List.map aA x12) 0 0 false)]⟩
def O47_3_0 (x2:aG) (x5:Int) (x6:Int) (x7:Int) (x8:Int) (x9:aG) (x10:Ty8) (x11:Ty2) (x12:Ty7) (x13:Ty8 × Int) (y:(Int)):GX:=.st (.exit 0) (aDB x9 x11 x12 x13 y)
def aIX (x13:Ty8 × Int):Ans:=.call ⟨true,[]⟩ (.tup [(.sl 3 (List.map aD x13.1)),(.int .i64 x13.2)]) []
def zA:Ans:=.norm 0 ⟨[(6,[]),(7,[])],[],false,[],[]⟩
theorem kN (x2:aG) (x5:Int) (x6:Int) (x7:Int) (x8:Int) (x9:aG) (x10:Ty8) (x11:Ty2) (x12:Ty7) (x13:Ty8 × Int) (y:(Int)):∀(k:Nat) (cK:Int) (b5:Int),bI k x2 x5 x6 x7 x8 x9 x10 x11 x12 x13 cK b5=some y→LT Try.prog (aFU x9 x10 x11 x12) L47_3_0 (S47_3_0 x2 x5 x6 x7 x8 x9 x11 x12 x13 cK b5) (O47_3_0 x2 x5 x6 x7 x8 x9 x10 x11 x12 x13 y)
 | 0,cK,b5,h=>by cases h
 | k+1,cK,b5,h=>by
  rw[bI] at h
  by_cases cL0:ltI b5 (nI x2.length)=true
  · rw[if_pos cL0] at h
    by_cases cL1:inI b5 x2.length=true
    · rw[if_pos cL1] at h
      obtain⟨mP,eL2,h⟩:=bsm h
      let u1:List Ans:=[dt,.n x2.length,.row [(.int .u8 mP.1),(.int .i64 mP.2)]]
      let w2:List Prf:=[⟨(cE (e:=aB) eL2 2 0 2 (by decide))⟩,⟨cL1⟩,⟨(aU aB x2)⟩,⟨cL0⟩]
      by_cases cL3:eqI mP.1 x7=true
      · rw[if_pos cL3] at h
        exact LT.next aE (hs:=⟨[(5,[]),(10,[]),(75,[]),(76,[]),(77,[])],[⟨.tmp 5,[],none⟩],false,[],[]⟩) (es:=none) (u1++[dt]) ([⟨cL3⟩]++w2) (by kernel_rfl) (kN x2 x5 x6 x7 x8 x9 x10 x11 x12 x13 y k (aH .i64 cK mP.2) (aH .i64 b5 1) h)
      rw[if_neg cL3] at h;replace cL3:=eqf cL3
      exact LT.next aE (hs:=⟨[(5,[]),(10,[]),(75,[]),(76,[]),(77,[])],[⟨.tmp 5,[],none⟩],false,[],[]⟩) (es:=none) (u1++[df]) ([⟨cL3⟩]++w2) (by kernel_rfl) (kN x2 x5 x6 x7 x8 x9 x10 x11 x12 x13 y k cK (aH .i64 b5 1) h)
    rw[if_neg cL1] at h;replace cL1:=eqf cL1
    cases h
  rw[if_neg cL0] at h;replace cL0:=eqf cL0
  obtain rfl:=osi h
  show LT _ _ _ _ (.st (.exit 0) (aDB x9 x11 x12 x13 cK))
  exact LT.done aE (hs:=⟨[],[],false,[],[]⟩) (es:=(some ⟨[(10,[])],[],false,[],[]⟩)) [df] [⟨cL0⟩] (by kernel_rfl) (fun s h=>by cases h)
theorem qD (k:Nat) (x1:Int) (x2:aG) (x3:Bool) (x4:Int) (x5:Int) (x6:Int) (x7:Int) (x8:Int) (x9:aG) (x10:Ty8) (x11:Ty2) (x12:Ty7) (r:Ty8 × Ty2 × Int × Int) (h:gK k x1 x2 x3 x4 x5 x6 x7 x8 x9 x10 x11 x12=some r):Tri Try.prog 47 [(.hp 0 0),(.agg [(.int .i64 x1),(.sl 2 (List.map aB x2)),(.bool x3),(.int .i64 x4)]),(.agg [(.int .i64 x5),(.int .i64 x6),(.int .u8 x7),(.int .i64 x8)])] [(.row [(.sl 2 (List.map aB x9)),(.sl 3 (List.map aD x10)),(.mp 1),(.ref 4 2 0 0 x12.length .virt)]),(.map (bK .i64 (fun y=>AV.agg (aC y)) x11) x11.length),(.arr 4 (List.map aA x12) 0 0 false)] (.tup [(.int .i64 r.2.2.2),(.int .i64 r.2.2.1)]) [(.row [(.sl 2 (List.map aB x9)),(.sl 3 (List.map aD r.1)),(.mp 1),(.ref 4 2 0 0 x12.length .virt)]),(.map (bK .i64 (fun y=>AV.agg (aC y)) r.2.1) r.2.1.length),(.arr 4 (List.map aA x12) 0 0 false)]:=by
 unfold gK at h
 by_cases c0:eqI x1 0=true
 · rw[if_pos c0] at h
   obtain⟨x13,e1,h⟩:=bsm h
   let w4:List Prf:=[⟨(aHT k x10 x6 x7 (eqI x5 3) _ e1)⟩,⟨(nF c0)⟩]
   by_cases c2:eqI x13.2 0=true
   · rw[if_pos c2] at h
     by_cases c3:eqI x5 3=true
     · rw[if_pos c3] at h
       obtain⟨x14,e4,h⟩:=bsm h
       let u7:List Ans:=[df,(aIX x13),df,dt,.call ⟨true,[]⟩ (.tup [(.agg [(.int .i64 x14.1),(.sl 2 (List.map aB x14.2.1)),(.bool x14.2.2.1),(.int .i64 x14.2.2.2.1)]),(.int .i64 x14.2.2.2.2)]) []]
       let w8:List Prf:=[⟨(aJS k x1 x2 x3 x4 x7 x8 _ e4)⟩,⟨c3⟩,⟨(nF c2)⟩]++w4
       by_cases c5:eqI x14.2.2.2.2 0=true
       · rw[if_pos c5] at h
         by_cases c6:kS x11 x6=true
         · rw[if_pos c6] at h
           obtain⟨x15,e7,h⟩:=bsm h
           obtain rfl:=osi h
           exact Tri.of (x:=(aFU x9 x10 x11 x12)) aE y9 (u7++[df,.opt (some (.agg [(.int .i64 x15.1),(.sl 2 (List.map aB x15.2.1)),(.bool x15.2.2.1),(.int .i64 x15.2.2.2)])),.n (mIx x11 x6),.ents (bK .i64 (fun y=>AV.agg (aC y)) x11) x11.length,.ents (bK .i64 (fun y=>AV.agg (aC y)) (aZ x11 x6 (x14.1,x14.2.1,x14.2.2.1,x14.2.2.2.1))) (aZ x11 x6 (x14.1,x14.2.1,x14.2.2.1,x14.2.2.2.1)).length,zA]) ([⟨(aOD .i64 (fun y=>AV.agg (aC y)) e7 (x14.1,x14.2.1,x14.2.2.1,x14.2.2.2.1))⟩,⟨(ent_some .i64 (fun y=>AV.agg (aC y)) e7 (.agg [(.int .i64 0),(.sl 2 (List.map aB [])),(.bool false),(.int .i64 0)]))⟩,⟨(aMZ .i64 (fun y=>AV.agg (aC y)) x11 x6)⟩,⟨(gS .i64 (fun y=>AV.agg (aC y)) e7)⟩,⟨(nF c5)⟩]++w8) (by kernel_rfl)
         rw[if_neg c6] at h;replace c6:=eqf c6
         obtain rfl:=osi h
         exact Tri.of (x:=(aFU x9 x10 x11 x12)) aE y9 (u7++[df,.opt none,.n (mIx x11 x6),.ents (bK .i64 (fun y=>AV.agg (aC y)) (aZ x11 x6 (0,[],false,0))) (aZ x11 x6 (0,[],false,0)).length,.ents (bK .i64 (fun y=>AV.agg (aC y)) (aZ x11 x6 (x14.1,x14.2.1,x14.2.2.1,x14.2.2.2.1))) (aZ x11 x6 (x14.1,x14.2.1,x14.2.2.1,x14.2.2.2.1)).length,zA]) ([⟨(sb_none .i64 (fun y=>AV.agg (aC y)) (l:=x11) (q:=x6) (0,[],false,0) (x14.1,x14.2.1,x14.2.2.1,x14.2.2.2.1))⟩,⟨(ent_none .i64 (fun y=>AV.agg (aC y)) c6 (0,[],false,0))⟩,⟨(aMZ .i64 (fun y=>AV.agg (aC y)) x11 x6)⟩,⟨(jI .i64 (fun y=>AV.agg (aC y)) c6)⟩,⟨(nF c5)⟩]++w8) (by kernel_rfl)
       rw[if_neg c5] at h;replace c5:=eqf c5
       obtain rfl:=osi h
       exact Tri.of (x:=(aFU x9 x10 x11 x12)) aE y9 (u7++[dt,zA]) ([⟨(nT c5)⟩]++w8) (by kernel_rfl)
     rw[if_neg c3] at h;replace c3:=eqf c3
     obtain⟨x14,e4,h⟩:=bsm h
     obtain⟨x16,e5,h⟩:=bsm h
     obtain rfl:=osi h
     exact Tri.of (x:=(aFU x9 x10 x11 x12)) aE y9 [df,(aIX x13),df,df,.call ⟨true,[]⟩ (.int .i64 x14) [],.n x2.length,.norm 2 ⟨[(5,[]),(10,[]),(75,[]),(76,[]),(77,[])],[⟨.tmp 5,[],none⟩],false,[],[]⟩,.out (.st .normal (aDB x9 x11 x12 x13 x16)),zA] ([⟨(LT.block (kN x2 x5 x6 x7 x8 x9 x10 x11 x12 x13 _ k x14 0 e5))⟩,⟨(aU aB x2)⟩,⟨(zU k x9 x7 _ e4)⟩,⟨c3⟩,⟨(nF c2)⟩]++w4) (by kernel_rfl)
   rw[if_neg c2] at h;replace c2:=eqf c2
   obtain rfl:=osi h
   exact Tri.of (x:=(aFU x9 x10 x11 x12)) aE y9 [df,(aIX x13),dt,zA] ([⟨(nT c2)⟩]++w4) (by kernel_rfl)
 rw[if_neg c0] at h;replace c0:=eqf c0
 obtain rfl:=osi h
 exact Tri.of (x:=(aFU x9 x10 x11 x12)) aE y9 [dt,zA] [⟨(nT c0)⟩] (by kernel_rfl)
end Go.Ws

namespace Go.Ws
open Go.Proofs
set_option linter.unusedSimpArgs false
set_option linter.unusedVariables false
set_option maxRecDepth 1000000
set_option maxHeartbeats 4000000
noncomputable def zX (x9:aG) (x10:Ty8) (x11:Ty2) (x12:Ty7):Ctx:=⟨Try.f48,[(.row [(.sl 2 (List.map aB x9)),(.sl 3 (List.map aD x10)),(.mp 1),(.ref 4 2 0 0 x12.length .virt)]),(.map (bK .i64 (fun y=>AV.agg (aC y)) x11) x11.length),(.arr 4 (List.map aA x12) 0 0 false)],false⟩
def aN1 (x13:Int × aG × Bool × Int × Int):Ans:=.call ⟨true,[]⟩ (.tup [(.agg [(.int .i64 x13.1),(.sl 2 (List.map aB x13.2.1)),(.bool x13.2.2.1),(.int .i64 x13.2.2.2.1)]),(.int .i64 x13.2.2.2.2)]) []
def aEJ (x15:Ty8):Ans:=.call ⟨true,[]⟩ (.sl 3 (List.map aD x15)) []
def aEM (x13:Int × aG × Bool × Int × aG × Int):Ans:=.call ⟨true,[]⟩ (.tup [(.agg [(.int .i64 x13.1),(.sl 2 (List.map aB x13.2.1)),(.bool x13.2.2.1),(.int .i64 x13.2.2.2.1)]),(.sl 2 (List.map aB x13.2.2.2.2.1)),(.int .i64 x13.2.2.2.2.2)]) []
def aI1 (x6:Int) (x11:Ty2) (x13:Int × aG × Bool × Int × aG × Int):Ans:=.ents (bK .i64 (fun y=>AV.agg (aC y)) (aZ x11 x6 (x13.1,x13.2.1,x13.2.2.1,x13.2.2.2.1))) (aZ x11 x6 (x13.1,x13.2.1,x13.2.2.1,x13.2.2.2.1)).length
def aHX (x14:aG × Int):Ans:=.call ⟨true,[]⟩ (.tup [(.sl 2 (List.map aB x14.1)),(.int .i64 x14.2)]) []
theorem z7 (k:Nat) (x1:Int) (x2:aG) (x3:Bool) (x4:Int) (x5:Int) (x6:Int) (x7:Int) (x8:Int) (x9:aG) (x10:Ty8) (x11:Ty2) (x12:Ty7) (r:aG × Ty8 × Ty2 × Int) (h:j1 k x1 x2 x3 x4 x5 x6 x7 x8 x9 x10 x11 x12=some r):Tri Try.prog 48 [(.hp 0 0),(.agg [(.int .i64 x1),(.sl 2 (List.map aB x2)),(.bool x3),(.int .i64 x4)]),(.agg [(.int .i64 x5),(.int .i64 x6),(.int .u8 x7),(.int .i64 x8)])] [(.row [(.sl 2 (List.map aB x9)),(.sl 3 (List.map aD x10)),(.mp 1),(.ref 4 2 0 0 x12.length .virt)]),(.map (bK .i64 (fun y=>AV.agg (aC y)) x11) x11.length),(.arr 4 (List.map aA x12) 0 0 false)] (.int .i64 r.2.2.2) [(.row [(.sl 2 (List.map aB r.1)),(.sl 3 (List.map aD r.2.1)),(.mp 1),(.ref 4 2 0 0 x12.length .virt)]),(.map (bK .i64 (fun y=>AV.agg (aC y)) r.2.2.1) r.2.2.1.length),(.arr 4 (List.map aA x12) 0 0 false)]:=by
 unfold j1 at h
 by_cases c0:eqI x5 4=true
 · rw[if_pos c0] at h
   obtain⟨x13,e1,h⟩:=bsm h
   let w2:List Prf:=[⟨(aI3 k x1 x2 x3 x4 (!eqI x8 0) _ e1)⟩,⟨c0⟩]
   by_cases c2:eqI x13.2.2.2.2 0=true
   · rw[if_pos c2] at h
     obtain⟨x14,e3,h⟩:=bsm h
     let u3:List Ans:=[dt,(aN1 x13),df,.ents (bK .i64 (fun y=>AV.agg (aC y)) (aZ x11 x6 (x13.1,x13.2.1,x13.2.2.1,x13.2.2.2.1))) (aZ x11 x6 (x13.1,x13.2.1,x13.2.2.1,x13.2.2.2.1)).length,.call ⟨true,[[],[(0,2)]]⟩ (.tup [(.sl 2 (List.map aB x14.1)),(.int .i64 x14.2)]) [],df,df,df,df]
     let w4:List Prf:=[⟨(nF c0)⟩,⟨(nF c0)⟩,⟨(nF c0)⟩,⟨(nF c0)⟩,⟨(oE k x9 [] _ e3)⟩,⟨(lR .i64 (fun y=>AV.agg (aC y)) x11 x6 (x13.1,x13.2.1,x13.2.2.1,x13.2.2.2.1))⟩,⟨(nF c2)⟩]++w2
     by_cases c4:eqI x13.1 2=true
     · rw[if_pos c4] at h
       obtain⟨x15,e5,h⟩:=bsm h
       obtain rfl:=osi h
       exact Tri.of (x:=(zX x9 x10 x11 x12)) aE q9 (u3++[dt,(aEJ x15),.norm 0 ⟨[(6,[])],[],false,[],[]⟩]) ([⟨(sG k x10 x6 _ e5)⟩,⟨c4⟩]++w4) (by kernel_rfl)
     rw[if_neg c4] at h;replace c4:=eqf c4
     obtain rfl:=osi h
     exact Tri.of (x:=(zX x9 x10 x11 x12)) aE q9 (u3++[df,.norm 0 ⟨[(6,[])],[],false,[],[]⟩]) ([⟨c4⟩]++w4) (by kernel_rfl)
   rw[if_neg c2] at h;replace c2:=eqf c2
   obtain rfl:=osi h
   exact Tri.of (x:=(zX x9 x10 x11 x12)) aE q9 [dt,(aN1 x13),dt,.norm 0 ⟨[(6,[])],[],false,[],[]⟩] ([⟨(nT c2)⟩]++w2) (by kernel_rfl)
 rw[if_neg c0] at h;replace c0:=eqf c0
 by_cases c1:eqI x5 5=true
 · rw[if_pos c1] at h
   obtain⟨x13,e2,h⟩:=bsm h
   let w8:List Prf:=[⟨(aGJ k x1 x2 x3 x4 _ e2)⟩,⟨c1⟩,⟨c0⟩]
   by_cases c3:eqI x13.2.2.2.2.2 0=true
   · rw[if_pos c3] at h
     obtain⟨x14,e4,h⟩:=bsm h
     obtain⟨x15,e5,h⟩:=bsm h
     obtain rfl:=osi h
     exact Tri.of (x:=(zX x9 x10 x11 x12)) aE q9 [df,dt,(aEM x13),df,(aI1 x6 x11 x13),(aHX x14),dt,dt,dt,dt,dt,(aEJ x15),.norm 0 ⟨[(6,[])],[],false,[],[]⟩] ([⟨(sG k x10 x6 _ e5)⟩,⟨rT⟩,⟨(nT c0)⟩,⟨(nT c0)⟩,⟨(nT c0)⟩,⟨(nT c0)⟩,⟨(oE k x9 x13.2.2.2.2.1 _ e4)⟩,⟨(lR .i64 (fun y=>AV.agg (aC y)) x11 x6 (x13.1,x13.2.1,x13.2.2.1,x13.2.2.2.1))⟩,⟨(nF c3)⟩]++w8) (by kernel_rfl)
   rw[if_neg c3] at h;replace c3:=eqf c3
   obtain rfl:=osi h
   exact Tri.of (x:=(zX x9 x10 x11 x12)) aE q9 [df,dt,(aEM x13),dt,.norm 0 ⟨[(6,[])],[],false,[],[]⟩] ([⟨(nT c3)⟩]++w8) (by kernel_rfl)
 rw[if_neg c1] at h;replace c1:=eqf c1
 by_cases c2:eqI x8 1=true
 · rw[if_pos c2] at h
   obtain⟨x13,e3,h⟩:=bsm h
   let u11:List Ans:=[df,df,dt,dt,dt,dt,dt,(aEM x13)]
   let w12:List Prf:=[⟨(xV k x1 x2 x3 x4 x8 _ e3)⟩,⟨rT⟩,⟨c2⟩,⟨c2⟩,⟨c2⟩,⟨c2⟩,⟨c1⟩,⟨c0⟩]
   by_cases c4:eqI x13.2.2.2.2.2 0=true
   · rw[if_pos c4] at h
     obtain⟨x14,e5,h⟩:=bsm h
     obtain⟨x15,e6,h⟩:=bsm h
     obtain rfl:=osi h
     exact Tri.of (x:=(zX x9 x10 x11 x12)) aE q9 (u11++[df,(aI1 x6 x11 x13),(aHX x14),dt,dt,dt,dt,dt,(aEJ x15),.norm 0 ⟨[(6,[])],[],false,[],[]⟩]) ([⟨(sG k x10 x6 _ e6)⟩,⟨rT⟩,⟨(nT c0)⟩,⟨(nT c0)⟩,⟨(nT c0)⟩,⟨(nT c0)⟩,⟨(oE k x9 x13.2.2.2.2.1 _ e5)⟩,⟨(lR .i64 (fun y=>AV.agg (aC y)) x11 x6 (x13.1,x13.2.1,x13.2.2.1,x13.2.2.2.1))⟩,⟨(nF c4)⟩]++w12) (by kernel_rfl)
   rw[if_neg c4] at h;replace c4:=eqf c4
   obtain rfl:=osi h
   exact Tri.of (x:=(zX x9 x10 x11 x12)) aE q9 (u11++[dt,.norm 0 ⟨[(6,[])],[],false,[],[]⟩]) ([⟨(nT c4)⟩]++w12) (by kernel_rfl)
 rw[if_neg c2] at h;replace c2:=eqf c2
 let w14:List Prf:=[⟨c2⟩,⟨c2⟩,⟨c2⟩,⟨c2⟩,⟨c1⟩,⟨c0⟩]
 by_cases c3:eqI x8 2=true
 · rw[if_pos c3] at h
   obtain⟨x13,e4,h⟩:=bsm h
   let u15:List Ans:=[df,df,df,df,df,df,dt,(aEM x13)]
   let w16:List Prf:=[⟨(xV k x1 x2 x3 x4 x8 _ e4)⟩,⟨c3⟩]++w14
   by_cases c5:eqI x13.2.2.2.2.2 0=true
   · rw[if_pos c5] at h
     obtain⟨x14,e6,h⟩:=bsm h
     obtain⟨x15,e7,h⟩:=bsm h
     obtain rfl:=osi h
     exact Tri.of (x:=(zX x9 x10 x11 x12)) aE q9 (u15++[df,(aI1 x6 x11 x13),(aHX x14),dt,dt,dt,dt,dt,(aEJ x15),.norm 0 ⟨[(6,[])],[],false,[],[]⟩]) ([⟨(sG k x10 x6 _ e7)⟩,⟨rT⟩,⟨(nT c0)⟩,⟨(nT c0)⟩,⟨(nT c0)⟩,⟨(nT c0)⟩,⟨(oE k x9 x13.2.2.2.2.1 _ e6)⟩,⟨(lR .i64 (fun y=>AV.agg (aC y)) x11 x6 (x13.1,x13.2.1,x13.2.2.1,x13.2.2.2.1))⟩,⟨(nF c5)⟩]++w16) (by kernel_rfl)
   rw[if_neg c5] at h;replace c5:=eqf c5
   obtain rfl:=osi h
   exact Tri.of (x:=(zX x9 x10 x11 x12)) aE q9 (u15++[dt,.norm 0 ⟨[(6,[])],[],false,[],[]⟩]) ([⟨(nT c5)⟩]++w16) (by kernel_rfl)
 rw[if_neg c3] at h;replace c3:=eqf c3
 obtain rfl:=osi h
 exact Tri.of (x:=(zX x9 x10 x11 x12)) aE q9 [df,df,df,df,df,df,df,dt,.norm 0 ⟨[(6,[])],[],false,[],[]⟩] ([⟨(nT (rfl:eqI 2 0=false))⟩,⟨c3⟩]++w14) (by kernel_rfl)
end Go.Ws

namespace Go.Ws
open Go.Proofs
set_option linter.unusedSimpArgs false
set_option linter.unusedVariables false
set_option maxRecDepth 1000000
set_option maxHeartbeats 4000000
noncomputable def X34_3 (x9:aG) (x10:Ty8) (x11:Ty2) (x12:Ty7):Ctx:=⟨Try.f34,[(.row [(.sl 2 (List.map aB x9)),(.sl 3 (List.map aD x10)),(.mp 1),(.ref 4 2 0 0 x12.length .virt)]),(.map (bK .i64 (fun y=>AV.agg (aC y)) x11) x11.length),(.arr 4 (List.map aA x12) 0 0 false)],false⟩
def aEG:Ans:=.norm 0 ⟨[(6,[]),(7,[])],[],false,[],[]⟩
def aNN (x9:aG) (x12:Ty7) (x13:Ty8 × Ty2 × Int × Int):Ans:=.call ⟨true,[]⟩ (.tup [(.int .i64 x13.2.2.2),(.int .i64 x13.2.2.1)]) [(.row [(.sl 2 (List.map aB x9)),(.sl 3 (List.map aD x13.1)),(.mp 1),(.ref 4 2 0 0 x12.length .virt)]),(.map (bK .i64 (fun y=>AV.agg (aC y)) x13.2.1) x13.2.1.length),(.arr 4 (List.map aA x12) 0 0 false)]
theorem r9 (k:Nat) (x1:Int) (x2:aG) (x3:Bool) (x4:Int) (x5:Int) (x6:Int) (x7:Int) (x8:Int) (x9:aG) (x10:Ty8) (x11:Ty2) (x12:Ty7) (r:Int × Int × Ty8 × Ty2 × aG) (h:iG k x1 x2 x3 x4 x5 x6 x7 x8 x9 x10 x11 x12=some r):Tri Try.prog 34 [(.hp 0 0),(.agg [(.int .i64 x1),(.sl 2 (List.map aB x2)),(.bool x3),(.int .i64 x4)]),(.agg [(.int .i64 x5),(.int .i64 x6),(.int .u8 x7),(.int .i64 x8)])] [(.row [(.sl 2 (List.map aB x9)),(.sl 3 (List.map aD x10)),(.mp 1),(.ref 4 2 0 0 x12.length .virt)]),(.map (bK .i64 (fun y=>AV.agg (aC y)) x11) x11.length),(.arr 4 (List.map aA x12) 0 0 false)] (.tup [(.int .i64 r.1),(.int .i64 r.2.1)]) [(.row [(.sl 2 (List.map aB r.2.2.2.2)),(.sl 3 (List.map aD r.2.2.1)),(.mp 1),(.ref 4 2 0 0 x12.length .virt)]),(.map (bK .i64 (fun y=>AV.agg (aC y)) r.2.2.2.1) r.2.2.2.1.length),(.arr 4 (List.map aA x12) 0 0 false)]:=by
 unfold iG at h
 by_cases c0:eqI x5 1=true
 · rw[if_pos c0] at h
   obtain rfl:=osi h
   exact Tri.of (x:=(X34_3 x9 x10 x11 x12)) aE aEI [dt,.ents (bK .i64 (fun y=>AV.agg (aC y)) (aZ x11 x6 (x1,x2,x3,x4))) (aZ x11 x6 (x1,x2,x3,x4)).length,aEG] [⟨(lR .i64 (fun y=>AV.agg (aC y)) x11 x6 (x1,x2,x3,x4))⟩,⟨c0⟩] (by kernel_rfl)
 rw[if_neg c0] at h;replace c0:=eqf c0
 by_cases c1:eqI x5 2=true
 · rw[if_pos c1] at h
   obtain⟨x13,e2,h⟩:=bsm h
   obtain rfl:=osi h
   exact Tri.of (x:=(X34_3 x9 x10 x11 x12)) aE aEI [df,dt,dt,(aNN x9 x12 x13),aEG] [⟨(qD k x1 x2 x3 x4 x5 x6 x7 x8 x9 x10 x11 x12 _ e2)⟩,⟨c1⟩,⟨c1⟩,⟨c0⟩] (by kernel_rfl)
 rw[if_neg c1] at h;replace c1:=eqf c1
 by_cases c2:eqI x5 3=true
 · rw[if_pos c2] at h
   obtain⟨x13,e3,h⟩:=bsm h
   obtain rfl:=osi h
   exact Tri.of (x:=(X34_3 x9 x10 x11 x12)) aE aEI [df,df,dt,(aNN x9 x12 x13),aEG] [⟨(qD k x1 x2 x3 x4 x5 x6 x7 x8 x9 x10 x11 x12 _ e3)⟩,⟨c2⟩,⟨c1⟩,⟨c0⟩] (by kernel_rfl)
 rw[if_neg c2] at h;replace c2:=eqf c2
 obtain⟨x13,e3,h⟩:=bsm h
 obtain rfl:=osi h
 exact Tri.of (x:=(X34_3 x9 x10 x11 x12)) aE aEI [df,df,df,.call ⟨true,[]⟩ (.int .i64 x13.2.2.2) [(.row [(.sl 2 (List.map aB x13.1)),(.sl 3 (List.map aD x13.2.1)),(.mp 1),(.ref 4 2 0 0 x12.length .virt)]),(.map (bK .i64 (fun y=>AV.agg (aC y)) x13.2.2.1) x13.2.2.1.length),(.arr 4 (List.map aA x12) 0 0 false)],aEG] [⟨(z7 k x1 x2 x3 x4 x5 x6 x7 x8 x9 x10 x11 x12 _ e3)⟩,⟨c2⟩,⟨c1⟩,⟨c0⟩] (by kernel_rfl)
end Go.Ws

namespace Go.Ws
open Go.Proofs
set_option linter.unusedSimpArgs false
set_option linter.unusedVariables false
set_option maxRecDepth 1000000
set_option maxHeartbeats 4000000
noncomputable def zR (x5:aG) (x6:Ty8) (x7:Ty2) (x8:Ty7):Ctx:=⟨Try.f21,[(.row [(.sl 2 (List.map aB x5)),(.sl 3 (List.map aD x6)),(.mp 1),(.ref 4 2 0 0 x8.length .virt)]),(.map (bK .i64 (fun y=>AV.agg (aC y)) x7) x7.length),(.arr 4 (List.map aA x8) 0 0 false)],false⟩
def aNK (x5:aG) (x6:Ty8) (x7:Ty2) (x8:Ty7):Ans:=.call ⟨true,[]⟩ (.bool (!false)) [(.row [(.sl 2 (List.map aB x5)),(.sl 3 (List.map aD x6)),(.mp 1),(.ref 4 2 0 0 x8.length .virt)]),(.map (bK .i64 (fun y=>AV.agg (aC y)) x7) x7.length),(.arr 4 (List.map aA x8) 0 0 false)]
def qT:Ans:=.norm 0 ⟨[(4,[]),(5,[])],[],false,[],[none,none,some 1]⟩
theorem tY (k:Nat) (x1:Int) (x2:Int) (x3:Int) (x4:Int) (x5:aG) (x6:Ty8) (x7:Ty2) (x8:Ty7) (r:Int × Int × aG × Ty8 × Ty2 × Ty7) (h:jN k x1 x2 x3 x4 x5 x6 x7 x8=some r):Tri Try.prog 21 [(.hp 0 0),(.agg [(.int .i64 x1),(.int .i64 x2),(.int .u8 x3),(.int .i64 x4)])] [(.row [(.sl 2 (List.map aB x5)),(.sl 3 (List.map aD x6)),(.mp 1),(.ref 4 2 0 0 x8.length .virt)]),(.map (bK .i64 (fun y=>AV.agg (aC y)) x7) x7.length),(.arr 4 (List.map aA x8) 0 0 false)] (.tup [(.int .i64 r.2.1),(.int .i64 r.1)]) [(.row [(.sl 2 (List.map aB r.2.2.1)),(.sl 3 (List.map aD r.2.2.2.1)),(.mp 1),(.ref 4 2 1 0 r.2.2.2.2.2.length .virt)]),(.map (bK .i64 (fun y=>AV.agg (aC y)) r.2.2.2.2.1) r.2.2.2.2.1.length),(.arr 4 (List.map aA r.2.2.2.2.2) 1 1 false)]:=by
 unfold jN at h
 let w2:List Prf:=[⟨(nF (nT rfl))⟩,⟨(sE x5 x6 x7 x8)⟩]
 by_cases c0:ltI x1 1=true
 · rw[if_pos c0] at h
   obtain rfl:=osi h
   exact Tri.of (x:=(zR x5 x6 x7 x8)) aE qU [(aNK x5 x6 x7 x8),df,dt,dt,dt,dt,dt,dt,dt,dt,dt,dt,dt,dt,dt,qT] ([⟨rT⟩,⟨rT⟩,⟨rT⟩,⟨rT⟩,⟨rT⟩,⟨rT⟩,⟨rT⟩,⟨rT⟩,⟨rT⟩,⟨c0⟩,⟨c0⟩,⟨c0⟩,⟨c0⟩]++w2) (by kernel_rfl)
 rw[if_neg c0] at h;replace c0:=eqf c0
 let u3:List Ans:=[(aNK x5 x6 x7 x8),df,df,df,df,df]
 by_cases c1:ltI 6 x1=true
 · rw[if_pos c1] at h
   obtain rfl:=osi h
   exact Tri.of (x:=(zR x5 x6 x7 x8)) aE qU (u3++[dt,dt,dt,dt,dt,dt,dt,dt,dt,qT]) ([⟨rT⟩,⟨rT⟩,⟨rT⟩,⟨rT⟩,⟨rT⟩,⟨c1⟩,⟨c1⟩,⟨c1⟩,⟨c1⟩,⟨c0⟩,⟨c0⟩,⟨c0⟩,⟨c0⟩]++w2) (by kernel_rfl)
 rw[if_neg c1] at h;replace c1:=eqf c1
 let w6:List Prf:=[⟨c1⟩,⟨c1⟩,⟨c1⟩,⟨c1⟩,⟨c0⟩,⟨c0⟩,⟨c0⟩,⟨c0⟩]++w2
 by_cases c2:ltI x2 0=true
 · rw[if_pos c2] at h
   obtain rfl:=osi h
   exact Tri.of (x:=(zR x5 x6 x7 x8)) aE qU (u3++[df,df,df,df,dt,dt,dt,dt,dt,qT]) ([⟨rT⟩,⟨c2⟩,⟨c2⟩,⟨c2⟩,⟨c2⟩]++w6) (by kernel_rfl)
 rw[if_neg c2] at h;replace c2:=eqf c2
 let u7:List Ans:=u3++[df,df,df,df,df,df,df,df]
 by_cases c3:ltI x2 1000=true
 · rw[if_pos c3] at h
   let w10:List Prf:=[⟨(nF c3)⟩,⟨c2⟩,⟨c2⟩,⟨c2⟩,⟨c2⟩]++w6
   by_cases c4:kS x7 x2=true
   · rw[if_pos c4] at h
     obtain⟨x9,e5,h⟩:=bsm h
     let w12:List Prf:=[⟨(gS .i64 (fun y=>AV.agg (aC y)) e5)⟩]++w10
     by_cases c6:eqB true (eqI x1 1)=true
     · rw[if_pos c6] at h
       obtain rfl:=osi h
       exact Tri.of (x:=(zR x5 x6 x7 x8)) aE qU (u7++[df,.opt (some (.agg [(.int .i64 x9.1),(.sl 2 (List.map aB x9.2.1)),(.bool x9.2.2.1),(.int .i64 x9.2.2.2)])),dt,dt,qT]) ([⟨rT⟩,⟨c6⟩]++w12) (by kernel_rfl)
     rw[if_neg c6] at h;replace c6:=eqf c6
     obtain⟨x10,e7,h⟩:=bsm h
     let u13:List Ans:=u7++[df,.opt (some (.agg [(.int .i64 x9.1),(.sl 2 (List.map aB x9.2.1)),(.bool x9.2.2.1),(.int .i64 x9.2.2.2)])),df,.call ⟨true,[]⟩ (.tup [(.int .i64 x10.1),(.int .i64 x10.2.1)]) [(.row [(.sl 2 (List.map aB x10.2.2.2.2)),(.sl 3 (List.map aD x10.2.2.1)),(.mp 1),(.ref 4 2 0 0 x8.length .virt)]),(.map (bK .i64 (fun y=>AV.agg (aC y)) x10.2.2.2.1) x10.2.2.2.1.length),(.arr 4 (List.map aA x8) 0 0 false)]]
     let w14:List Prf:=[⟨(r9 k x9.1 x9.2.1 x9.2.2.1 x9.2.2.2 x1 x2 x3 x4 x5 x6 x7 x8 _ e7)⟩,⟨c6⟩]++w12
     by_cases c8:eqI x10.2.1 0=true
     · rw[if_pos c8] at h
       by_cases c9:dF (((x8++[(x1,x2,x3,x4)]).length)*32)=true
       · rw[if_pos c9] at h
         obtain rfl:=osi h
         exact Tri.of (x:=(zR x5 x6 x7 x8)) aE qU (u13++[df,.rows (List.map aA [(x1,x2,x3,x4)]),.n ((x8++[(x1,x2,x3,x4)]).length),.n x8.length,dt,.rows (List.map aA (x8++[(x1,x2,x3,x4)])),qT]) ([⟨(aEN aA x8 [(x1,x2,x3,x4)])⟩,⟨(aBV x8.length)⟩,⟨(aU aA x8)⟩,⟨c9⟩,⟨(by simp only[wl,List.length_map,List.map_nil,List.map_cons]<;>omega:x8.length+(List.map aA [(x1,x2,x3,x4)]).length=(x8++[(x1,x2,x3,x4)]).length)⟩,⟨(cH aA (l:=[(x1,x2,x3,x4)]) (n:=1) rfl)⟩,⟨(eX aA (Nat.le_refl 1):0+1≤(List.map aA [(x1,x2,x3,x4)]).length)⟩,⟨(nF c8)⟩]++w14) (by kernel_rfl)
       rw[if_neg c9] at h;replace c9:=eqf c9
       cases h
     rw[if_neg c8] at h;replace c8:=eqf c8
     obtain rfl:=osi h
     exact Tri.of (x:=(zR x5 x6 x7 x8)) aE qU (u13++[dt,qT]) ([⟨(nT c8)⟩]++w14) (by kernel_rfl)
   rw[if_neg c4] at h;replace c4:=eqf c4
   let w16:List Prf:=[⟨(jI .i64 (fun y=>AV.agg (aC y)) c4)⟩]++w10
   by_cases c5:eqB false (eqI x1 1)=true
   · rw[if_pos c5] at h
     obtain rfl:=osi h
     exact Tri.of (x:=(zR x5 x6 x7 x8)) aE qU (u7++[df,.opt none,dt,df,qT]) ([⟨rF⟩,⟨c5⟩]++w16) (by kernel_rfl)
   rw[if_neg c5] at h;replace c5:=eqf c5
   obtain⟨x9,e6,h⟩:=bsm h
   let u17:List Ans:=u7++[df,.opt none,df,.call ⟨true,[]⟩ (.tup [(.int .i64 x9.1),(.int .i64 x9.2.1)]) [(.row [(.sl 2 (List.map aB x9.2.2.2.2)),(.sl 3 (List.map aD x9.2.2.1)),(.mp 1),(.ref 4 2 0 0 x8.length .virt)]),(.map (bK .i64 (fun y=>AV.agg (aC y)) x9.2.2.2.1) x9.2.2.2.1.length),(.arr 4 (List.map aA x8) 0 0 false)]]
   let w18:List Prf:=[⟨(r9 k 0 [] false 0 x1 x2 x3 x4 x5 x6 x7 x8 _ e6)⟩,⟨c5⟩]++w16
   by_cases c7:eqI x9.2.1 0=true
   · rw[if_pos c7] at h
     by_cases c8:dF (((x8++[(x1,x2,x3,x4)]).length)*32)=true
     · rw[if_pos c8] at h
       obtain rfl:=osi h
       exact Tri.of (x:=(zR x5 x6 x7 x8)) aE qU (u17++[df,.rows (List.map aA [(x1,x2,x3,x4)]),.n ((x8++[(x1,x2,x3,x4)]).length),.n x8.length,dt,.rows (List.map aA (x8++[(x1,x2,x3,x4)])),qT]) ([⟨(aEN aA x8 [(x1,x2,x3,x4)])⟩,⟨(aBV x8.length)⟩,⟨(aU aA x8)⟩,⟨c8⟩,⟨(by simp only[wl,List.length_map,List.map_nil,List.map_cons]<;>omega:x8.length+(List.map aA [(x1,x2,x3,x4)]).length=(x8++[(x1,x2,x3,x4)]).length)⟩,⟨(cH aA (l:=[(x1,x2,x3,x4)]) (n:=1) rfl)⟩,⟨(eX aA (Nat.le_refl 1):0+1≤(List.map aA [(x1,x2,x3,x4)]).length)⟩,⟨(nF c7)⟩]++w18) (by kernel_rfl)
     rw[if_neg c8] at h;replace c8:=eqf c8
     cases h
   rw[if_neg c7] at h;replace c7:=eqf c7
   obtain rfl:=osi h
   exact Tri.of (x:=(zR x5 x6 x7 x8)) aE qU (u17++[dt,qT]) ([⟨(nT c7)⟩]++w18) (by kernel_rfl)
 rw[if_neg c3] at h;replace c3:=eqf c3
 obtain rfl:=osi h
 exact Tri.of (x:=(zR x5 x6 x7 x8)) aE qU (u7++[dt,qT]) ([⟨(nT c3)⟩,⟨c2⟩,⟨c2⟩,⟨c2⟩,⟨c2⟩]++w6) (by kernel_rfl)
end Go.Ws

namespace Go.Ws
open Go.Proofs
set_option linter.unusedSimpArgs false
set_option linter.unusedVariables false
set_option maxRecDepth 1000000
set_option maxHeartbeats 4000000
noncomputable def X27:Ctx:=⟨Try.f27,[],false⟩
noncomputable def L27_0:Code:=at_ Try.f27 [1,1,0,1,4,5]
def S27_0 (x1:Ty7) (dA:Int) (eF:aG) (eG:Ty8) (d6:Ty2) (d7:Ty7):St:=⟨mkT 26 [(4,(.hp 0 0)),(10,(.sl 4 (List.map aA x1))),(11,(.int .i64 (nI x1.length))),(12,(.int .i64 dA))],[(.row [(.sl 2 (List.map aB eF)),(.sl 3 (List.map aD eG)),(.mp 1),(.ref 4 2 0 0 d7.length .virt)]),(.map (bK .i64 (fun y=>AV.agg (aC y)) d6) d6.length),(.arr 4 (List.map aA d7) 0 0 false)]⟩
def aHS (v27002_1:aG) (v27002_2:Ty8) (aLE:Ty2) (aLF:Ty7):St:=⟨mkT 26 [(4,(.hp 0 0))],[(.row [(.sl 2 (List.map aB v27002_1)),(.sl 3 (List.map aD v27002_2)),(.mp 1),(.ref 4 2 0 0 aLF.length .virt)]),(.map (bK .i64 (fun y=>AV.agg (aC y)) aLE) aLE.length),(.arr 4 (List.map aA aLF) 0 0 false)]⟩
def O27_0 (x1:Ty7) (y:Ty0):GX:=match y with
 | .inl y=>.st (.exit 0) (aHS y.1 y.2.1 y.2.2.1 y.2.2.2)
 | .inr y=>.fin (Sum.elim (fun y=>(.tup [(.hp 0 0),(.int .i64 0)])) (fun y=>(.tup [.nilp,(.int .i64 4)])) y) (Sum.elim (fun y=>[(.row [(.sl 2 (List.map aB y.1)),(.sl 3 (List.map aD y.2.1)),(.mp 1),(.ref 4 2 0 0 y.2.2.2.length .virt)]),(.map (bK .i64 (fun y=>AV.agg (aC y)) y.2.2.1) y.2.2.1.length),(.arr 4 (List.map aA y.2.2.2) 0 0 false)]) (fun y=>[]) y)
theorem pP (x1:Ty7) (y:Ty0):∀(k:Nat) (dA:Int) (eF:aG) (eG:Ty8) (d6:Ty2) (d7:Ty7),eQ k x1 dA eF eG d6 d7=some y→LT Try.prog X27 L27_0 (S27_0 x1 dA eF eG d6 d7) (O27_0 x1 y)
 | 0,dA,eF,eG,d6,d7,h=>by cases h
 | k+1,dA,eF,eG,d6,d7,h=>by
  rw[eQ] at h
  by_cases cL0:ltI dA (nI x1.length)=true
  · rw[if_pos cL0] at h
    by_cases cL1:inI dA x1.length=true
    · rw[if_pos cL1] at h
      obtain⟨iE,eL2,h⟩:=bsm h
      obtain⟨dB,eL3,h⟩:=bsm h
      let u1:List Ans:=[dt,.n x1.length,.row [(.int .i64 iE.1),(.int .i64 iE.2.1),(.int .u8 iE.2.2.1),(.int .i64 iE.2.2.2)],.call ⟨true,[]⟩ (.tup [(.int .i64 dB.2.1),(.int .i64 dB.1)]) [(.row [(.sl 2 (List.map aB dB.2.2.1)),(.sl 3 (List.map aD dB.2.2.2.1)),(.mp 1),(.ref 4 2 1 0 dB.2.2.2.2.2.length .virt)]),(.map (bK .i64 (fun y=>AV.agg (aC y)) dB.2.2.2.2.1) dB.2.2.2.2.1.length),(.arr 4 (List.map aA dB.2.2.2.2.2) 1 1 false)]]
      let w2:List Prf:=[⟨(tY k iE.1 iE.2.1 iE.2.2.1 iE.2.2.2 eF eG d6 d7 _ eL3)⟩,⟨(cE (e:=aA) eL2 4 0 4 (by decide))⟩,⟨cL1⟩,⟨(aU aA x1)⟩,⟨cL0⟩]
      by_cases cL4:eqI dB.1 0=true
      · rw[if_pos cL4] at h
        exact LT.next aE (hs:=⟨[(4,[]),(10,[]),(11,[]),(12,[])],[⟨.tmp 4,[],none⟩,⟨.cell 0 2,[],none⟩,⟨.cell 0 3,[],some 4⟩],false,[],[]⟩) (es:=none) (u1++[df,.n dB.2.2.2.2.2.length,.rows (List.map aA dB.2.2.2.2.2)]) ([⟨(eZ aA (l:=dB.2.2.2.2.2) (n:=dB.2.2.2.2.2.length) rfl)⟩,⟨(rfl:dB.2.2.2.2.2.length=dB.2.2.2.2.2.length)⟩,⟨(zle dB.2.2.2.2.2.length)⟩,⟨(nF cL4)⟩]++w2) (by kernel_rfl) (pP x1 y k (aH .i64 dA 1) dB.2.2.1 dB.2.2.2.1 dB.2.2.2.2.1 dB.2.2.2.2.2 h)
      rw[if_neg cL4] at h;replace cL4:=eqf cL4
      obtain rfl:=osi h
      show LT _ _ _ _ (.fin (.tup [.nilp,(.int .i64 4)]) [])
      exact LT.done aE (hs:=⟨[],[],false,[],[]⟩) (es:=none) (u1++[dt,.norm 0 ⟨[(2,[]),(3,[])],[],false,[],[]⟩]) ([⟨(nT cL4)⟩]++w2) (by kernel_rfl) (fun s h=>by cases h)
    rw[if_neg cL1] at h;replace cL1:=eqf cL1
    cases h
  rw[if_neg cL0] at h;replace cL0:=eqf cL0
  obtain rfl:=osi h
  show LT _ _ _ _ (.st (.exit 0) (aHS eF eG d6 d7))
  exact LT.done aE (hs:=⟨[],[],false,[],[]⟩) (es:=(some ⟨[(4,[])],[⟨.tmp 4,[],none⟩,⟨.cell 0 2,[],none⟩,⟨.cell 0 3,[],none⟩],false,[],[]⟩)) [df] [⟨cL0⟩] (by kernel_rfl) (fun s h=>by cases h)
theorem xD (k:Nat) (x1:Ty7) (r:Ty1) (h:o6 k x1=some r):Tri Try.prog 27 [(.sl 4 (List.map aA x1))] [] (Sum.elim (fun y=>(.tup [(.hp 0 0),(.int .i64 0)])) (fun y=>(.tup [.nilp,(.int .i64 4)])) r) (Sum.elim (fun y=>[(.row [(.sl 2 (List.map aB y.1)),(.sl 3 (List.map aD y.2.1)),(.mp 1),(.ref 4 2 0 0 y.2.2.2.length .virt)]),(.map (bK .i64 (fun y=>AV.agg (aC y)) y.2.2.1) y.2.2.1.length),(.arr 4 (List.map aA y.2.2.2) 0 0 false)]) (fun y=>[]) r):=by
 unfold o6 at h
 let u3:List Ans:=[.call ⟨true,[]⟩ (.hp 0 0) [(.row [.nils,.nils,(.mp 1),.nils]),(.map (bK .i64 (fun y=>AV.agg (aC y)) ([]:Ty2)) ([]:Ty2).length)],.n x1.length,.norm 2 ⟨[(4,[]),(10,[]),(11,[]),(12,[])],[⟨.tmp 4,[(0,2),(1,3)],none⟩,⟨.cell 0 2,[],none⟩,⟨.cell 0 3,[],some 4⟩],false,[],[]⟩,.n 0,.rows (List.map aA [])]
 let w4:List Prf:=[⟨(eZ aA (l:=[]) (n:=0) rfl)⟩,⟨(rfl:0=0)⟩,⟨(zle 0)⟩,⟨(aU aA x1)⟩,⟨(aDL)⟩]
 obtain⟨x2,e0,h⟩:=bsm h
 cases x2 with
 | inl x3 =>
  simp only[Sum.elim_inl] at h
  obtain rfl:=osi h
  exact Tri.of (x:=X27) aE aN3 (u3++[.out (.st .normal (aHS x3.1 x3.2.1 x3.2.2.1 x3.2.2.2)),.norm 0 ⟨[(2,[]),(3,[])],[⟨.tmp 2,[],none⟩,⟨.cell 0 2,[],none⟩,⟨.cell 0 3,[],none⟩],false,[],[]⟩]) ([⟨(LT.block (pP x1 _ k 0 [] [] ([]:Ty2) [] e0))⟩]++w4) (by kernel_rfl)
 | inr x3 =>
  simp only[Sum.elim_inr] at h
  obtain rfl:=osi h
  exact Tri.of (x:=X27) aE aN3 (u3++[.out (.fin (Sum.elim (fun y=>(.tup [(.hp 0 0),(.int .i64 0)])) (fun y=>(.tup [.nilp,(.int .i64 4)])) x3) (Sum.elim (fun y=>[(.row [(.sl 2 (List.map aB y.1)),(.sl 3 (List.map aD y.2.1)),(.mp 1),(.ref 4 2 0 0 y.2.2.2.length .virt)]),(.map (bK .i64 (fun y=>AV.agg (aC y)) y.2.2.1) y.2.2.1.length),(.arr 4 (List.map aA y.2.2.2) 0 0 false)]) (fun y=>[]) x3))]) ([⟨(LT.blockFin (id:=0) (pP x1 _ k 0 [] [] ([]:Ty2) [] e0))⟩]++w4) (by kernel_rfl)
end Go.Ws

namespace Go.Ws
open Go.Proofs
set_option linter.unusedSimpArgs false
set_option linter.unusedVariables false
set_option maxRecDepth 1000000
set_option maxHeartbeats 4000000
noncomputable def X9:Ctx:=⟨Try.f9,[],false⟩
noncomputable def L9_0:Code:=at_ Try.f9 [1,1,1,0,1,4,5]
def S9_0 (x1:Ty7) (dW:Int) (dZ:aG):St:=⟨mkT 33 [(6,(.mp 0)),(17,(.sl 4 (List.map aA x1))),(18,(.int .i64 (nI x1.length))),(19,(.int .i64 dW))],[(.map (bK .i64 (fun y=>(bC y).headD aJ) dZ) dZ.length)]⟩
def aMS (aON:aG):St:=⟨mkT 33 [(6,(.mp 0))],[(.map (bK .i64 (fun y=>(bC y).headD aJ) aON) aON.length)]⟩
def O9_0 (x1:Ty7) (y:(aG)):GX:=.st (.exit 0) (aMS y)
theorem qP (x1:Ty7) (y:(aG)):∀(k:Nat) (dW:Int) (dZ:aG),eT k x1 dW dZ=some y→LT Try.prog X9 L9_0 (S9_0 x1 dW dZ) (O9_0 x1 y)
 | 0,dW,dZ,h=>by cases h
 | k+1,dW,dZ,h=>by
  rw[eT] at h
  by_cases cL0:ltI dW (nI x1.length)=true
  · rw[if_pos cL0] at h
    by_cases cL1:inI dW x1.length=true
    · rw[if_pos cL1] at h
      obtain⟨iO,eL2,h⟩:=bsm h
      let u1:List Ans:=[dt,.n x1.length,.row [(.int .i64 iO.1),(.int .i64 iO.2.1),(.int .u8 iO.2.2.1),(.int .i64 iO.2.2.2)]]
      let w2:List Prf:=[⟨(cE (e:=aA) eL2 4 0 4 (by decide))⟩,⟨cL1⟩,⟨(aU aA x1)⟩,⟨cL0⟩]
      by_cases cL3:eqI iO.1 6=true
      · rw[if_pos cL3] at h
        exact LT.next aE (hs:=⟨[(6,[]),(17,[]),(18,[]),(19,[])],[⟨.tmp 6,[],none⟩],false,[],[]⟩) (es:=none) (u1++[dt,.ents (bK .i64 (fun y=>(bC y).headD aJ) (aZ dZ iO.2.1 iO.2.2.2)) (aZ dZ iO.2.1 iO.2.2.2).length]) ([⟨(lR .i64 (fun y=>(bC y).headD aJ) dZ iO.2.1 iO.2.2.2)⟩,⟨cL3⟩]++w2) (by kernel_rfl) (qP x1 y k (aH .i64 dW 1) (aZ dZ iO.2.1 iO.2.2.2) h)
      rw[if_neg cL3] at h;replace cL3:=eqf cL3
      exact LT.next aE (hs:=⟨[(6,[]),(17,[]),(18,[]),(19,[])],[⟨.tmp 6,[],none⟩],false,[],[]⟩) (es:=none) (u1++[df]) ([⟨cL3⟩]++w2) (by kernel_rfl) (qP x1 y k (aH .i64 dW 1) dZ h)
    rw[if_neg cL1] at h;replace cL1:=eqf cL1
    cases h
  rw[if_neg cL0] at h;replace cL0:=eqf cL0
  obtain rfl:=osi h
  show LT _ _ _ _ (.st (.exit 0) (aMS dZ))
  exact LT.done aE (hs:=⟨[],[],false,[],[]⟩) (es:=(some ⟨[(6,[])],[⟨.tmp 6,[],none⟩],false,[],[]⟩)) [df] [⟨cL0⟩] (by kernel_rfl) (fun s h=>by cases h)
theorem fS (k:Nat) (x1:Ty7) (r:(Sum (aG) (Unit))) (h:jS k x1=some r):Tri Try.prog 9 [(.sl 4 (List.map aA x1))] [] (Sum.elim (fun y=>(.tup [(.mp 0),(.int .i64 0)])) (fun y=>(.tup [.mapn,(.int .i64 4)])) r) (Sum.elim (fun y=>[(.map (bK .i64 (fun y=>(bC y).headD aJ) y) y.length)]) (fun y=>[]) r):=by
 unfold jS at h
 obtain⟨x2,e0,h⟩:=bsm h
 cases x2 with
 | inl x3 =>
  simp only[Sum.elim_inl] at h
  obtain⟨x5,e2,h⟩:=bsm h
  obtain rfl:=osi h
  exact Tri.of (x:=X9) aE facts9 [.call ⟨true,[]⟩ (.tup [(.hp 0 0),(.int .i64 0)]) [(.row [(.sl 2 (List.map aB x3.1)),(.sl 3 (List.map aD x3.2.1)),(.mp 1),(.ref 4 2 0 0 x3.2.2.2.length .virt)]),(.map (bK .i64 (fun y=>AV.agg (aC y)) x3.2.2.1) x3.2.2.1.length),(.arr 4 (List.map aA x3.2.2.2) 0 0 false)],df,.n x1.length,.norm 2 ⟨[(6,[]),(17,[]),(18,[]),(19,[])],[⟨.tmp 6,[],none⟩],false,[],[]⟩,.out (.st .normal (aMS x5)),.norm 0 ⟨[(2,[]),(3,[])],[⟨.tmp 2,[],none⟩],false,[],[]⟩] [⟨(LT.block (qP x1 _ k 0 ([]:aG) e2))⟩,⟨(aU aA x1)⟩,⟨(nF (rfl:eqI 0 0=true))⟩,⟨(xD k x1 (.inl x3) e0)⟩] (by kernel_rfl)
 | inr x3 =>
  simp only[Sum.elim_inr] at h
  obtain rfl:=osi h
  exact Tri.of (x:=X9) aE facts9 [.call ⟨true,[]⟩ (.tup [.nilp,(.int .i64 4)]) [],dt,.norm 0 ⟨[(2,[]),(3,[])],[],false,[],[]⟩] [⟨(nT (rfl:eqI 4 0=false))⟩,⟨(xD k x1 (.inr x3) e0)⟩] (by kernel_rfl)
end Go.Ws

namespace Go.Ws
open Go.Proofs
set_option linter.unusedSimpArgs false
set_option linter.unusedVariables false
set_option maxRecDepth 1000000
set_option maxHeartbeats 4000000
noncomputable def X14:Ctx:=⟨Try.f14,[],true⟩
noncomputable def L14_2:Code:=at_ Try.f14 [1,1,1,0,1,4,5]
def S14_2 (x1:Ty7) (eR:Int):St:=⟨mkT 39 [(4,.mapn),(5,(.int .i64 4)),(6,(.int .i64 0)),(14,(.sl 4 (List.map aA x1))),(15,(.int .i64 (nI x1.length))),(16,(.int .i64 eR))],[]⟩
def aIP:St:=⟨mkT 39 [(5,(.int .i64 4)),(6,(.int .i64 0))],[]⟩
def O14_2 (x1:Ty7) (y:(Unit)):GX:=.st (.exit 0) (aIP)
noncomputable def L14_1:Code:=at_ Try.f14 [1,1,1,0,1,4,5]
def S14_1 (x1:Ty7) (x3:aG) (d8:Int) (dJ:Int):St:=⟨mkT 39 [(4,(.mp 0)),(5,(.int .i64 0)),(6,(.int .i64 d8)),(14,(.sl 4 (List.map aA x1))),(15,(.int .i64 (nI x1.length))),(16,(.int .i64 dJ))],[(.map (bK .i64 (fun y=>(bC y).headD aJ) x3) x3.length)]⟩
def aH7 (v14012_1:Int):St:=⟨mkT 39 [(5,(.int .i64 0)),(6,(.int .i64 v14012_1))],[]⟩
def O14_1 (x1:Ty7) (x3:aG) (y:(Int)):GX:=.st (.exit 0) (aH7 y)
theorem tJ (x1:Ty7) (y:(Unit)):∀(k:Nat) (eR:Int),fR k x1 eR=some y→LT Try.prog X14 L14_2 (S14_2 x1 eR) (O14_2 x1 y)
 | 0,eR,h=>by cases h
 | k+1,eR,h=>by
  rw[fR] at h
  by_cases cL0:ltI eR (nI x1.length)=true
  · rw[if_pos cL0] at h
    by_cases cL1:inI eR x1.length=true
    · rw[if_pos cL1] at h
      obtain⟨yP,eL2,h⟩:=bsm h
      exact LT.next aE (hs:=⟨[(4,[]),(5,[]),(6,[]),(14,[]),(15,[]),(16,[])],[],false,[],[]⟩) (es:=none) [dt,.n x1.length,.row [(.int .i64 yP.1),(.int .i64 yP.2.1),(.int .u8 yP.2.2.1),(.int .i64 yP.2.2.2)],df,df,df,df,df,df,df,df,df,df,df] [⟨rF⟩,⟨rF⟩,⟨rF⟩,⟨rF⟩,⟨rF⟩,⟨rF⟩,⟨rF⟩,⟨(rfl:eqI 4 0=false)⟩,⟨(rfl:eqI 4 0=false)⟩,⟨(rfl:eqI 4 0=false)⟩,⟨(rfl:eqI 4 0=false)⟩,⟨(cE (e:=aA) eL2 4 0 4 (by decide))⟩,⟨cL1⟩,⟨(aU aA x1)⟩,⟨cL0⟩] (by kernel_rfl) (tJ x1 y k (aH .i64 eR 1) h)
    rw[if_neg cL1] at h;replace cL1:=eqf cL1
    cases h
  rw[if_neg cL0] at h;replace cL0:=eqf cL0
  obtain rfl:=osi h
  show LT _ _ _ _ (.st (.exit 0) (aIP))
  exact LT.done aE (hs:=⟨[],[],false,[],[]⟩) (es:=(some ⟨[(5,[]),(6,[])],[],false,[],[]⟩)) [df] [⟨cL0⟩] (by kernel_rfl) (fun s h=>by cases h)
theorem jT (x1:Ty7) (x3:aG) (y:(Int)):∀(k:Nat) (d8:Int) (dJ:Int),dP k x1 x3 d8 dJ=some y→LT Try.prog X14 L14_1 (S14_1 x1 x3 d8 dJ) (O14_1 x1 x3 y)
 | 0,d8,dJ,h=>by cases h
 | k+1,d8,dJ,h=>by
  rw[dP] at h
  by_cases cL0:ltI dJ (nI x1.length)=true
  · rw[if_pos cL0] at h
    by_cases cL1:inI dJ x1.length=true
    · rw[if_pos cL1] at h
      obtain⟨oK,eL2,h⟩:=bsm h
      let u1:List Ans:=[dt,.n x1.length,.row [(.int .i64 oK.1),(.int .i64 oK.2.1),(.int .u8 oK.2.2.1),(.int .i64 oK.2.2.2)],dt,dt,dt,dt]
      let w2:List Prf:=[⟨(rfl:eqI 0 0=true)⟩,⟨(rfl:eqI 0 0=true)⟩,⟨(rfl:eqI 0 0=true)⟩,⟨(rfl:eqI 0 0=true)⟩,⟨(cE (e:=aA) eL2 4 0 4 (by decide))⟩,⟨cL1⟩,⟨(aU aA x1)⟩,⟨cL0⟩]
      by_cases cL3:eqI oK.1 5=true
      · rw[if_pos cL3] at h
        by_cases cL4:kS x3 oK.2.1=true
        · rw[if_pos cL4] at h
          obtain⟨aCH,eL5,h⟩:=bsm h
          let u5:List Ans:=u1++[dt,dt,dt,dt,.opt (some (.int .i64 aCH)),dt,dt]
          let w6:List Prf:=[⟨cL3⟩,⟨cL3⟩,⟨(gS .i64 (fun y=>(bC y).headD aJ) eL5)⟩,⟨cL3⟩,⟨cL3⟩,⟨cL3⟩,⟨cL3⟩]++w2
          by_cases cL6:eqI aCH 2=true
          · rw[if_pos cL6] at h
            exact LT.next aE (hs:=⟨[(4,[]),(5,[]),(6,[]),(14,[]),(15,[]),(16,[])],[⟨.tmp 4,[],none⟩],false,[],[]⟩) (es:=none) (u5++[dt]) ([⟨cL6⟩]++w6) (by kernel_rfl) (jT x1 x3 y k (aH .i64 d8 1) (aH .i64 dJ 1) h)
          rw[if_neg cL6] at h;replace cL6:=eqf cL6
          exact LT.next aE (hs:=⟨[(4,[]),(5,[]),(6,[]),(14,[]),(15,[]),(16,[])],[⟨.tmp 4,[],none⟩],false,[],[]⟩) (es:=none) (u5++[df]) ([⟨cL6⟩]++w6) (by kernel_rfl) (jT x1 x3 y k d8 (aH .i64 dJ 1) h)
        rw[if_neg cL4] at h;replace cL4:=eqf cL4
        exact LT.next aE (hs:=⟨[(4,[]),(5,[]),(6,[]),(14,[]),(15,[]),(16,[])],[⟨.tmp 4,[],none⟩],false,[],[]⟩) (es:=none) (u1++[dt,dt,dt,dt,.opt none,dt,dt,df]) ([⟨(rfl:eqI 0 2=false)⟩,⟨cL3⟩,⟨cL3⟩,⟨(jI .i64 (fun y=>(bC y).headD aJ) cL4)⟩,⟨cL3⟩,⟨cL3⟩,⟨cL3⟩,⟨cL3⟩]++w2) (by kernel_rfl) (jT x1 x3 y k d8 (aH .i64 dJ 1) h)
      rw[if_neg cL3] at h;replace cL3:=eqf cL3
      exact LT.next aE (hs:=⟨[(4,[]),(5,[]),(6,[]),(14,[]),(15,[]),(16,[])],[⟨.tmp 4,[],none⟩],false,[],[]⟩) (es:=none) (u1++[df,df,df,df,df,df,df]) ([⟨rF⟩,⟨cL3⟩,⟨cL3⟩,⟨cL3⟩,⟨cL3⟩,⟨cL3⟩,⟨cL3⟩]++w2) (by kernel_rfl) (jT x1 x3 y k d8 (aH .i64 dJ 1) h)
    rw[if_neg cL1] at h;replace cL1:=eqf cL1
    cases h
  rw[if_neg cL0] at h;replace cL0:=eqf cL0
  obtain rfl:=osi h
  show LT _ _ _ _ (.st (.exit 0) (aH7 d8))
  exact LT.done aE (hs:=⟨[],[],false,[],[]⟩) (es:=(some ⟨[(5,[]),(6,[])],[],false,[],[]⟩)) [df] [⟨cL0⟩] (by kernel_rfl) (fun s h=>by cases h)
theorem wR (k:Nat) (x1:Ty7) (r:Int × Int) (h:lT k x1=some r):Tri Try.prog 14 [(.sl 4 (List.map aA x1))] [] (.tup [(.int .i64 r.1),(.int .i64 r.2)]) []:=by
 unfold lT at h
 obtain⟨x2,e0,h⟩:=bsm h
 cases x2 with
 | inl x3 =>
  simp only[Sum.elim_inl] at h
  obtain⟨x5,e2,h⟩:=bsm h
  obtain rfl:=osi h
  exact Tri.of (x:=X14) aE aMV [.call ⟨true,[]⟩ (.tup [(.mp 0),(.int .i64 0)]) [(.map (bK .i64 (fun y=>(bC y).headD aJ) x3) x3.length)],.n x1.length,.norm 2 ⟨[(4,[]),(5,[]),(6,[]),(14,[]),(15,[]),(16,[])],[⟨.tmp 4,[],none⟩],false,[],[]⟩,.out (.st .normal (aH7 x5))] [⟨(LT.block (jT x1 x3 _ k 0 0 e2))⟩,⟨(aU aA x1)⟩,⟨(fS k x1 (.inl x3) e0)⟩] (by kernel_rfl)
 | inr x3 =>
  simp only[Sum.elim_inr] at h
  obtain⟨x5,e2,h⟩:=bsm h
  obtain rfl:=osi h
  exact Tri.of (x:=X14) aE aMV [.call ⟨true,[]⟩ (.tup [.mapn,(.int .i64 4)]) [],.n x1.length,.norm 2 ⟨[(4,[]),(5,[]),(6,[]),(14,[]),(15,[]),(16,[])],[],false,[],[]⟩,.out (.st .normal (aIP))] [⟨(LT.block (tJ x1 _ k 0 e2))⟩,⟨(aU aA x1)⟩,⟨(fS k x1 (.inr x3) e0)⟩] (by kernel_rfl)
end Go.Ws

namespace Go.Ws
open Go.Proofs
set_option linter.unusedSimpArgs false
set_option linter.unusedVariables false
set_option maxRecDepth 1000000
set_option maxHeartbeats 4000000
noncomputable def X12:Ctx:=⟨Try.f12,[],true⟩
noncomputable def L12_0:Code:=at_ Try.f12 [1,1,1,1,0,1,4,5]
def S12_0 (x1:Ty7) (x3:aG) (b6:Int) (aL:aG):St:=⟨mkT 46 [(4,(.mp 0)),(6,(.ref 2 1 0 0 aL.length .virt)),(17,(.sl 4 (List.map aA x1))),(18,(.int .i64 (nI x1.length))),(19,(.int .i64 b6))],[(.map (bK .i64 (fun y=>(bC y).headD aJ) x3) x3.length),(.arr 2 (List.map aB aL) 0 0 false)]⟩
def aH3 (aLG:aG):St:=⟨mkT 46 [(6,(.ref 2 0 0 0 aLG.length .virt))],[(.arr 2 (List.map aB aLG) 0 0 false)]⟩
def O12_0 (x1:Ty7) (x3:aG) (y:(aG)):GX:=.st (.exit 0) (aH3 y)
theorem jR (x1:Ty7) (x3:aG) (y:(aG)):∀(k:Nat) (b6:Int) (aL:aG),cS k x1 x3 b6 aL=some y→LT Try.prog X12 L12_0 (S12_0 x1 x3 b6 aL) (O12_0 x1 x3 y)
 | 0,b6,aL,h=>by cases h
 | k+1,b6,aL,h=>by
  rw[cS] at h
  by_cases cL0:ltI b6 (nI x1.length)=true
  · rw[if_pos cL0] at h
    by_cases cL1:inI b6 x1.length=true
    · rw[if_pos cL1] at h
      obtain⟨cP,eL2,h⟩:=bsm h
      let u1:List Ans:=[dt,.n x1.length,.row [(.int .i64 cP.1),(.int .i64 cP.2.1),(.int .u8 cP.2.2.1),(.int .i64 cP.2.2.2)]]
      let w2:List Prf:=[⟨(cE (e:=aA) eL2 4 0 4 (by decide))⟩,⟨cL1⟩,⟨(aU aA x1)⟩,⟨cL0⟩]
      by_cases cL3:eqI cP.1 3=true
      · rw[if_pos cL3] at h
        by_cases cL4:kS x3 cP.2.1=true
        · rw[if_pos cL4] at h
          obtain⟨vW,eL5,h⟩:=bsm h
          let u5:List Ans:=u1++[dt,dt,dt,dt,.opt (some (.int .i64 vW)),dt,dt]
          let w6:List Prf:=[⟨cL3⟩,⟨cL3⟩,⟨(gS .i64 (fun y=>(bC y).headD aJ) eL5)⟩,⟨cL3⟩,⟨cL3⟩,⟨cL3⟩,⟨cL3⟩]++w2
          by_cases cL6:eqI vW 1=true
          · rw[if_pos cL6] at h
            by_cases cL7:dF (((aL++[cP.2.2]).length)*16)=true
            · rw[if_pos cL7] at h
              exact LT.next aE (hs:=⟨[(4,[]),(6,[]),(17,[]),(18,[]),(19,[])],[⟨.tmp 4,[],none⟩,⟨.tmp 6,[],some 2⟩],false,[],[]⟩) (es:=none) (u5++[dt,.rows (List.map aB [cP.2.2]),.n ((aL++[cP.2.2]).length),.n aL.length,dt,.rows (List.map aB (aL++[cP.2.2])),.n ((aL++[cP.2.2]).length),.rows (List.map aB (aL++[cP.2.2]))]) ([⟨(eZ aB (l:=(aL++[cP.2.2])) (n:=((aL++[cP.2.2]).length)) rfl)⟩,⟨(rfl:(aL++[cP.2.2]).length=(aL++[cP.2.2]).length)⟩,⟨(zle ((aL++[cP.2.2]).length))⟩,⟨(aEN aB aL [cP.2.2])⟩,⟨(aBV aL.length)⟩,⟨(aU aB aL)⟩,⟨cL7⟩,⟨(by simp only[wl,List.length_map,List.map_nil,List.map_cons]<;>omega:aL.length+(List.map aB [cP.2.2]).length=(aL++[cP.2.2]).length)⟩,⟨(cH aB (l:=[cP.2.2]) (n:=1) rfl)⟩,⟨(eX aB (Nat.le_refl 1):0+1≤(List.map aB [cP.2.2]).length)⟩,⟨cL6⟩]++w6) (by kernel_rfl) (jR x1 x3 y k (aH .i64 b6 1) (aL++[cP.2.2]) h)
            rw[if_neg cL7] at h;replace cL7:=eqf cL7
            cases h
          rw[if_neg cL6] at h;replace cL6:=eqf cL6
          exact LT.next aE (hs:=⟨[(4,[]),(6,[]),(17,[]),(18,[]),(19,[])],[⟨.tmp 4,[],none⟩,⟨.tmp 6,[],some 2⟩],false,[],[]⟩) (es:=none) (u5++[df,.n aL.length,.rows (List.map aB aL)]) ([⟨(eZ aB (l:=aL) (n:=aL.length) rfl)⟩,⟨(rfl:aL.length=aL.length)⟩,⟨(zle aL.length)⟩,⟨cL6⟩]++w6) (by kernel_rfl) (jR x1 x3 y k (aH .i64 b6 1) aL h)
        rw[if_neg cL4] at h;replace cL4:=eqf cL4
        exact LT.next aE (hs:=⟨[(4,[]),(6,[]),(17,[]),(18,[]),(19,[])],[⟨.tmp 4,[],none⟩,⟨.tmp 6,[],some 2⟩],false,[],[]⟩) (es:=none) (u1++[dt,dt,dt,dt,.opt none,dt,dt,df,.n aL.length,.rows (List.map aB aL)]) ([⟨(eZ aB (l:=aL) (n:=aL.length) rfl)⟩,⟨(rfl:aL.length=aL.length)⟩,⟨(zle aL.length)⟩,⟨(rfl:eqI 0 1=false)⟩,⟨cL3⟩,⟨cL3⟩,⟨(jI .i64 (fun y=>(bC y).headD aJ) cL4)⟩,⟨cL3⟩,⟨cL3⟩,⟨cL3⟩,⟨cL3⟩]++w2) (by kernel_rfl) (jR x1 x3 y k (aH .i64 b6 1) aL h)
      rw[if_neg cL3] at h;replace cL3:=eqf cL3
      exact LT.next aE (hs:=⟨[(4,[]),(6,[]),(17,[]),(18,[]),(19,[])],[⟨.tmp 4,[],none⟩,⟨.tmp 6,[],some 2⟩],false,[],[]⟩) (es:=none) (u1++[df,df,df,df,df,df,df,.n aL.length,.rows (List.map aB aL)]) ([⟨(eZ aB (l:=aL) (n:=aL.length) rfl)⟩,⟨(rfl:aL.length=aL.length)⟩,⟨(zle aL.length)⟩,⟨rF⟩,⟨cL3⟩,⟨cL3⟩,⟨cL3⟩,⟨cL3⟩,⟨cL3⟩,⟨cL3⟩]++w2) (by kernel_rfl) (jR x1 x3 y k (aH .i64 b6 1) aL h)
    rw[if_neg cL1] at h;replace cL1:=eqf cL1
    cases h
  rw[if_neg cL0] at h;replace cL0:=eqf cL0
  obtain rfl:=osi h
  show LT _ _ _ _ (.st (.exit 0) (aH3 aL))
  exact LT.done aE (hs:=⟨[],[],false,[],[]⟩) (es:=(some ⟨[(6,[])],[⟨.tmp 6,[],none⟩],false,[],[]⟩)) [df] [⟨cL0⟩] (by kernel_rfl) (fun s h=>by cases h)
theorem rV (k:Nat) (x1:Ty7) (r:aG × Int) (h:kG k x1=some r):Tri Try.prog 12 [(.sl 4 (List.map aA x1))] [] (.tup [(.sl 2 (List.map aB r.1)),(.int .i64 r.2)]) []:=by
 unfold kG at h
 obtain⟨x2,e0,h⟩:=bsm h
 cases x2 with
 | inl x3 =>
  simp only[Sum.elim_inl] at h
  obtain⟨x5,e2,h⟩:=bsm h
  obtain⟨x6,e4,h⟩:=bsm h
  obtain rfl:=osi h
  exact Tri.of (x:=X12) aE aOG [.call ⟨true,[]⟩ (.tup [(.mp 0),(.int .i64 0)]) [(.map (bK .i64 (fun y=>(bC y).headD aJ) x3) x3.length)],df,.n x1.length,.norm 2 ⟨[(4,[]),(6,[]),(17,[]),(18,[]),(19,[])],[⟨.tmp 4,[],none⟩,⟨.tmp 6,[],some 2⟩],false,[],[]⟩,.n 0,.rows (List.map aB []),.out (.st .normal (aH3 x5)),.call ⟨true,[[(0,2)]]⟩ (.tup [(.sl 2 (List.map aB x6.1)),(.int .i64 x6.2)]) [],.rows (List.map aB x5)] [⟨(oE k [] x5 _ e4)⟩,⟨(cH aB (l:=x5) (n:=x5.length) rfl)⟩,⟨(eX aB (Nat.le_refl x5.length):0+x5.length≤(List.map aB x5).length)⟩,⟨(LT.block (jR x1 x3 _ k 0 [] e2))⟩,⟨(eZ aB (l:=[]) (n:=0) rfl)⟩,⟨(rfl:0=0)⟩,⟨(zle 0)⟩,⟨(aU aA x1)⟩,⟨(nF (rfl:eqI 0 0=true))⟩,⟨(fS k x1 (.inl x3) e0)⟩] (by kernel_rfl)
 | inr x3 =>
  simp only[Sum.elim_inr] at h
  obtain rfl:=osi h
  exact Tri.of (x:=X12) aE aOG [.call ⟨true,[]⟩ (.tup [.mapn,(.int .i64 4)]) [],dt,.norm 0 ⟨[(2,[(0,2)]),(3,[])],[],false,[],[]⟩] [⟨(nT (rfl:eqI 4 0=false))⟩,⟨(fS k x1 (.inr x3) e0)⟩] (by kernel_rfl)
end Go.Ws

namespace Go.Ws
open Go.Proofs
set_option linter.unusedSimpArgs false
set_option linter.unusedVariables false
set_option maxRecDepth 1000000
set_option maxHeartbeats 4000000
theorem aF6 (x1:aG):Tri Try.prog 18 [(.ps [(.mp 0),.mapn,(.mp 0)])] [(.map (bK .i64 (fun y=>(bC y).headD aJ) x1) x1.length)] (.bool (pH x1)) [(.map (bK .i64 (fun y=>(bC y).headD aJ) x1) x1.length)]:=aPM
end Go.Ws

namespace Go.Ws
open Go.Proofs
set_option linter.unusedSimpArgs false
set_option linter.unusedVariables false
set_option maxRecDepth 1000000
set_option maxHeartbeats 4000000
theorem aCJ (x1:aG) (x2:aG):Tri Try.prog 18 [(.ps [(.mp 0),(.mp 1)])] [(.map (bK .i64 (fun y=>(bC y).headD aJ) x1) x1.length),(.map (bK .i64 (fun y=>(bC y).headD aJ) x2) x2.length)] (.bool (nY x1 x2)) [(.map (bK .i64 (fun y=>(bC y).headD aJ) x1) x1.length),(.map (bK .i64 (fun y=>(bC y).headD aJ) x2) x2.length)]:=agree_01
end Go.Ws

namespace Go.Ws
open Go.Proofs
set_option linter.unusedSimpArgs false
set_option linter.unusedVariables false
set_option maxRecDepth 1000000
set_option maxHeartbeats 4000000
noncomputable def X8:Ctx:=⟨Try.f8,[],true⟩
def A8_0 (x6:aG):Ans:=.call ⟨true,[]⟩ (.tup [(.mp 0),(.int .i64 0)]) [(.map (bK .i64 (fun y=>(bC y).headD aJ) x6) x6.length)]
def A8_1:Ans:=.call ⟨true,[]⟩ (.tup [.mapn,(.int .i64 4)]) []
theorem yB (k:Nat) (r:Bool) (h:pE k=some r):Tri Try.prog 8 [] [] (.bool r) []:=by
 unfold pE at h
 let u1:List Ans:=[.call ⟨true,[]⟩ (.sl 4 (List.map aA aK)) [],.n aK.length]
 let w2:List Prf:=[⟨(aU aA aK)⟩,⟨(aD0)⟩]
 by_cases c0:eqI (nI aK.length) 0=true
 · rw[if_pos c0] at h
   obtain rfl:=osi h
   exact Tri.of (x:=X8) aE lE (u1++[dt]) ([⟨c0⟩]++w2) (by kernel_rfl)
 rw[if_neg c0] at h;replace c0:=eqf c0
 obtain⟨x1,e1,h⟩:=bsm h
 cases x1 with
 | inl x2 =>
  simp only[Sum.elim_inl] at h
  obtain⟨x3,e3,h⟩:=bsm h
  obtain⟨x4,e4,h⟩:=bsm h
  by_cases c5:leI 1 aK.length=true
  · rw[if_pos c5] at h
    let u5:List Ans:=u1++[df,.call ⟨true,[]⟩ (.tup [(.mp 0),(.int .i64 0)]) [(.map (bK .i64 (fun y=>(bC y).headD aJ) x2) x2.length)],.call ⟨true,[]⟩ (.tup [(.int .i64 x3.1),(.int .i64 x3.2)]) [],.call ⟨true,[]⟩ (.tup [(.sl 2 (List.map aB x4.1)),(.int .i64 x4.2)]) [],.n aK.length,.rows (List.map aA (List.drop 1 aK))]
    let w6:List Prf:=[⟨(aKR aA (l:=aK) (n:=aK.length) rfl 1)⟩,⟨c5⟩,⟨(aU aA aK)⟩,⟨(rV k aK _ e4)⟩,⟨(wR k aK _ e3)⟩,⟨(fS k aK (.inl x2) e1)⟩,⟨c0⟩]++w2
    obtain⟨x5,e6,h⟩:=bsm h
    cases x5 with
    | inl x6 =>
     simp only[Sum.elim_inl] at h
     let u7:List Ans:=u5++[(A8_0 x6),dt,dt,.n x2.length,dt,dt]
     let w8:List Prf:=[⟨(rfl:eqI 0 0=true)⟩,⟨(rfl:eqI 0 0=true)⟩,⟨(aDS .i64 (fun y=>(bC y).headD aJ) x2)⟩,⟨(rfl:eqI 0 0=true)⟩,⟨(rfl:eqI 0 0=true)⟩,⟨(fS k (List.drop 1 aK) (.inl x6) e6)⟩]++w6
     by_cases c8:eqI (nI x2.length) 1=true
     · rw[if_pos c8] at h
       by_cases c9:kS x2 1=true
       · rw[if_pos c9] at h
         obtain⟨x7,e10,h⟩:=bsm h
         let u11:List Ans:=u7++[dt,dt,.opt (some (.int .i64 x7)),dt,dt]
         let w12:List Prf:=[⟨c8⟩,⟨c8⟩,⟨(gS .i64 (fun y=>(bC y).headD aJ) e10)⟩,⟨c8⟩,⟨c8⟩]++w8
         by_cases c11:eqI x7 2=true
         · rw[if_pos c11] at h
           by_cases c12:eqI x3.1 1=true
           · rw[if_pos c12] at h
             let w16:List Prf:=[⟨c12⟩,⟨c12⟩,⟨c12⟩,⟨c11⟩,⟨c11⟩,⟨c11⟩]++w12
             by_cases c13:eqI x3.2 0=true
             · rw[if_pos c13] at h
               let u17:List Ans:=u11++[dt,dt,dt,dt,dt,dt,dt,dt,.n x4.1.length,dt,dt]
               let w18:List Prf:=[⟨c13⟩,⟨c13⟩,⟨(aU aB x4.1)⟩,⟨c13⟩,⟨c13⟩]++w16
               by_cases c14:eqI (nI x4.1.length) 0=true
               · rw[if_pos c14] at h
                 by_cases c15:eqI x4.2 0=true
                 · rw[if_pos c15] at h
                   obtain rfl:=osi h
                   exact Tri.of (x:=X8) aE lE (u17++[dt,dt,dt,dt,dt,dt,df,df,df,df,df,df,df,df,df,df,df,df,df]) ([⟨rF⟩,⟨rF⟩,⟨rF⟩,⟨rF⟩,⟨rF⟩,⟨rF⟩,⟨rF⟩,⟨rF⟩,⟨(rfl:eqI 0 4=false)⟩,⟨(rfl:eqI 0 4=false)⟩,⟨(rfl:eqI 0 4=false)⟩,⟨(rfl:eqI 0 4=false)⟩,⟨(rfl:eqI 0 4=false)⟩,⟨c15⟩,⟨c15⟩,⟨c15⟩,⟨c14⟩,⟨c14⟩,⟨c14⟩]++w18) (by kernel_rfl)
                 rw[if_neg c15] at h;replace c15:=eqf c15
                 obtain rfl:=osi h
                 exact Tri.of (x:=X8) aE lE (u17++[dt,dt,dt,df,df,df,df,df,df,df,df,df,df,df,df,df,df,df,df]) ([⟨rF⟩,⟨rF⟩,⟨rF⟩,⟨rF⟩,⟨rF⟩,⟨rF⟩,⟨rF⟩,⟨rF⟩,⟨rF⟩,⟨rF⟩,⟨rF⟩,⟨rF⟩,⟨rF⟩,⟨c15⟩,⟨c15⟩,⟨c15⟩,⟨c14⟩,⟨c14⟩,⟨c14⟩]++w18) (by kernel_rfl)
               rw[if_neg c14] at h;replace c14:=eqf c14
               obtain rfl:=osi h
               exact Tri.of (x:=X8) aE lE (u17++[df,df,df,df,df,df,df,df,df,df,df,df,df,df,df,df,df,df,df]) ([⟨rF⟩,⟨rF⟩,⟨rF⟩,⟨rF⟩,⟨rF⟩,⟨rF⟩,⟨rF⟩,⟨rF⟩,⟨rF⟩,⟨rF⟩,⟨rF⟩,⟨rF⟩,⟨rF⟩,⟨rF⟩,⟨rF⟩,⟨rF⟩,⟨c14⟩,⟨c14⟩,⟨c14⟩]++w18) (by kernel_rfl)
             rw[if_neg c13] at h;replace c13:=eqf c13
             obtain rfl:=osi h
             exact Tri.of (x:=X8) aE lE (u11++[dt,dt,dt,dt,dt,dt,df,df,df,df,df,df,df,df,df,df,df,df,df,df,df,df,df,df,df,df,df,df,df]) ([⟨rF⟩,⟨rF⟩,⟨rF⟩,⟨rF⟩,⟨rF⟩,⟨rF⟩,⟨rF⟩,⟨rF⟩,⟨rF⟩,⟨rF⟩,⟨rF⟩,⟨rF⟩,⟨rF⟩,⟨rF⟩,⟨rF⟩,⟨rF⟩,⟨rF⟩,⟨rF⟩,⟨rF⟩,⟨c13⟩,⟨c13⟩,⟨c13⟩,⟨c13⟩]++w16) (by kernel_rfl)
           rw[if_neg c12] at h;replace c12:=eqf c12
           obtain rfl:=osi h
           exact Tri.of (x:=X8) aE lE (u11++[dt,dt,dt,df,df,df,df,df,df,df,df,df,df,df,df,df,df,df,df,df,df,df,df,df,df,df,df,df,df]) ([⟨rF⟩,⟨rF⟩,⟨rF⟩,⟨rF⟩,⟨rF⟩,⟨rF⟩,⟨rF⟩,⟨rF⟩,⟨rF⟩,⟨rF⟩,⟨rF⟩,⟨rF⟩,⟨rF⟩,⟨rF⟩,⟨rF⟩,⟨rF⟩,⟨rF⟩,⟨rF⟩,⟨rF⟩,⟨rF⟩,⟨rF⟩,⟨rF⟩,⟨rF⟩,⟨c12⟩,⟨c12⟩,⟨c12⟩,⟨c11⟩,⟨c11⟩,⟨c11⟩]++w12) (by kernel_rfl)
         rw[if_neg c11] at h;replace c11:=eqf c11
         obtain rfl:=osi h
         exact Tri.of (x:=X8) aE lE (u11++[df,df,df,df,df,df,df,df,df,df,df,df,df,df,df,df,df,df,df,df,df,df,df,df,df,df,df,df,df]) ([⟨rF⟩,⟨rF⟩,⟨rF⟩,⟨rF⟩,⟨rF⟩,⟨rF⟩,⟨rF⟩,⟨rF⟩,⟨rF⟩,⟨rF⟩,⟨rF⟩,⟨rF⟩,⟨rF⟩,⟨rF⟩,⟨rF⟩,⟨rF⟩,⟨rF⟩,⟨rF⟩,⟨rF⟩,⟨rF⟩,⟨rF⟩,⟨rF⟩,⟨rF⟩,⟨rF⟩,⟨rF⟩,⟨rF⟩,⟨c11⟩,⟨c11⟩,⟨c11⟩]++w12) (by kernel_rfl)
       rw[if_neg c9] at h;replace c9:=eqf c9
       obtain rfl:=osi h
       exact Tri.of (x:=X8) aE lE (u7++[dt,dt,.opt none,dt,dt,df,df,df,df,df,df,df,df,df,df,df,df,df,df,df,df,df,df,df,df,df,df,df,df,df,df,df,df,df]) ([⟨rF⟩,⟨rF⟩,⟨rF⟩,⟨rF⟩,⟨rF⟩,⟨rF⟩,⟨rF⟩,⟨rF⟩,⟨rF⟩,⟨rF⟩,⟨rF⟩,⟨rF⟩,⟨rF⟩,⟨rF⟩,⟨rF⟩,⟨rF⟩,⟨rF⟩,⟨rF⟩,⟨rF⟩,⟨rF⟩,⟨rF⟩,⟨rF⟩,⟨rF⟩,⟨rF⟩,⟨rF⟩,⟨rF⟩,⟨(rfl:eqI 0 2=false)⟩,⟨(rfl:eqI 0 2=false)⟩,⟨(rfl:eqI 0 2=false)⟩,⟨c8⟩,⟨c8⟩,⟨(jI .i64 (fun y=>(bC y).headD aJ) c9)⟩,⟨c8⟩,⟨c8⟩]++w8) (by kernel_rfl)
     rw[if_neg c8] at h;replace c8:=eqf c8
     obtain rfl:=osi h
     exact Tri.of (x:=X8) aE lE (u7++[df,df,df,df,df,df,df,df,df,df,df,df,df,df,df,df,df,df,df,df,df,df,df,df,df,df,df,df,df,df,df,df,df]) ([⟨rF⟩,⟨rF⟩,⟨rF⟩,⟨rF⟩,⟨rF⟩,⟨rF⟩,⟨rF⟩,⟨rF⟩,⟨rF⟩,⟨rF⟩,⟨rF⟩,⟨rF⟩,⟨rF⟩,⟨rF⟩,⟨rF⟩,⟨rF⟩,⟨rF⟩,⟨rF⟩,⟨rF⟩,⟨rF⟩,⟨rF⟩,⟨rF⟩,⟨rF⟩,⟨rF⟩,⟨rF⟩,⟨rF⟩,⟨rF⟩,⟨rF⟩,⟨rF⟩,⟨c8⟩,⟨c8⟩,⟨c8⟩,⟨c8⟩]++w8) (by kernel_rfl)
    | inr x6 =>
     simp only[Sum.elim_inr] at h
     let u21:List Ans:=u5++[A8_1,dt,dt,.n x2.length,dt,dt]
     let w22:List Prf:=[⟨(rfl:eqI 0 0=true)⟩,⟨(rfl:eqI 0 0=true)⟩,⟨(aDS .i64 (fun y=>(bC y).headD aJ) x2)⟩,⟨(rfl:eqI 0 0=true)⟩,⟨(rfl:eqI 0 0=true)⟩,⟨(fS k (List.drop 1 aK) (.inr x6) e6)⟩]++w6
     by_cases c8:eqI (nI x2.length) 1=true
     · rw[if_pos c8] at h
       by_cases c9:kS x2 1=true
       · rw[if_pos c9] at h
         obtain⟨x7,e10,h⟩:=bsm h
         let u25:List Ans:=u21++[dt,dt,.opt (some (.int .i64 x7)),dt,dt]
         let w26:List Prf:=[⟨c8⟩,⟨c8⟩,⟨(gS .i64 (fun y=>(bC y).headD aJ) e10)⟩,⟨c8⟩,⟨c8⟩]++w22
         by_cases c11:eqI x7 2=true
         · rw[if_pos c11] at h
           by_cases c12:eqI x3.1 1=true
           · rw[if_pos c12] at h
             let w30:List Prf:=[⟨c12⟩,⟨c12⟩,⟨c12⟩,⟨c11⟩,⟨c11⟩,⟨c11⟩]++w26
             by_cases c13:eqI x3.2 0=true
             · rw[if_pos c13] at h
               let u31:List Ans:=u25++[dt,dt,dt,dt,dt,dt,dt,dt,.n x4.1.length,dt,dt]
               let w32:List Prf:=[⟨c13⟩,⟨c13⟩,⟨(aU aB x4.1)⟩,⟨c13⟩,⟨c13⟩]++w30
               by_cases c14:eqI (nI x4.1.length) 0=true
               · rw[if_pos c14] at h
                 by_cases c15:eqI x4.2 0=true
                 · rw[if_pos c15] at h
                   let u35:List Ans:=u31++[dt,dt,dt,dt,dt,dt,dt,dt,dt,dt,.call ⟨true,[]⟩ (.bool (pH x2)) [(.map (bK .i64 (fun y=>(bC y).headD aJ) x2) x2.length)],dt]
                   let w36:List Prf:=[⟨(rfl:eqI 4 4=true)⟩,⟨(aF6 x2)⟩,⟨(rfl:eqI 4 4=true)⟩,⟨(rfl:eqI 4 4=true)⟩,⟨(rfl:eqI 4 4=true)⟩,⟨(rfl:eqI 4 4=true)⟩,⟨c15⟩,⟨c15⟩,⟨c15⟩,⟨c14⟩,⟨c14⟩,⟨c14⟩]++w32
                   by_cases c16:(pH x2)=true
                   · rw[if_pos c16] at h
                     obtain rfl:=osi h
                     exact Tri.of (x:=X8) aE lE (u35++[dt,dt,dt,.ents (bK .i64 (fun y=>(bC y).headD aJ) (aZ ([]:aG) 1 1)) (aZ ([]:aG) 1 1).length,dt,dt,dt,.call ⟨true,[]⟩ (.bool (nY x2 (aZ ([]:aG) 1 1))) [(.map (bK .i64 (fun y=>(bC y).headD aJ) x2) x2.length),(.map (bK .i64 (fun y=>(bC y).headD aJ) (aZ ([]:aG) 1 1)) (aZ ([]:aG) 1 1).length)],dt,dt]) ([⟨c16⟩,⟨c16⟩,⟨(aCJ x2 (aZ ([]:aG) 1 1))⟩,⟨c16⟩,⟨c16⟩,⟨c16⟩,⟨(lR .i64 (fun y=>(bC y).headD aJ) ([]:aG) 1 1)⟩,⟨c16⟩,⟨c16⟩,⟨c16⟩]++w36) (by kernel_rfl)
                   rw[if_neg c16] at h;replace c16:=eqf c16
                   obtain rfl:=osi h
                   exact Tri.of (x:=X8) aE lE (u35++[df,df,df,df,df,df,df,df]) ([⟨c16⟩,⟨c16⟩,⟨c16⟩,⟨c16⟩,⟨c16⟩,⟨c16⟩,⟨c16⟩,⟨c16⟩]++w36) (by kernel_rfl)
                 rw[if_neg c15] at h;replace c15:=eqf c15
                 obtain rfl:=osi h
                 exact Tri.of (x:=X8) aE lE (u31++[dt,dt,dt,df,df,df,df,df,df,df,df,df,df,df,df,df,df,df,df]) ([⟨rF⟩,⟨rF⟩,⟨rF⟩,⟨rF⟩,⟨rF⟩,⟨rF⟩,⟨rF⟩,⟨rF⟩,⟨rF⟩,⟨rF⟩,⟨rF⟩,⟨rF⟩,⟨rF⟩,⟨c15⟩,⟨c15⟩,⟨c15⟩,⟨c14⟩,⟨c14⟩,⟨c14⟩]++w32) (by kernel_rfl)
               rw[if_neg c14] at h;replace c14:=eqf c14
               obtain rfl:=osi h
               exact Tri.of (x:=X8) aE lE (u31++[df,df,df,df,df,df,df,df,df,df,df,df,df,df,df,df,df,df,df]) ([⟨rF⟩,⟨rF⟩,⟨rF⟩,⟨rF⟩,⟨rF⟩,⟨rF⟩,⟨rF⟩,⟨rF⟩,⟨rF⟩,⟨rF⟩,⟨rF⟩,⟨rF⟩,⟨rF⟩,⟨rF⟩,⟨rF⟩,⟨rF⟩,⟨c14⟩,⟨c14⟩,⟨c14⟩]++w32) (by kernel_rfl)
             rw[if_neg c13] at h;replace c13:=eqf c13
             obtain rfl:=osi h
             exact Tri.of (x:=X8) aE lE (u25++[dt,dt,dt,dt,dt,dt,df,df,df,df,df,df,df,df,df,df,df,df,df,df,df,df,df,df,df,df,df,df,df]) ([⟨rF⟩,⟨rF⟩,⟨rF⟩,⟨rF⟩,⟨rF⟩,⟨rF⟩,⟨rF⟩,⟨rF⟩,⟨rF⟩,⟨rF⟩,⟨rF⟩,⟨rF⟩,⟨rF⟩,⟨rF⟩,⟨rF⟩,⟨rF⟩,⟨rF⟩,⟨rF⟩,⟨rF⟩,⟨c13⟩,⟨c13⟩,⟨c13⟩,⟨c13⟩]++w30) (by kernel_rfl)
           rw[if_neg c12] at h;replace c12:=eqf c12
           obtain rfl:=osi h
           exact Tri.of (x:=X8) aE lE (u25++[dt,dt,dt,df,df,df,df,df,df,df,df,df,df,df,df,df,df,df,df,df,df,df,df,df,df,df,df,df,df]) ([⟨rF⟩,⟨rF⟩,⟨rF⟩,⟨rF⟩,⟨rF⟩,⟨rF⟩,⟨rF⟩,⟨rF⟩,⟨rF⟩,⟨rF⟩,⟨rF⟩,⟨rF⟩,⟨rF⟩,⟨rF⟩,⟨rF⟩,⟨rF⟩,⟨rF⟩,⟨rF⟩,⟨rF⟩,⟨rF⟩,⟨rF⟩,⟨rF⟩,⟨rF⟩,⟨c12⟩,⟨c12⟩,⟨c12⟩,⟨c11⟩,⟨c11⟩,⟨c11⟩]++w26) (by kernel_rfl)
         rw[if_neg c11] at h;replace c11:=eqf c11
         obtain rfl:=osi h
         exact Tri.of (x:=X8) aE lE (u25++[df,df,df,df,df,df,df,df,df,df,df,df,df,df,df,df,df,df,df,df,df,df,df,df,df,df,df,df,df]) ([⟨rF⟩,⟨rF⟩,⟨rF⟩,⟨rF⟩,⟨rF⟩,⟨rF⟩,⟨rF⟩,⟨rF⟩,⟨rF⟩,⟨rF⟩,⟨rF⟩,⟨rF⟩,⟨rF⟩,⟨rF⟩,⟨rF⟩,⟨rF⟩,⟨rF⟩,⟨rF⟩,⟨rF⟩,⟨rF⟩,⟨rF⟩,⟨rF⟩,⟨rF⟩,⟨rF⟩,⟨rF⟩,⟨rF⟩,⟨c11⟩,⟨c11⟩,⟨c11⟩]++w26) (by kernel_rfl)
       rw[if_neg c9] at h;replace c9:=eqf c9
       obtain rfl:=osi h
       exact Tri.of (x:=X8) aE lE (u21++[dt,dt,.opt none,dt,dt,df,df,df,df,df,df,df,df,df,df,df,df,df,df,df,df,df,df,df,df,df,df,df,df,df,df,df,df,df]) ([⟨rF⟩,⟨rF⟩,⟨rF⟩,⟨rF⟩,⟨rF⟩,⟨rF⟩,⟨rF⟩,⟨rF⟩,⟨rF⟩,⟨rF⟩,⟨rF⟩,⟨rF⟩,⟨rF⟩,⟨rF⟩,⟨rF⟩,⟨rF⟩,⟨rF⟩,⟨rF⟩,⟨rF⟩,⟨rF⟩,⟨rF⟩,⟨rF⟩,⟨rF⟩,⟨rF⟩,⟨rF⟩,⟨rF⟩,⟨(rfl:eqI 0 2=false)⟩,⟨(rfl:eqI 0 2=false)⟩,⟨(rfl:eqI 0 2=false)⟩,⟨c8⟩,⟨c8⟩,⟨(jI .i64 (fun y=>(bC y).headD aJ) c9)⟩,⟨c8⟩,⟨c8⟩]++w22) (by kernel_rfl)
     rw[if_neg c8] at h;replace c8:=eqf c8
     obtain rfl:=osi h
     exact Tri.of (x:=X8) aE lE (u21++[df,df,df,df,df,df,df,df,df,df,df,df,df,df,df,df,df,df,df,df,df,df,df,df,df,df,df,df,df,df,df,df,df]) ([⟨rF⟩,⟨rF⟩,⟨rF⟩,⟨rF⟩,⟨rF⟩,⟨rF⟩,⟨rF⟩,⟨rF⟩,⟨rF⟩,⟨rF⟩,⟨rF⟩,⟨rF⟩,⟨rF⟩,⟨rF⟩,⟨rF⟩,⟨rF⟩,⟨rF⟩,⟨rF⟩,⟨rF⟩,⟨rF⟩,⟨rF⟩,⟨rF⟩,⟨rF⟩,⟨rF⟩,⟨rF⟩,⟨rF⟩,⟨rF⟩,⟨rF⟩,⟨rF⟩,⟨c8⟩,⟨c8⟩,⟨c8⟩,⟨c8⟩]++w22) (by kernel_rfl)
  rw[if_neg c5] at h;replace c5:=eqf c5
  cases h
 | inr x2 =>
  simp only[Sum.elim_inr] at h
  obtain⟨x3,e3,h⟩:=bsm h
  obtain⟨x4,e4,h⟩:=bsm h
  by_cases c5:leI 1 aK.length=true
  · rw[if_pos c5] at h
    let u37:List Ans:=u1++[df,A8_1,.call ⟨true,[]⟩ (.tup [(.int .i64 x3.1),(.int .i64 x3.2)]) [],.call ⟨true,[]⟩ (.tup [(.sl 2 (List.map aB x4.1)),(.int .i64 x4.2)]) [],.n aK.length,.rows (List.map aA (List.drop 1 aK))]
    let w38:List Prf:=[⟨(aKR aA (l:=aK) (n:=aK.length) rfl 1)⟩,⟨c5⟩,⟨(aU aA aK)⟩,⟨(rV k aK _ e4)⟩,⟨(wR k aK _ e3)⟩,⟨(fS k aK (.inr x2) e1)⟩,⟨c0⟩]++w2
    obtain⟨x5,e6,h⟩:=bsm h
    cases x5 with
    | inl x6 =>
     simp only[Sum.elim_inl] at h
     obtain rfl:=osi h
     exact Tri.of (x:=X8) aE lE (u37++[(A8_0 x6),df,df,df,df,df,df,df,df,df,df,df,df,df,df,df,df,df,df,df,df,df,df,df,df,df,df,df,df,df,df,df,df,df,df,df,df,df]) ([⟨rF⟩,⟨rF⟩,⟨rF⟩,⟨rF⟩,⟨rF⟩,⟨rF⟩,⟨rF⟩,⟨rF⟩,⟨rF⟩,⟨rF⟩,⟨rF⟩,⟨rF⟩,⟨rF⟩,⟨rF⟩,⟨rF⟩,⟨rF⟩,⟨rF⟩,⟨rF⟩,⟨rF⟩,⟨rF⟩,⟨rF⟩,⟨rF⟩,⟨rF⟩,⟨rF⟩,⟨rF⟩,⟨rF⟩,⟨rF⟩,⟨rF⟩,⟨rF⟩,⟨rF⟩,⟨rF⟩,⟨rF⟩,⟨rF⟩,⟨(rfl:eqI 4 0=false)⟩,⟨(rfl:eqI 4 0=false)⟩,⟨(rfl:eqI 4 0=false)⟩,⟨(rfl:eqI 4 0=false)⟩,⟨(fS k (List.drop 1 aK) (.inl x6) e6)⟩]++w38) (by kernel_rfl)
    | inr x6 =>
     simp only[Sum.elim_inr] at h
     obtain rfl:=osi h
     exact Tri.of (x:=X8) aE lE (u37++[A8_1,df,df,df,df,df,df,df,df,df,df,df,df,df,df,df,df,df,df,df,df,df,df,df,df,df,df,df,df,df,df,df,df,df,df,df,df,df]) ([⟨rF⟩,⟨rF⟩,⟨rF⟩,⟨rF⟩,⟨rF⟩,⟨rF⟩,⟨rF⟩,⟨rF⟩,⟨rF⟩,⟨rF⟩,⟨rF⟩,⟨rF⟩,⟨rF⟩,⟨rF⟩,⟨rF⟩,⟨rF⟩,⟨rF⟩,⟨rF⟩,⟨rF⟩,⟨rF⟩,⟨rF⟩,⟨rF⟩,⟨rF⟩,⟨rF⟩,⟨rF⟩,⟨rF⟩,⟨rF⟩,⟨rF⟩,⟨rF⟩,⟨rF⟩,⟨rF⟩,⟨rF⟩,⟨rF⟩,⟨(rfl:eqI 4 0=false)⟩,⟨(rfl:eqI 4 0=false)⟩,⟨(rfl:eqI 4 0=false)⟩,⟨(rfl:eqI 4 0=false)⟩,⟨(fS k (List.drop 1 aK) (.inr x6) e6)⟩]++w38) (by kernel_rfl)
  rw[if_neg c5] at h;replace c5:=eqf c5
  cases h
end Go.Ws

namespace Go.Ws
open Go.Proofs
set_option linter.unusedSimpArgs false
set_option linter.unusedVariables false
set_option maxRecDepth 1000000
set_option maxHeartbeats 4000000
noncomputable def X35_1001:Ctx:=⟨Try.f35,[],false⟩
theorem uO (k:Nat) (x1:Ty7) (r:Unit) (h:gR k x1=some r):Tri Try.prog 35 [(.inl 4 (List.map aA x1))] [] (.ref 4 0 0 0 x1.length .virt) [(.arr 4 (List.map aA x1) 0 0 false)]:=by
 unfold gR at h
 by_cases c0:dF (x1.length*32)=true
 · rw[if_pos c0] at h
   obtain rfl:=osi h
   exact Tri.of (x:=X35_1001) aE aN5 [df,.n x1.length,.norm 0 ⟨[(2,[])],[⟨.tmp 2,[],some 4⟩],false,[],[]⟩,.n x1.length,.rows (List.map aA x1)] [⟨(eZ aA (l:=x1) (n:=x1.length) rfl)⟩,⟨(rfl:x1.length=x1.length)⟩,⟨(zle x1.length)⟩,⟨c0⟩,⟨(aU aA x1)⟩,⟨rF⟩] (by kernel_rfl)
 rw[if_neg c0] at h;replace c0:=eqf c0
 cases h
end Go.Ws

namespace Go.Ws
open Go.Proofs
set_option linter.unusedSimpArgs false
set_option linter.unusedVariables false
set_option maxRecDepth 1000000
set_option maxHeartbeats 4000000
noncomputable def X35_1002:Ctx:=⟨Try.f35,[],false⟩
theorem uZ:Tri Try.prog 35 [.nils] [] (.ref 4 0 0 0 0 .virt) [(.arr 4 (List.map aA []) 0 0 false)]:=by
 obtain⟨r,h⟩:∃r,nD=r:=⟨_,rfl⟩
 try rw[h]
 unfold nD at h
 obtain rfl:=h
 exact Tri.of (x:=X35_1002) aE aN5 [dt,.norm 0 ⟨[(2,[])],[⟨.tmp 2,[],some 4⟩],false,[],[]⟩,.n 0,.rows (List.map aA [])] [⟨(eZ aA (l:=[]) (n:=0) rfl)⟩,⟨(rfl:0=0)⟩,⟨(zle 0)⟩,⟨rT⟩] (by kernel_rfl)
end Go.Ws

namespace Go.Ws
open Go.Proofs
set_option linter.unusedSimpArgs false
set_option linter.unusedVariables false
set_option maxRecDepth 1000000
set_option maxHeartbeats 4000000
theorem z3 (k:Nat) (x1:Ty7) (r:Unit) (h:mF k x1=some r):Tri Try.prog 35 [(.sl 4 (List.map aA x1))] [] (.ref 4 0 0 0 x1.length .virt) [(.arr 4 (List.map aA x1) 0 0 false)]:=by
 refine Tri.slOf (uO k x1 r h) fun h0=>?_
 have hx:x1=[]:=by simpa using h0
 subst hx
 exact uZ
end Go.Ws

namespace Go.Ws
open Go.Proofs
set_option linter.unusedSimpArgs false
set_option linter.unusedVariables false
set_option maxRecDepth 1000000
set_option maxHeartbeats 4000000
noncomputable def X22 (x1:aG) (x2:Ty8) (x3:Ty2) (x4:Ty7):Ctx:=⟨Try.f22,[(.row [(.sl 2 (List.map aB x1)),(.sl 3 (List.map aD x2)),(.mp 1),(.ref 4 2 0 0 x4.length .virt)]),(.map (bK .i64 (fun y=>AV.agg (aC y)) x3) x3.length),(.arr 4 (List.map aA x4) 0 0 false)],false⟩
theorem aCL (k:Nat) (x1:aG) (x2:Ty8) (x3:Ty2) (x4:Ty7) (r:Unit) (h:mI k x1 x2 x3 x4=some r):Tri Try.prog 22 [(.hp 0 0)] [(.row [(.sl 2 (List.map aB x1)),(.sl 3 (List.map aD x2)),(.mp 1),(.ref 4 2 0 0 x4.length .virt)]),(.map (bK .i64 (fun y=>AV.agg (aC y)) x3) x3.length),(.arr 4 (List.map aA x4) 0 0 false)] (.ref 4 3 0 0 x4.length .virt) [(.row [(.sl 2 (List.map aB x1)),(.sl 3 (List.map aD x2)),(.mp 1),(.ref 4 2 0 0 x4.length .virt)]),(.map (bK .i64 (fun y=>AV.agg (aC y)) x3) x3.length),(.arr 4 (List.map aA x4) 0 0 true),(.arr 4 (List.map aA x4) 0 0 false)]:=by
 unfold mI at h
 obtain⟨x5,e0,h⟩:=bsm h
 obtain rfl:=osi h
 exact Tri.of (x:=(X22 x1 x2 x3 x4)) aE facts22 [.call ⟨true,[]⟩ (.bool (!false)) [(.row [(.sl 2 (List.map aB x1)),(.sl 3 (List.map aD x2)),(.mp 1),(.ref 4 2 0 0 x4.length .virt)]),(.map (bK .i64 (fun y=>AV.agg (aC y)) x3) x3.length),(.arr 4 (List.map aA x4) 0 0 false)],df,.call ⟨true,[]⟩ (.ref 4 0 0 0 x4.length .virt) [(.arr 4 (List.map aA x4) 0 0 false)],.rows (List.map aA x4),.norm 0 ⟨[(2,[])],[⟨.tmp 2,[],none⟩],false,[],[]⟩] [⟨(z3 k x4 _ e0)⟩,⟨(cH aA (l:=x4) (n:=x4.length) rfl)⟩,⟨(eX aA (Nat.le_refl x4.length):0+x4.length≤(List.map aA x4).length)⟩,⟨(nF (nT rfl))⟩,⟨(sE x1 x2 x3 x4)⟩] (by kernel_rfl)
end Go.Ws

namespace Go.Ws
open Go.Proofs
set_option linter.unusedSimpArgs false
set_option linter.unusedVariables false
set_option maxRecDepth 1000000
set_option maxHeartbeats 4000000
noncomputable def X33_4 (x1:aG) (x2:Ty8) (x3:Ty2) (x4:Ty7):Ctx:=⟨Try.f33,[(.row [(.sl 2 (List.map aB x1)),(.sl 3 (List.map aD x2)),(.mp 1),(.ref 4 2 0 0 x4.length .virt)]),(.map (bK .i64 (fun y=>AV.agg (aC y)) x3) x3.length),(.arr 4 (List.map aA x4) 0 0 true)],false⟩
theorem r6 (x1:aG) (x2:Ty8) (x3:Ty2) (x4:Ty7):Tri Try.prog 33 [(.hp 0 0)] [(.row [(.sl 2 (List.map aB x1)),(.sl 3 (List.map aD x2)),(.mp 1),(.ref 4 2 0 0 x4.length .virt)]),(.map (bK .i64 (fun y=>AV.agg (aC y)) x3) x3.length),(.arr 4 (List.map aA x4) 0 0 true)] (.bool (!false)) [(.row [(.sl 2 (List.map aB x1)),(.sl 3 (List.map aD x2)),(.mp 1),(.ref 4 2 0 0 x4.length .virt)]),(.map (bK .i64 (fun y=>AV.agg (aC y)) x3) x3.length),(.arr 4 (List.map aA x4) 0 0 true)]:=by
 obtain⟨r,h⟩:∃r,qI x1 x2 x3 x4=r:=⟨_,rfl⟩
 try rw[h]
 unfold qI at h
 obtain rfl:=h
 exact Tri.of (x:=(X33_4 x1 x2 x3 x4)) aE aM2 [dt,dt,dt,dt,dt,dt,.norm 0 ⟨[(2,[])],[],false,[],[]⟩] [⟨(nT rfl)⟩,⟨(nT rfl)⟩,⟨(nT rfl)⟩,⟨(nT rfl)⟩,⟨(nT rfl)⟩,⟨(nT rfl)⟩] (by kernel_rfl)
end Go.Ws

namespace Go.Ws
open Go.Proofs
set_option linter.unusedSimpArgs false
set_option linter.unusedVariables false
set_option maxRecDepth 1000000
set_option maxHeartbeats 4000000
noncomputable def X25:Ctx:=⟨Try.f25,[],true⟩
noncomputable def L25_0:Code:=at_ Try.f25 [1,0,1,4,5]
def S25_0 (x1:aG) (x2:Int) (dD:Int):St:=⟨mkT 24 [(0,(.sl 2 (List.map aB x1))),(1,(.int .u8 x2)),(5,(.int .i64 dD))],[]⟩
def aH5:St:=⟨mkT 24 [],[]⟩
def O25_0 (x1:aG) (x2:Int) (y:(Sum (Unit) (Int))):GX:=match y with
 | .inl y=>.st (.exit 0) (aH5)
 | .inr y=>.fin (.int .i64 y) []
theorem rW (x1:aG) (x2:Int) (y:(Sum (Unit) (Int))):∀(k:Nat) (dD:Int),gI k x1 x2 dD=some y→LT Try.prog X25 L25_0 (S25_0 x1 x2 dD) (O25_0 x1 x2 y)
 | 0,dD,h=>by cases h
 | k+1,dD,h=>by
  rw[gI] at h
  by_cases cL0:ltI dD (nI x1.length)=true
  · rw[if_pos cL0] at h
    by_cases cL1:inI dD x1.length=true
    · rw[if_pos cL1] at h
      obtain⟨oL,eL2,h⟩:=bsm h
      let u3:List Ans:=[.n x1.length,dt,.n x1.length,.row [(.int .u8 oL.1)]]
      let w4:List Prf:=[⟨(cE (e:=aB) eL2 2 0 1 (by decide))⟩,⟨cL1⟩,⟨(aU aB x1)⟩,⟨cL0⟩,⟨(aU aB x1)⟩]
      by_cases cL3:eqI oL.1 x2=true
      · rw[if_pos cL3] at h
        obtain rfl:=osi h
        show LT _ _ _ _ (.fin (.int .i64 oL.2) [])
        exact LT.done aE (hs:=⟨[],[],false,[],[]⟩) (es:=none) (u3++[dt,.n x1.length,.row [(.int .i64 oL.2)]]) ([⟨(cE (e:=aB) eL2 2 1 1 (by decide))⟩,⟨cL1⟩,⟨(aU aB x1)⟩,⟨cL3⟩]++w4) (by kernel_rfl) (fun s h=>by cases h)
      rw[if_neg cL3] at h;replace cL3:=eqf cL3
      exact LT.next aE (hs:=⟨[(0,[]),(1,[]),(5,[])],[],false,[],[]⟩) (es:=none) (u3++[df]) ([⟨cL3⟩]++w4) (by kernel_rfl) (rW x1 x2 y k (aH .i64 dD 1) h)
    rw[if_neg cL1] at h;replace cL1:=eqf cL1
    cases h
  rw[if_neg cL0] at h;replace cL0:=eqf cL0
  obtain rfl:=osi h
  show LT _ _ _ _ (.st (.exit 0) (aH5))
  exact LT.done aE (hs:=⟨[],[],false,[],[]⟩) (es:=(some ⟨[],[],false,[],[]⟩)) [.n x1.length,df] [⟨cL0⟩,⟨(aU aB x1)⟩] (by kernel_rfl) (fun s h=>by cases h)
theorem aI2 (k:Nat) (x1:aG) (x2:Int) (r:Int) (h:sP k x1 x2=some r):Tri Try.prog 25 [(.sl 2 (List.map aB x1)),(.int .u8 x2)] [] (.int .i64 r) []:=by
 unfold sP at h
 obtain⟨x3,e0,h⟩:=bsm h
 cases x3 with
 | inl x4 =>
  simp only[Sum.elim_inl] at h
  obtain rfl:=osi h
  exact Tri.of (x:=X25) aE aNT [.norm 2 ⟨[(0,[]),(1,[]),(5,[])],[],false,[],[]⟩,.out (.st .normal (aH5))] [⟨(LT.block (rW x1 x2 _ k 0 e0))⟩] (by kernel_rfl)
 | inr x4 =>
  simp only[Sum.elim_inr] at h
  obtain rfl:=osi h
  exact Tri.of (x:=X25) aE aNT [.norm 2 ⟨[(0,[]),(1,[]),(5,[])],[],false,[],[]⟩,.out (.fin (.int .i64 x4) [])] [⟨(LT.blockFin (id:=0) (rW x1 x2 _ k 0 e0))⟩] (by kernel_rfl)
end Go.Ws

namespace Go.Ws
open Go.Proofs
set_option linter.unusedSimpArgs false
set_option linter.unusedVariables false
set_option maxRecDepth 1000000
set_option maxHeartbeats 4000000
noncomputable def X23 (x2:aG) (x3:Ty8) (x4:Ty2) (x5:Ty7):Ctx:=⟨Try.f23,[(.row [(.sl 2 (List.map aB x2)),(.sl 3 (List.map aD x3)),(.mp 1),(.ref 4 2 0 0 x5.length .virt)]),(.map (bK .i64 (fun y=>AV.agg (aC y)) x4) x4.length),(.arr 4 (List.map aA x5) 0 0 true)],false⟩
def A23_0 (x2:aG) (x3:Ty8) (x4:Ty2) (x5:Ty7):Ans:=.call ⟨true,[]⟩ (.bool (!false)) [(.row [(.sl 2 (List.map aB x2)),(.sl 3 (List.map aD x3)),(.mp 1),(.ref 4 2 0 0 x5.length .virt)]),(.map (bK .i64 (fun y=>AV.agg (aC y)) x4) x4.length),(.arr 4 (List.map aA x5) 0 0 true)]
def A23_1:Ans:=.norm 0 ⟨[(4,[]),(5,[])],[⟨.tmp 4,[],none⟩,⟨.cell 3 1,[],none⟩],false,[],[]⟩
theorem aBT (k:Nat) (x1:Int) (x2:aG) (x3:Ty8) (x4:Ty2) (x5:Ty7) (r:Int × Bool × Int × aG × Bool) (h:lD k x1 x2 x3 x4 x5=some r):Tri Try.prog 23 [(.hp 0 0),(.int .i64 x1)] [(.row [(.sl 2 (List.map aB x2)),(.sl 3 (List.map aD x3)),(.mp 1),(.ref 4 2 0 0 x5.length .virt)]),(.map (bK .i64 (fun y=>AV.agg (aC y)) x4) x4.length),(.arr 4 (List.map aA x5) 0 0 true)] (.tup [(.agg [(.int .i64 r.1),(.ref 2 3 0 0 r.2.2.2.1.length .virt),(.bool r.2.1),(.int .i64 r.2.2.1)]),(.bool r.2.2.2.2)]) [(.row [(.sl 2 (List.map aB x2)),(.sl 3 (List.map aD x3)),(.mp 1),(.ref 4 2 0 0 x5.length .virt)]),(.map (bK .i64 (fun y=>AV.agg (aC y)) x4) x4.length),(.arr 4 (List.map aA x5) 0 0 true),(.arr 2 (List.map aB r.2.2.2.1) 0 0 false)]:=by
 unfold lD at h
 let w2:List Prf:=[⟨(nF (nT rfl))⟩,⟨(r6 x2 x3 x4 x5)⟩]
 by_cases c0:kS x4 x1=true
 · rw[if_pos c0] at h
   obtain⟨x6,e1,h⟩:=bsm h
   obtain⟨x7,e2,h⟩:=bsm h
   obtain rfl:=osi h
   exact Tri.of (x:=(X23 x2 x3 x4 x5)) aE aNI [(A23_0 x2 x3 x4 x5),df,.opt (some (.agg [(.int .i64 x6.1),(.sl 2 (List.map aB x6.2.1)),(.bool x6.2.2.1),(.int .i64 x6.2.2.2)])),.call ⟨true,[]⟩ (.ref 2 0 0 0 x6.2.1.length .virt) [(.arr 2 (List.map aB x6.2.1) 0 0 false)],A23_1] ([⟨(gM k x6.2.1 _ e2)⟩,⟨(gS .i64 (fun y=>AV.agg (aC y)) e1)⟩]++w2) (by kernel_rfl)
 rw[if_neg c0] at h;replace c0:=eqf c0
 obtain⟨x6,e1,h⟩:=bsm h
 obtain rfl:=osi h
 exact Tri.of (x:=(X23 x2 x3 x4 x5)) aE aNI [(A23_0 x2 x3 x4 x5),df,.opt none,.call ⟨true,[]⟩ (.ref 2 0 0 0 0 .virt) [(.arr 2 (List.map aB []) 0 0 false)],A23_1] ([⟨(gM k [] _ e1)⟩,⟨(jI .i64 (fun y=>AV.agg (aC y)) c0)⟩]++w2) (by kernel_rfl)
end Go.Ws

namespace Go.Ws
open Go.Proofs
set_option linter.unusedSimpArgs false
set_option linter.unusedVariables false
set_option maxRecDepth 1000000
set_option maxHeartbeats 4000000
noncomputable def X24 (x2:aG) (x3:Ty8) (x4:Ty2) (x5:Ty7):Ctx:=⟨Try.f24,[(.row [(.sl 2 (List.map aB x2)),(.sl 3 (List.map aD x3)),(.mp 1),(.ref 4 2 0 0 x5.length .virt)]),(.map (bK .i64 (fun y=>AV.agg (aC y)) x4) x4.length),(.arr 4 (List.map aA x5) 0 0 true)],false⟩
theorem aCI (k:Nat) (x1:Int) (x2:aG) (x3:Ty8) (x4:Ty2) (x5:Ty7) (r:Int) (h:mN k x1 x2 x3 x4 x5=some r):Tri Try.prog 24 [(.hp 0 0),(.int .u8 x1)] [(.row [(.sl 2 (List.map aB x2)),(.sl 3 (List.map aD x3)),(.mp 1),(.ref 4 2 0 0 x5.length .virt)]),(.map (bK .i64 (fun y=>AV.agg (aC y)) x4) x4.length),(.arr 4 (List.map aA x5) 0 0 true)] (.int .i64 r) [(.row [(.sl 2 (List.map aB x2)),(.sl 3 (List.map aD x3)),(.mp 1),(.ref 4 2 0 0 x5.length .virt)]),(.map (bK .i64 (fun y=>AV.agg (aC y)) x4) x4.length),(.arr 4 (List.map aA x5) 0 0 true)]:=by
 unfold mN at h
 obtain⟨x6,e0,h⟩:=bsm h
 obtain rfl:=osi h
 exact Tri.of (x:=(X24 x2 x3 x4 x5)) aE facts24 [.call ⟨true,[]⟩ (.bool (!false)) [(.row [(.sl 2 (List.map aB x2)),(.sl 3 (List.map aD x3)),(.mp 1),(.ref 4 2 0 0 x5.length .virt)]),(.map (bK .i64 (fun y=>AV.agg (aC y)) x4) x4.length),(.arr 4 (List.map aA x5) 0 0 true)],df,.call ⟨true,[]⟩ (.int .i64 x6) [],.norm 0 ⟨[(4,[])],[],false,[],[]⟩] [⟨(zU k x2 x1 _ e0)⟩,⟨(nF (nT rfl))⟩,⟨(r6 x2 x3 x4 x5)⟩] (by kernel_rfl)
end Go.Ws
