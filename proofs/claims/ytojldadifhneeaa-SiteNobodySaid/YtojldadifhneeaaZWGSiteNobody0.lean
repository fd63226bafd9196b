/-
  Walks, merged.
  Conditions: none.
-/
import Derived.Test.YtojldadifhneeaaZPre
import Derived.Test.YtojldadifhneeaaZPure
import Derived.Test.YtojldadifhneeaaZIns67
import Derived.Test.YtojldadifhneeaaZDel74
import Derived.Test.YtojldadifhneeaaZIns73
import Derived.Test.YtojldadifhneeaaZOppI
set_option linter.unusedVariables false
set_option linter.unusedSimpArgs false
namespace Go.Ws
open Go.Proofs
set_option linter.unusedSimpArgs false
set_option linter.unusedVariables false
set_option maxRecDepth 1000000
set_option maxHeartbeats 4000000
noncomputable def X62_1001:Ctx:=⟨Try.f62,[],false⟩
theorem xQ (k:Nat) (x1:aJ) (r:Unit) (h:i9 k x1=some r):Tri Try.prog 62 [(.inl 3 (List.map aD x1))] [] (.ref 3 0 0 0 x1.length .virt) [(.arr 3 (List.map aD x1) 0 0 false)]:=by
 unfold i9 at h
 by_cases c0:cV (x1.length*24)=true
 · rw[if_pos c0] at h
   obtain rfl:=osi h
   exact Tri.of (x:=X62_1001) aF aMS [df,.n x1.length,.norm 0 ⟨[(2,[])],[⟨.tmp 2,[],some 3⟩],false,[],[]⟩,.n x1.length,.rows (List.map aD x1)] [⟨(gU aD (l:=x1) (n:=x1.length) rfl)⟩,⟨(rfl:x1.length=x1.length)⟩,⟨(zle x1.length)⟩,⟨c0⟩,⟨(aL aD x1)⟩,⟨rF⟩] (by kernel_rfl)
 rw[if_neg c0] at h;replace c0:=eqf c0
 cases h
end Go.Ws

namespace Go.Ws
open Go.Proofs
set_option linter.unusedSimpArgs false
set_option linter.unusedVariables false
set_option maxRecDepth 1000000
set_option maxHeartbeats 4000000
noncomputable def X62_1002:Ctx:=⟨Try.f62,[],false⟩
theorem xU:Tri Try.prog 62 [.nils] [] (.ref 3 0 0 0 0 .virt) [(.arr 3 (List.map aD []) 0 0 false)]:=by
 obtain⟨r,h⟩:∃r,qQ=r:=⟨_,rfl⟩
 try rw[h]
 unfold qQ at h
 obtain rfl:=h
 exact Tri.of (x:=X62_1002) aF aMS [dt,.norm 0 ⟨[(2,[])],[⟨.tmp 2,[],some 3⟩],false,[],[]⟩,.n 0,.rows (List.map aD [])] [⟨(gU aD (l:=[]) (n:=0) rfl)⟩,⟨(rfl:0=0)⟩,⟨(zle 0)⟩,⟨rT⟩] (by kernel_rfl)
end Go.Ws

namespace Go.Ws
open Go.Proofs
set_option linter.unusedSimpArgs false
set_option linter.unusedVariables false
set_option maxRecDepth 1000000
set_option maxHeartbeats 4000000
theorem jK (k:Nat) (x1:aJ) (r:Unit) (h:oQ k x1=some r):Tri Try.prog 62 [(.sl 3 (List.map aD x1))] [] (.ref 3 0 0 0 x1.length .virt) [(.arr 3 (List.map aD x1) 0 0 false)]:=by
 refine Tri.slOf (xQ k x1 r h) fun h0=>?_
 have hx:x1=[]:=by simpa using h0
 subst hx
 exact xU
end Go.Ws

namespace Go.Ws
open Go.Proofs
set_option linter.unusedSimpArgs false
set_option linter.unusedVariables false
set_option maxRecDepth 1000000
set_option maxHeartbeats 4000000
noncomputable def X64:Ctx:=⟨Try.f64,[],true⟩
theorem iH (x1:Int) (x2:Int):Tri Try.prog 64 [(.int .i64 x1),(.int .u8 x2)] [] (.bool (hX x1 x2)) []:=by
 obtain⟨r,h⟩:∃r,hX x1 x2=r:=⟨_,rfl⟩
 try rw[h]
 unfold hX at h
 by_cases c0:ltI x2 64=true
 · rw[if_pos c0] at h
   by_cases c1:ltI x1 0=true
   · rw[if_pos c1] at h
     obtain rfl:=h
     exact Tri.of (x:=X64) aF aIN [dt,dt,dt,df,df,df] [⟨(nF c1)⟩,⟨(nF c1)⟩,⟨(nF c1)⟩,⟨c0⟩,⟨c0⟩,⟨c0⟩] (by kernel_rfl)
   rw[if_neg c1] at h;replace c1:=eqf c1
   obtain rfl:=h
   exact Tri.of (x:=X64) aF aIN [dt,dt,dt,dt,dt,dt] [⟨(nT c1)⟩,⟨(nT c1)⟩,⟨(nT c1)⟩,⟨c0⟩,⟨c0⟩,⟨c0⟩] (by kernel_rfl)
 rw[if_neg c0] at h;replace c0:=eqf c0
 obtain rfl:=h
 exact Tri.of (x:=X64) aF aIN [df,df,df,df,df,df] [⟨rF⟩,⟨rF⟩,⟨rF⟩,⟨c0⟩,⟨c0⟩,⟨c0⟩] (by kernel_rfl)
end Go.Ws

namespace Go.Ws
open Go.Proofs
set_option linter.unusedSimpArgs false
set_option linter.unusedVariables false
set_option maxRecDepth 1000000
set_option maxHeartbeats 4000000
noncomputable def X95:Ctx:=⟨Try.f95,[],true⟩
theorem gO (x1:Int):Tri Try.prog 95 [(.int .u8 x1)] [] (.bool (iF x1)) []:=by
 obtain⟨r,h⟩:∃r,iF x1=r:=⟨_,rfl⟩
 try rw[h]
 unfold iF at h
 obtain rfl:=h
 exact Tri.of (x:=X95) aF facts95 [] [] (by kernel_rfl)
end Go.Ws

namespace Go.Ws
open Go.Proofs
set_option linter.unusedSimpArgs false
set_option linter.unusedVariables false
set_option maxRecDepth 1000000
set_option maxHeartbeats 4000000
noncomputable def X85:Ctx:=⟨Try.f85,[],true⟩
def aGW (x1:Int):Ans:=.call ⟨true,[]⟩ (.bool (iF x1)) []
def aG0 (x2:Int):Ans:=.call ⟨true,[]⟩ (.bool (iF x2)) []
theorem yE (x1:Int) (x2:Int):Tri Try.prog 85 [(.int .u8 x1),(.int .u8 x2)] [] (.int .i64 (bA x1 x2)) []:=by
 obtain⟨r,h⟩:∃r,bA x1 x2=r:=⟨_,rfl⟩
 try rw[h]
 unfold bA at h
 by_cases c0:(iF x1)=true
 · rw[if_pos c0] at h
   by_cases c1:(iF x2)=true
   · rw[if_pos c1] at h
     obtain rfl:=h
     exact Tri.of (x:=X85) aF y9 [(aGW x1),(aG0 x2),dt,dt] [⟨c1⟩,⟨c0⟩,⟨(gO x2)⟩,⟨(gO x1)⟩] (by kernel_rfl)
   rw[if_neg c1] at h;replace c1:=eqf c1
   obtain rfl:=h
   exact Tri.of (x:=X85) aF y9 [(aGW x1),(aG0 x2),dt,df] [⟨c1⟩,⟨c0⟩,⟨(gO x2)⟩,⟨(gO x1)⟩] (by kernel_rfl)
 rw[if_neg c0] at h;replace c0:=eqf c0
 by_cases c1:(iF x2)=true
 · rw[if_pos c1] at h
   obtain rfl:=h
   exact Tri.of (x:=X85) aF y9 [(aGW x1),(aG0 x2),df,dt] [⟨c1⟩,⟨c0⟩,⟨(gO x2)⟩,⟨(gO x1)⟩] (by kernel_rfl)
 rw[if_neg c1] at h;replace c1:=eqf c1
 by_cases c2:ltI x1 x2=true
 · rw[if_pos c2] at h
   obtain rfl:=h
   exact Tri.of (x:=X85) aF y9 [(aGW x1),(aG0 x2),df,df,dt] [⟨c2⟩,⟨c1⟩,⟨c0⟩,⟨(gO x2)⟩,⟨(gO x1)⟩] (by kernel_rfl)
 rw[if_neg c2] at h;replace c2:=eqf c2
 by_cases c3:ltI x2 x1=true
 · rw[if_pos c3] at h
   obtain rfl:=h
   exact Tri.of (x:=X85) aF y9 [(aGW x1),(aG0 x2),df,df,df,dt] [⟨c3⟩,⟨c2⟩,⟨c1⟩,⟨c0⟩,⟨(gO x2)⟩,⟨(gO x1)⟩] (by kernel_rfl)
 rw[if_neg c3] at h;replace c3:=eqf c3
 obtain rfl:=h
 exact Tri.of (x:=X85) aF y9 [(aGW x1),(aG0 x2),df,df,df,df] [⟨c3⟩,⟨c2⟩,⟨c1⟩,⟨c0⟩,⟨(gO x2)⟩,⟨(gO x1)⟩] (by kernel_rfl)
end Go.Ws

namespace Go.Ws
open Go.Proofs
set_option linter.unusedSimpArgs false
set_option linter.unusedVariables false
set_option maxRecDepth 1000000
set_option maxHeartbeats 4000000
noncomputable def X96:Ctx:=⟨Try.f96,[],true⟩
theorem eC (x1:Int):Tri Try.prog 96 [(.int .i64 x1)] [] (.bool (fJ x1)) []:=by
 obtain⟨r,h⟩:∃r,fJ x1=r:=⟨_,rfl⟩
 try rw[h]
 unfold fJ at h
 obtain rfl:=h
 exact Tri.of (x:=X96) aF facts96 [] [] (by kernel_rfl)
end Go.Ws

namespace Go.Ws
open Go.Proofs
set_option linter.unusedSimpArgs false
set_option linter.unusedVariables false
set_option maxRecDepth 1000000
set_option maxHeartbeats 4000000
noncomputable def X86:Ctx:=⟨Try.f86,[],true⟩
def aGN (x1:Int):Ans:=.call ⟨true,[]⟩ (.bool (fJ x1)) []
def aG5 (x2:Int):Ans:=.call ⟨true,[]⟩ (.bool (fJ x2)) []
theorem aBM (x1:Int) (x2:Int):Tri Try.prog 86 [(.int .i64 x1),(.int .i64 x2)] [] (.int .i64 (dL x1 x2)) []:=by
 obtain⟨r,h⟩:∃r,dL x1 x2=r:=⟨_,rfl⟩
 try rw[h]
 unfold dL at h
 by_cases c0:(fJ x1)=true
 · rw[if_pos c0] at h
   by_cases c1:(fJ x2)=true
   · rw[if_pos c1] at h
     obtain rfl:=h
     exact Tri.of (x:=X86) aF yY [(aGN x1),(aG5 x2),dt,dt] [⟨c1⟩,⟨c0⟩,⟨(eC x2)⟩,⟨(eC x1)⟩] (by kernel_rfl)
   rw[if_neg c1] at h;replace c1:=eqf c1
   obtain rfl:=h
   exact Tri.of (x:=X86) aF yY [(aGN x1),(aG5 x2),dt,df] [⟨c1⟩,⟨c0⟩,⟨(eC x2)⟩,⟨(eC x1)⟩] (by kernel_rfl)
 rw[if_neg c0] at h;replace c0:=eqf c0
 by_cases c1:(fJ x2)=true
 · rw[if_pos c1] at h
   obtain rfl:=h
   exact Tri.of (x:=X86) aF yY [(aGN x1),(aG5 x2),df,dt] [⟨c1⟩,⟨c0⟩,⟨(eC x2)⟩,⟨(eC x1)⟩] (by kernel_rfl)
 rw[if_neg c1] at h;replace c1:=eqf c1
 by_cases c2:ltI x1 x2=true
 · rw[if_pos c2] at h
   obtain rfl:=h
   exact Tri.of (x:=X86) aF yY [(aGN x1),(aG5 x2),df,df,dt] [⟨c2⟩,⟨c1⟩,⟨c0⟩,⟨(eC x2)⟩,⟨(eC x1)⟩] (by kernel_rfl)
 rw[if_neg c2] at h;replace c2:=eqf c2
 by_cases c3:ltI x2 x1=true
 · rw[if_pos c3] at h
   obtain rfl:=h
   exact Tri.of (x:=X86) aF yY [(aGN x1),(aG5 x2),df,df,df,dt] [⟨c3⟩,⟨c2⟩,⟨c1⟩,⟨c0⟩,⟨(eC x2)⟩,⟨(eC x1)⟩] (by kernel_rfl)
 rw[if_neg c3] at h;replace c3:=eqf c3
 obtain rfl:=h
 exact Tri.of (x:=X86) aF yY [(aGN x1),(aG5 x2),df,df,df,df] [⟨c3⟩,⟨c2⟩,⟨c1⟩,⟨c0⟩,⟨(eC x2)⟩,⟨(eC x1)⟩] (by kernel_rfl)
end Go.Ws

namespace Go.Ws
open Go.Proofs
set_option linter.unusedSimpArgs false
set_option linter.unusedVariables false
set_option maxRecDepth 1000000
set_option maxHeartbeats 4000000
noncomputable def X84:Ctx:=⟨Try.f84,[],true⟩
noncomputable def L84_0:Code:=at_ Try.f84 [1,1,0,1,4,5]
def S84_0 (x1:List Int) (dD:Int):St:=⟨mkT 18 [(3,(.int .i64 0)),(6,(.sl 1 (List.map p6 x1))),(7,(.int .i64 (nI x1.length))),(8,(.int .i64 dD))],[]⟩
def aIS:St:=⟨mkT 18 [(3,(.int .i64 0))],[]⟩
def O84_0 (x1:List Int) (y:(Sum (Unit) (Int))):GX:=match y with
 | .inl y=>.st (.exit 0) (aIS)
 | .inr y=>.fin (.int .i64 y) []
theorem wP (x1:List Int) (y:(Sum (Unit) (Int))):∀(k:Nat) (dD:Int),kQ k x1 dD=some y→LT Try.prog X84 L84_0 (S84_0 x1 dD) (O84_0 x1 y)
 | 0,dD,h=>by cases h
 | k+1,dD,h=>by
  rw[kQ] at h
  by_cases cL0:ltI dD (nI x1.length)=true
  · rw[if_pos cL0] at h
    by_cases cL1:inI dD x1.length=true
    · rw[if_pos cL1] at h
      obtain⟨pK,eL2,h⟩:=bsm h
      by_cases cL3:eqI pK 0=true
      · rw[if_pos cL3] at h
        exact LT.next aF (hs:=⟨[(3,[]),(6,[]),(7,[]),(8,[])],[],false,[],[]⟩) (es:=none) [dt,.n x1.length,.row [(.int .i64 pK)],df] [⟨(nF cL3)⟩,⟨(aN (e:=p6) eL2 1 0 1 (by decide))⟩,⟨cL1⟩,⟨(aL p6 x1)⟩,⟨cL0⟩] (by kernel_rfl) (wP x1 y k (aI .i64 dD 1) h)
      rw[if_neg cL3] at h;replace cL3:=eqf cL3
      obtain rfl:=osi h
      show LT _ _ _ _ (.fin (.int .i64 pK) [])
      exact LT.done aF (hs:=⟨[],[],false,[],[]⟩) (es:=none) [dt,.n x1.length,.row [(.int .i64 pK)],dt] [⟨(nT cL3)⟩,⟨(aN (e:=p6) eL2 1 0 1 (by decide))⟩,⟨cL1⟩,⟨(aL p6 x1)⟩,⟨cL0⟩] (by kernel_rfl) (fun s h=>by cases h)
    rw[if_neg cL1] at h;replace cL1:=eqf cL1
    cases h
  rw[if_neg cL0] at h;replace cL0:=eqf cL0
  obtain rfl:=osi h
  show LT _ _ _ _ (.st (.exit 0) (aIS))
  exact LT.done aF (hs:=⟨[],[],false,[],[]⟩) (es:=(some ⟨[(3,[])],[],false,[],[]⟩)) [df] [⟨cL0⟩] (by kernel_rfl) (fun s h=>by cases h)
theorem aN5 (k:Nat) (x1:List Int) (r:Int) (h:aCF k x1=some r):Tri Try.prog 84 [(.sl 1 (List.map p6 x1))] [] (.int .i64 r) []:=by
 unfold aCF at h
 obtain⟨x2,e0,h⟩:=bsm h
 cases x2 with
 | inl x3 =>
  simp only[Sum.elim_inl] at h
  obtain rfl:=osi h
  exact Tri.of (x:=X84) aF aL4 [.n x1.length,.norm 2 ⟨[(3,[]),(6,[]),(7,[]),(8,[])],[],false,[],[]⟩,.out (.st .normal (aIS))] [⟨(LT.block (wP x1 _ k 0 e0))⟩,⟨(aL p6 x1)⟩] (by kernel_rfl)
 | inr x3 =>
  simp only[Sum.elim_inr] at h
  obtain rfl:=osi h
  exact Tri.of (x:=X84) aF aL4 [.n x1.length,.norm 2 ⟨[(3,[]),(6,[]),(7,[]),(8,[])],[],false,[],[]⟩,.out (.fin (.int .i64 x3) [])] [⟨(LT.blockFin (id:=0) (wP x1 _ k 0 e0))⟩,⟨(aL p6 x1)⟩] (by kernel_rfl)
end Go.Ws

namespace Go.Ws
open Go.Proofs
set_option linter.unusedSimpArgs false
set_option linter.unusedVariables false
set_option maxRecDepth 1000000
set_option maxHeartbeats 4000000
noncomputable def X66:Ctx:=⟨Try.f66,[],true⟩
theorem jW (k:Nat) (x1:Int) (x2:Int) (x3:Bool) (x4:Int) (x5:Int) (x6:Bool) (r:Int) (h:n0 k x1 x2 x3 x4 x5 x6=some r):Tri Try.prog 66 [(.agg [(.int .u8 x1),(.int .i64 x2),(.bool x3)]),(.agg [(.int .u8 x4),(.int .i64 x5),(.bool x6)])] [] (.int .i64 r) []:=by
 unfold n0 at h
 obtain⟨x7,e0,h⟩:=bsm h
 obtain rfl:=osi h
 exact Tri.of (x:=X66) aF facts66 [.call ⟨true,[]⟩ (.int .i64 (bA x1 x4)) [],.call ⟨true,[]⟩ (.int .i64 (dL x2 x5)) [],.call ⟨true,[]⟩ (.int .i64 x7) [],.rows (List.map p6 [(bA x1 x4),(dL x2 x5)])] [⟨(aN5 k [(bA x1 x4),(dL x2 x5)] _ e0)⟩,⟨(bC p6 (l:=[(bA x1 x4),(dL x2 x5)]) (n:=2) rfl)⟩,⟨(cY p6 (Nat.le_refl 2):0+2≤(List.map p6 [(bA x1 x4),(dL x2 x5)]).length)⟩,⟨(aBM x2 x5)⟩,⟨(yE x1 x4)⟩] (by kernel_rfl)
end Go.Ws

namespace Go.Ws
open Go.Proofs
set_option linter.unusedSimpArgs false
set_option linter.unusedVariables false
set_option maxRecDepth 1000000
set_option maxHeartbeats 4000000
noncomputable def X63:Ctx:=⟨Try.f63,[],true⟩
noncomputable def L63_0:Code:=at_ Try.f63 [1,0,1,4,5]
def S63_0 (x1:aJ) (bJ:Int):St:=⟨mkT 46 [(0,(.sl 3 (List.map aD x1))),(6,(.sl 3 (List.map aD x1))),(7,(.int .i64 (nI x1.length))),(8,(.int .i64 bJ))],[]⟩
def aHC:St:=⟨mkT 46 [],[]⟩
def O63_0 (x1:aJ) (y:zH):GX:=match y with
 | .inl y=>.st (.exit 0) (aHC)
 | .inr y=>.fin (.bool y) []
def aFQ (aP:Int × Int × Bool):Ans:=.row [(.int .u8 aP.1),(.int .i64 aP.2.1),(.bool aP.2.2)]
def aEY (aP:Int × Int × Bool):Ans:=.call ⟨true,[]⟩ (.bool (hX aP.2.1 aP.1)) []
def aJF (cE:Int × Int × Bool):Ans:=.row [(.int .u8 cE.1),(.int .i64 cE.2.1),(.bool cE.2.2)]
def aJK (nE:Int):Ans:=.call ⟨true,[]⟩ (.int .i64 nE) []
theorem mF (x1:aJ) (y:zH):∀(k:Nat) (bJ:Int),eJ k x1 bJ=some y→LT Try.prog X63 L63_0 (S63_0 x1 bJ) (O63_0 x1 y)
 | 0,bJ,h=>by cases h
 | k+1,bJ,h=>by
  rw[eJ] at h
  by_cases cL0:ltI bJ (nI x1.length)=true
  · rw[if_pos cL0] at h
    by_cases cL1:inI bJ x1.length=true
    · rw[if_pos cL1] at h
      obtain⟨aP,eL2,h⟩:=bsm h
      by_cases cL3:(hX aP.2.1 aP.1)=true
      · rw[if_pos cL3] at h
        by_cases cL4:eqI bJ 0=true
        · rw[if_pos cL4] at h
          exact LT.next aF (hs:=⟨[(0,[]),(6,[]),(7,[]),(8,[])],[],false,[],[]⟩) (es:=none) [dt,.n x1.length,(aFQ aP),(aEY aP),df,dt] [⟨cL4⟩,⟨(nF cL3)⟩,⟨(iH aP.2.1 aP.1)⟩,⟨(aN (e:=aD) eL2 3 0 3 (by decide))⟩,⟨cL1⟩,⟨(aL aD x1)⟩,⟨cL0⟩] (by kernel_rfl) (mF x1 y k (aI .i64 bJ 1) h)
        rw[if_neg cL4] at h;replace cL4:=eqf cL4
        by_cases cL5:inI (sL .i64 bJ 1) x1.length=true
        · rw[if_pos cL5] at h
          obtain⟨cE,eL6,h⟩:=bsm h
          obtain⟨nE,eL7,h⟩:=bsm h
          by_cases cL8:ltI nE 0=true
          · rw[if_pos cL8] at h
            by_cases cL9:eqI cE.1 aP.1=true
            · rw[if_pos cL9] at h
              by_cases cL10:cE.2.2=true
              · rw[if_pos cL10] at h
                obtain rfl:=osi h
                show LT _ _ _ _ (.fin (.bool false) [])
                exact LT.done aF (hs:=⟨[],[],false,[],[]⟩) (es:=none) [dt,.n x1.length,(aFQ aP),(aEY aP),df,df,.n x1.length,(aJF cE),(aJK nE),df,df,df,df,df,df,dt,dt,dt,dt,dt,dt,dt,df,dt,df,dt] [⟨rT⟩,⟨(nF cL8)⟩,⟨cL9⟩,⟨(nF cL8)⟩,⟨cL10⟩,⟨cL9⟩,⟨cL10⟩,⟨cL10⟩,⟨cL9⟩,⟨cL9⟩,⟨cL9⟩,⟨(nF cL8)⟩,⟨(nF cL8)⟩,⟨(nF cL8)⟩,⟨(nF cL8)⟩,⟨(nF cL8)⟩,⟨(nF cL8)⟩,⟨(jW k cE.1 cE.2.1 cE.2.2 aP.1 aP.2.1 aP.2.2 _ eL7)⟩,⟨(aN (e:=aD) eL6 3 0 3 (by decide))⟩,⟨cL5⟩,⟨(aL aD x1)⟩,⟨cL4⟩,⟨(nF cL3)⟩,⟨(iH aP.2.1 aP.1)⟩,⟨(aN (e:=aD) eL2 3 0 3 (by decide))⟩,⟨cL1⟩,⟨(aL aD x1)⟩,⟨cL0⟩] (by kernel_rfl) (fun s h=>by cases h)
              rw[if_neg cL10] at h;replace cL10:=eqf cL10
              by_cases cL11:aP.2.2=true
              · rw[if_pos cL11] at h
                obtain rfl:=osi h
                show LT _ _ _ _ (.fin (.bool false) [])
                exact LT.done aF (hs:=⟨[],[],false,[],[]⟩) (es:=none) [dt,.n x1.length,(aFQ aP),(aEY aP),df,df,.n x1.length,(aJF cE),(aJK nE),df,df,df,df,df,df,dt,dt,dt,df,df,dt,df,df,dt,df,dt] [⟨cL11⟩,⟨(nF cL8)⟩,⟨cL9⟩,⟨(nF cL8)⟩,⟨cL10⟩,⟨cL9⟩,⟨cL10⟩,⟨cL10⟩,⟨cL9⟩,⟨cL9⟩,⟨cL9⟩,⟨(nF cL8)⟩,⟨(nF cL8)⟩,⟨(nF cL8)⟩,⟨(nF cL8)⟩,⟨(nF cL8)⟩,⟨(nF cL8)⟩,⟨(jW k cE.1 cE.2.1 cE.2.2 aP.1 aP.2.1 aP.2.2 _ eL7)⟩,⟨(aN (e:=aD) eL6 3 0 3 (by decide))⟩,⟨cL5⟩,⟨(aL aD x1)⟩,⟨cL4⟩,⟨(nF cL3)⟩,⟨(iH aP.2.1 aP.1)⟩,⟨(aN (e:=aD) eL2 3 0 3 (by decide))⟩,⟨cL1⟩,⟨(aL aD x1)⟩,⟨cL0⟩] (by kernel_rfl) (fun s h=>by cases h)
              rw[if_neg cL11] at h;replace cL11:=eqf cL11
              exact LT.next aF (hs:=⟨[(0,[]),(6,[]),(7,[]),(8,[])],[],false,[],[]⟩) (es:=none) [dt,.n x1.length,(aFQ aP),(aEY aP),df,df,.n x1.length,(aJF cE),(aJK nE),df,df,df,df,df,df,dt,dt,dt,df,df,dt,df,df,dt,df,df] [⟨cL11⟩,⟨(nF cL8)⟩,⟨cL9⟩,⟨(nF cL8)⟩,⟨cL10⟩,⟨cL9⟩,⟨cL10⟩,⟨cL10⟩,⟨cL9⟩,⟨cL9⟩,⟨cL9⟩,⟨(nF cL8)⟩,⟨(nF cL8)⟩,⟨(nF cL8)⟩,⟨(nF cL8)⟩,⟨(nF cL8)⟩,⟨(nF cL8)⟩,⟨(jW k cE.1 cE.2.1 cE.2.2 aP.1 aP.2.1 aP.2.2 _ eL7)⟩,⟨(aN (e:=aD) eL6 3 0 3 (by decide))⟩,⟨cL5⟩,⟨(aL aD x1)⟩,⟨cL4⟩,⟨(nF cL3)⟩,⟨(iH aP.2.1 aP.1)⟩,⟨(aN (e:=aD) eL2 3 0 3 (by decide))⟩,⟨cL1⟩,⟨(aL aD x1)⟩,⟨cL0⟩] (by kernel_rfl) (mF x1 y k (aI .i64 bJ 1) h)
            rw[if_neg cL9] at h;replace cL9:=eqf cL9
            exact LT.next aF (hs:=⟨[(0,[]),(6,[]),(7,[]),(8,[])],[],false,[],[]⟩) (es:=none) [dt,.n x1.length,(aFQ aP),(aEY aP),df,df,.n x1.length,(aJF cE),(aJK nE),df,df,df,df,df,df,df,df,df,df,df,df,df,df] [⟨rF⟩,⟨(nF cL8)⟩,⟨cL9⟩,⟨(nF cL8)⟩,⟨cL9⟩,⟨cL9⟩,⟨cL9⟩,⟨cL9⟩,⟨(nF cL8)⟩,⟨(nF cL8)⟩,⟨(nF cL8)⟩,⟨(nF cL8)⟩,⟨(nF cL8)⟩,⟨(nF cL8)⟩,⟨(jW k cE.1 cE.2.1 cE.2.2 aP.1 aP.2.1 aP.2.2 _ eL7)⟩,⟨(aN (e:=aD) eL6 3 0 3 (by decide))⟩,⟨cL5⟩,⟨(aL aD x1)⟩,⟨cL4⟩,⟨(nF cL3)⟩,⟨(iH aP.2.1 aP.1)⟩,⟨(aN (e:=aD) eL2 3 0 3 (by decide))⟩,⟨cL1⟩,⟨(aL aD x1)⟩,⟨cL0⟩] (by kernel_rfl) (mF x1 y k (aI .i64 bJ 1) h)
          rw[if_neg cL8] at h;replace cL8:=eqf cL8
          obtain rfl:=osi h
          show LT _ _ _ _ (.fin (.bool false) [])
          exact LT.done aF (hs:=⟨[],[],false,[],[]⟩) (es:=none) [dt,.n x1.length,(aFQ aP),(aEY aP),df,df,.n x1.length,(aJF cE),(aJK nE),dt,dt,dt,dt,dt,dt,dt,dt,dt] [⟨rT⟩,⟨(nT cL8)⟩,⟨(nT cL8)⟩,⟨(nT cL8)⟩,⟨(nT cL8)⟩,⟨(nT cL8)⟩,⟨(nT cL8)⟩,⟨(nT cL8)⟩,⟨(nT cL8)⟩,⟨(jW k cE.1 cE.2.1 cE.2.2 aP.1 aP.2.1 aP.2.2 _ eL7)⟩,⟨(aN (e:=aD) eL6 3 0 3 (by decide))⟩,⟨cL5⟩,⟨(aL aD x1)⟩,⟨cL4⟩,⟨(nF cL3)⟩,⟨(iH aP.2.1 aP.1)⟩,⟨(aN (e:=aD) eL2 3 0 3 (by decide))⟩,⟨cL1⟩,⟨(aL aD x1)⟩,⟨cL0⟩] (by kernel_rfl) (fun s h=>by cases h)
        rw[if_neg cL5] at h;replace cL5:=eqf cL5
        cases h
      rw[if_neg cL3] at h;replace cL3:=eqf cL3
      obtain rfl:=osi h
      show LT _ _ _ _ (.fin (.bool false) [])
      exact LT.done aF (hs:=⟨[],[],false,[],[]⟩) (es:=none) [dt,.n x1.length,(aFQ aP),(aEY aP),dt] [⟨(nT cL3)⟩,⟨(iH aP.2.1 aP.1)⟩,⟨(aN (e:=aD) eL2 3 0 3 (by decide))⟩,⟨cL1⟩,⟨(aL aD x1)⟩,⟨cL0⟩] (by kernel_rfl) (fun s h=>by cases h)
    rw[if_neg cL1] at h;replace cL1:=eqf cL1
    cases h
  rw[if_neg cL0] at h;replace cL0:=eqf cL0
  obtain rfl:=osi h
  show LT _ _ _ _ (.st (.exit 0) (aHC))
  exact LT.done aF (hs:=⟨[],[],false,[],[]⟩) (es:=(some ⟨[],[],false,[],[]⟩)) [df] [⟨cL0⟩] (by kernel_rfl) (fun s h=>by cases h)
theorem nL (k:Nat) (x1:aJ) (r:Bool) (h:rP k x1=some r):Tri Try.prog 63 [(.sl 3 (List.map aD x1))] [] (.bool r) []:=by
 unfold rP at h
 obtain⟨x2,e0,h⟩:=bsm h
 cases x2 with
 | inl x3 =>
  simp only[Sum.elim_inl] at h
  obtain rfl:=osi h
  exact Tri.of (x:=X63) aF aM1 [.n x1.length,.norm 2 ⟨[(0,[]),(6,[]),(7,[]),(8,[])],[],false,[],[]⟩,.out (.st .normal (aHC))] [⟨(LT.block (mF x1 _ k 0 e0))⟩,⟨(aL aD x1)⟩] (by kernel_rfl)
 | inr x3 =>
  simp only[Sum.elim_inr] at h
  obtain rfl:=osi h
  exact Tri.of (x:=X63) aF aM1 [.n x1.length,.norm 2 ⟨[(0,[]),(6,[]),(7,[]),(8,[])],[],false,[],[]⟩,.out (.fin (.bool x3) [])] [⟨(LT.blockFin (id:=0) (mF x1 _ k 0 e0))⟩,⟨(aL aD x1)⟩] (by kernel_rfl)
end Go.Ws

namespace Go.Ws
open Go.Proofs
set_option linter.unusedSimpArgs false
set_option linter.unusedVariables false
set_option maxRecDepth 1000000
set_option maxHeartbeats 4000000
noncomputable def X65:Ctx:=⟨Try.f65,[],true⟩
noncomputable def L65_0:Code:=at_ Try.f65 [1,1,1,0,4,5]
def S65_0 (x1:aJ) (x2:Int) (x3:Int) (x4:Bool) (bY:Int) (cF:Int):St:=⟨mkT 49 [(0,(.sl 3 (List.map aD x1))),(2,(.fn 66 [])),(4,(.hp 0 0)),(8,(.int .i64 (nI x1.length))),(9,(.int .i64 bY)),(10,(.int .i64 cF))],[(.row [(.int .u8 x2),(.int .i64 x3),(.bool x4)])]⟩
def aDY (x1:aJ) (x2:Int) (x3:Int) (x4:Bool) (v65002_1:Int):St:=⟨mkT 49 [(0,(.sl 3 (List.map aD x1))),(2,(.fn 66 [])),(4,(.hp 0 0)),(8,(.int .i64 (nI x1.length))),(9,(.int .i64 v65002_1))],[(.row [(.int .u8 x2),(.int .i64 x3),(.bool x4)])]⟩
def O65_0 (x1:aJ) (x2:Int) (x3:Int) (x4:Bool) (y:(Int)):GX:=.st (.exit 0) (aDY x1 x2 x3 x4 y)
def A65_0:Ans:=.norm 2 ⟨[(0,[]),(2,[]),(4,[]),(8,[]),(9,[]),(10,[])],[⟨.tmp 4,[],none⟩],false,[],[]⟩
theorem gF (x1:aJ) (x2:Int) (x3:Int) (x4:Bool) (y:(Int)):∀(k:Nat) (bY:Int) (cF:Int),aX k x1 x2 x3 x4 bY cF=some y→LT Try.prog X65 L65_0 (S65_0 x1 x2 x3 x4 bY cF) (O65_0 x1 x2 x3 x4 y)
 | 0,bY,cF,h=>by cases h
 | k+1,bY,cF,h=>by
  rw[aX] at h
  by_cases cL0:ltI bY cF=true
  · rw[if_pos cL0] at h
    by_cases cL1:inI (conv .i64 (sV .u64 (conv .u64 (aI .i64 bY cF)) 1)) x1.length=true
    · rw[if_pos cL1] at h
      obtain⟨g5,eL2,h⟩:=bsm h
      obtain⟨uP,eL3,h⟩:=bsm h
      by_cases cL4:ltI uP 0=true
      · rw[if_pos cL4] at h
        exact LT.next aF (hs:=⟨[(0,[]),(2,[]),(4,[]),(8,[]),(9,[]),(10,[])],[⟨.tmp 4,[],none⟩],false,[],[]⟩) (es:=none) [dt,.n x1.length,.row [(.int .u8 g5.1),(.int .i64 g5.2.1),(.bool g5.2.2)],.call ⟨true,[]⟩ (.int .i64 uP) [],dt] [⟨cL4⟩,⟨(jW k g5.1 g5.2.1 g5.2.2 x2 x3 x4 _ eL3)⟩,⟨(aN (e:=aD) eL2 3 0 3 (by decide))⟩,⟨cL1⟩,⟨(aL aD x1)⟩,⟨cL0⟩] (by kernel_rfl) (gF x1 x2 x3 x4 y k (aI .i64 (conv .i64 (sV .u64 (conv .u64 (aI .i64 bY cF)) 1)) 1) cF h)
      rw[if_neg cL4] at h;replace cL4:=eqf cL4
      exact LT.next aF (hs:=⟨[(0,[]),(2,[]),(4,[]),(8,[]),(9,[]),(10,[])],[⟨.tmp 4,[],none⟩],false,[],[]⟩) (es:=none) [dt,.n x1.length,.row [(.int .u8 g5.1),(.int .i64 g5.2.1),(.bool g5.2.2)],.call ⟨true,[]⟩ (.int .i64 uP) [],df] [⟨cL4⟩,⟨(jW k g5.1 g5.2.1 g5.2.2 x2 x3 x4 _ eL3)⟩,⟨(aN (e:=aD) eL2 3 0 3 (by decide))⟩,⟨cL1⟩,⟨(aL aD x1)⟩,⟨cL0⟩] (by kernel_rfl) (gF x1 x2 x3 x4 y k bY (conv .i64 (sV .u64 (conv .u64 (aI .i64 bY cF)) 1)) h)
    rw[if_neg cL1] at h;replace cL1:=eqf cL1
    cases h
  rw[if_neg cL0] at h;replace cL0:=eqf cL0
  obtain rfl:=osi h
  show LT _ _ _ _ (.st (.exit 0) (aDY x1 x2 x3 x4 bY))
  exact LT.done aF (hs:=⟨[],[],false,[],[]⟩) (es:=(some ⟨[(0,[]),(2,[]),(4,[]),(8,[]),(9,[])],[⟨.tmp 4,[],none⟩],false,[],[]⟩)) [df] [⟨cL0⟩] (by kernel_rfl) (fun s h=>by cases h)
theorem kE (k:Nat) (x1:aJ) (x2:Int) (x3:Int) (x4:Bool) (r:Int × Bool) (h:fR k x1 x2 x3 x4=some r):Tri Try.prog 65 [(.sl 3 (List.map aD x1)),(.agg [(.int .u8 x2),(.int .i64 x3),(.bool x4)]),(.fn 66 [])] [] (.tup [(.int .i64 r.1),(.bool r.2)]) []:=by
 unfold fR at h
 obtain⟨x6,e0,h⟩:=bsm h
 by_cases c2:ltI x6 (nI x1.length)=true
 · rw[if_pos c2] at h
   by_cases c3:inI x6 x1.length=true
   · rw[if_pos c3] at h
     obtain⟨x7,e4,h⟩:=bsm h
     obtain⟨x8,e5,h⟩:=bsm h
     obtain rfl:=osi h
     exact Tri.of (x:=X65) aF aL3 [.n x1.length,A65_0,.out (.st .normal (aDY x1 x2 x3 x4 x6)),dt,dt,dt,dt,.n x1.length,dt,.row [(.int .u8 x7.1),(.int .i64 x7.2.1),(.bool x7.2.2)],dt,dt,.call ⟨true,[]⟩ (.int .i64 x8) [],dt,dt] [⟨c2⟩,⟨c2⟩,⟨(jW k x7.1 x7.2.1 x7.2.2 x2 x3 x4 _ e5)⟩,⟨c2⟩,⟨c2⟩,⟨(aN (e:=aD) e4 3 0 3 (by decide))⟩,⟨c2⟩,⟨c3⟩,⟨(aL aD x1)⟩,⟨c2⟩,⟨c2⟩,⟨c2⟩,⟨c2⟩,⟨(LT.block (gF x1 x2 x3 x4 _ k 0 (nI x1.length) e0))⟩,⟨(aL aD x1)⟩] (by kernel_rfl)
   rw[if_neg c3] at h;replace c3:=eqf c3
   cases h
 rw[if_neg c2] at h;replace c2:=eqf c2
 obtain rfl:=osi h
 exact Tri.of (x:=X65) aF aL3 [.n x1.length,A65_0,.out (.st .normal (aDY x1 x2 x3 x4 x6)),df,df,df,df,df,df,df,df,df] [⟨c2⟩,⟨c2⟩,⟨c2⟩,⟨c2⟩,⟨c2⟩,⟨c2⟩,⟨c2⟩,⟨c2⟩,⟨c2⟩,⟨(LT.block (gF x1 x2 x3 x4 _ k 0 (nI x1.length) e0))⟩,⟨(aL aD x1)⟩] (by kernel_rfl)
end Go.Ws

namespace Go.Ws
open Go.Proofs
set_option linter.unusedSimpArgs false
set_option linter.unusedVariables false
set_option maxRecDepth 1000000
set_option maxHeartbeats 4000000
theorem aCV (k:Nat) (x1:Int) (x2:aJ) (x3:aJ) (r:aJ) (h:pA k x1 x2 x3=some r):Tri Try.prog 67 [(.ref 3 0 0 0 x2.length .virt),(.int .i64 x1),(.ref 3 1 0 0 x3.length .full)] [(.arr 3 (List.map aD x2) 0 0 false),(.arr 3 (List.map aD x3) 0 0 false)] (.ref 3 0 1 0 r.length .full) [(.arr 3 (List.map aD r) 1 1 false),(.arr 3 (List.map aD x3) 0 0 false)]:=ins_ok67 _ h rfl
end Go.Ws

namespace Go.Ws
open Go.Proofs
set_option linter.unusedSimpArgs false
set_option linter.unusedVariables false
set_option maxRecDepth 1000000
set_option maxHeartbeats 4000000
noncomputable def X46:Ctx:=⟨Try.f46,[],true⟩
noncomputable def L46_0:Code:=at_ Try.f46 [1,1,1,0,1,4,5]
def S46_0 (x1:aJ) (x2:Int) (x3:Int) (x4:Bool) (cG:Int):St:=⟨mkT 82 [(0,(.ref 3 0 0 0 x1.length .virt)),(1,(.int .i64 x2)),(2,(.int .u8 x3)),(3,(.bool x4)),(27,(.ref 3 0 0 0 x1.length .virt)),(28,(.int .i64 (nI x1.length))),(29,(.int .i64 cG))],[(.arr 3 (List.map aD x1) 0 0 false)]⟩
def aBG (x1:aJ) (x2:Int) (x3:Int) (x4:Bool):St:=⟨mkT 82 [(0,(.ref 3 0 0 0 x1.length .virt)),(1,(.int .i64 x2)),(2,(.int .u8 x3)),(3,(.bool x4))],[(.arr 3 (List.map aD x1) 0 0 false)]⟩
def O46_0 (x1:aJ) (x2:Int) (x3:Int) (x4:Bool) (y:(Sum (Unit) (aJ × Int))):GX:=match y with
 | .inl y=>.st (.exit 0) (aBG x1 x2 x3 x4)
 | .inr y=>.fin (.tup [(.sl 3 (List.map aD y.1)),(.int .i64 y.2)]) []
def aJO (g6:Int × Int × Bool):Ans:=.row [(.int .u8 g6.1),(.int .i64 g6.2.1),(.bool g6.2.2)]
def aGV (x1:aJ):Ans:=.call ⟨true,[]⟩ (.ref 3 0 0 0 x1.length .virt) [(.arr 3 (List.map aD x1) 0 0 false)]
def aKM (x2:Int) (x3:Int):Ans:=.call ⟨true,[]⟩ (.bool (hX x2 x3)) []
def A46_3:Ans:=.norm 2 ⟨[(0,[]),(1,[]),(2,[]),(3,[]),(27,[]),(28,[]),(29,[])],[⟨.tmp 0,[],none⟩],false,[],[]⟩
def A46_4 (x9:Int × Bool):Ans:=.call ⟨true,[]⟩ (.tup [(.int .i64 x9.1),(.bool x9.2)]) []
theorem jH (x1:aJ) (x2:Int) (x3:Int) (x4:Bool) (y:(Sum (Unit) (aJ × Int))):∀(k:Nat) (cG:Int),fK k x1 x2 x3 x4 cG=some y→LT Try.prog X46 L46_0 (S46_0 x1 x2 x3 x4 cG) (O46_0 x1 x2 x3 x4 y)
 | 0,cG,h=>by cases h
 | k+1,cG,h=>by
  rw[fK] at h
  by_cases cL0:ltI cG (nI x1.length)=true
  · rw[if_pos cL0] at h
    by_cases cL1:inI cG x1.length=true
    · rw[if_pos cL1] at h
      obtain⟨g6,eL2,h⟩:=bsm h
      by_cases cL3:eqI g6.1 x3=true
      · rw[if_pos cL3] at h
        by_cases cL4:eqI g6.2.1 x2=true
        · rw[if_pos cL4] at h
          exact LT.next aF (hs:=⟨[(0,[]),(1,[]),(2,[]),(3,[]),(27,[]),(28,[]),(29,[])],[⟨.tmp 0,[],none⟩],false,[],[]⟩) (es:=none) [dt,(aJO g6),dt,dt,dt,dt,dt,df,df,df,df,df] [⟨rF⟩,⟨(nF cL4)⟩,⟨(nF cL4)⟩,⟨(nF cL4)⟩,⟨(nF cL4)⟩,⟨cL3⟩,⟨cL3⟩,⟨cL3⟩,⟨cL3⟩,⟨cL3⟩,⟨(aN (e:=aD) eL2 3 0 3 (by decide))⟩,⟨cL1⟩,⟨cL0⟩] (by kernel_rfl) (jH x1 x2 x3 x4 y k (aI .i64 cG 1) h)
        rw[if_neg cL4] at h;replace cL4:=eqf cL4
        by_cases cL5:x4=true
        · rw[if_pos cL5] at h
          obtain rfl:=osi h
          show LT _ _ _ _ (.fin (.tup [(.sl 3 (List.map aD ((x1,9).1))),(.int .i64 ((x1,9).2))]) [])
          exact LT.done aF (hs:=⟨[],[],false,[],[]⟩) (es:=none) [dt,(aJO g6),dt,dt,dt,dt,dt,dt,dt,dt,dt,dt,dt,dt,dt,.rows (List.map aD x1)] [⟨(bC aD (l:=x1) (n:=x1.length) rfl)⟩,⟨(cY aD (Nat.le_refl x1.length):0+x1.length≤(List.map aD x1).length)⟩,⟨rT⟩,⟨(nT cL4)⟩,⟨cL5⟩,⟨(nT cL4)⟩,⟨cL5⟩,⟨cL5⟩,⟨(nT cL4)⟩,⟨(nT cL4)⟩,⟨cL3⟩,⟨cL3⟩,⟨cL3⟩,⟨cL3⟩,⟨cL3⟩,⟨(aN (e:=aD) eL2 3 0 3 (by decide))⟩,⟨cL1⟩,⟨cL0⟩] (by kernel_rfl) (fun s h=>by cases h)
        rw[if_neg cL5] at h;replace cL5:=eqf cL5
        by_cases cL6:g6.2.2=true
        · rw[if_pos cL6] at h
          obtain rfl:=osi h
          show LT _ _ _ _ (.fin (.tup [(.sl 3 (List.map aD ((x1,9).1))),(.int .i64 ((x1,9).2))]) [])
          exact LT.done aF (hs:=⟨[],[],false,[],[]⟩) (es:=none) [dt,(aJO g6),dt,dt,dt,dt,dt,dt,dt,df,df,dt,df,dt,dt,.rows (List.map aD x1)] [⟨(bC aD (l:=x1) (n:=x1.length) rfl)⟩,⟨(cY aD (Nat.le_refl x1.length):0+x1.length≤(List.map aD x1).length)⟩,⟨cL6⟩,⟨(nT cL4)⟩,⟨cL5⟩,⟨(nT cL4)⟩,⟨cL5⟩,⟨cL5⟩,⟨(nT cL4)⟩,⟨(nT cL4)⟩,⟨cL3⟩,⟨cL3⟩,⟨cL3⟩,⟨cL3⟩,⟨cL3⟩,⟨(aN (e:=aD) eL2 3 0 3 (by decide))⟩,⟨cL1⟩,⟨cL0⟩] (by kernel_rfl) (fun s h=>by cases h)
        rw[if_neg cL6] at h;replace cL6:=eqf cL6
        exact LT.next aF (hs:=⟨[(0,[]),(1,[]),(2,[]),(3,[]),(27,[]),(28,[]),(29,[])],[⟨.tmp 0,[],none⟩],false,[],[]⟩) (es:=none) [dt,(aJO g6),dt,dt,dt,dt,dt,dt,dt,df,df,dt,df,dt,df] [⟨cL6⟩,⟨(nT cL4)⟩,⟨cL5⟩,⟨(nT cL4)⟩,⟨cL5⟩,⟨cL5⟩,⟨(nT cL4)⟩,⟨(nT cL4)⟩,⟨cL3⟩,⟨cL3⟩,⟨cL3⟩,⟨cL3⟩,⟨cL3⟩,⟨(aN (e:=aD) eL2 3 0 3 (by decide))⟩,⟨cL1⟩,⟨cL0⟩] (by kernel_rfl) (jH x1 x2 x3 x4 y k (aI .i64 cG 1) h)
      rw[if_neg cL3] at h;replace cL3:=eqf cL3
      exact LT.next aF (hs:=⟨[(0,[]),(1,[]),(2,[]),(3,[]),(27,[]),(28,[]),(29,[])],[⟨.tmp 0,[],none⟩],false,[],[]⟩) (es:=none) [dt,(aJO g6),df,df,df,df,df,df,df,df,df,df] [⟨rF⟩,⟨rF⟩,⟨rF⟩,⟨rF⟩,⟨rF⟩,⟨cL3⟩,⟨cL3⟩,⟨cL3⟩,⟨cL3⟩,⟨cL3⟩,⟨(aN (e:=aD) eL2 3 0 3 (by decide))⟩,⟨cL1⟩,⟨cL0⟩] (by kernel_rfl) (jH x1 x2 x3 x4 y k (aI .i64 cG 1) h)
    rw[if_neg cL1] at h;replace cL1:=eqf cL1
    cases h
  rw[if_neg cL0] at h;replace cL0:=eqf cL0
  obtain rfl:=osi h
  show LT _ _ _ _ (.st (.exit 0) (aBG x1 x2 x3 x4))
  exact LT.done aF (hs:=⟨[],[],false,[],[]⟩) (es:=(some ⟨[(0,[]),(1,[]),(2,[]),(3,[])],[⟨.tmp 0,[],none⟩],false,[],[]⟩)) [df] [⟨cL0⟩] (by kernel_rfl) (fun s h=>by cases h)
theorem iV (k:Nat) (x1:aJ) (x2:Int) (x3:Int) (x4:Bool) (r:aJ × Int) (h:rN k x1 x2 x3 x4=some r):Tri Try.prog 46 [(.sl 3 (List.map aD x1)),(.int .i64 x2),(.int .u8 x3),(.bool x4)] [] (.tup [(.sl 3 (List.map aD r.1)),(.int .i64 r.2)]) []:=by
 unfold rN at h
 obtain⟨x5,e0,h⟩:=bsm h
 obtain⟨x6,e1,h⟩:=bsm h
 by_cases c2:x6=true
 · rw[if_pos c2] at h
   by_cases c3:(hX x2 x3)=true
   · rw[if_pos c3] at h
     obtain⟨x7,e4,h⟩:=bsm h
     cases x7 with
     | inl x8 =>
      simp only[Sum.elim_inl] at h
      obtain⟨x9,e6,h⟩:=bsm h
      by_cases c7:x9.2=true
      · rw[if_pos c7] at h
        by_cases c8:inI x9.1 x1.length=true
        · rw[if_pos c8] at h
          obtain⟨x10,e9,h⟩:=bsm h
          by_cases c10:x10.2.2=true
          · rw[if_pos c10] at h
            obtain rfl:=osi h
            exact Tri.of (x:=X46) aF zB [(aGV x1),.call ⟨true,[]⟩ (.bool x6) [],.rows (List.map aD x1),df,df,df,(aKM x2 x3),df,df,df,A46_3,.out (.st .normal (aBG x1 x2 x3 x4)),(A46_4 x9),.rows (List.map aD x1),df,.row [(.bool x10.2.2)],dt,dt,.rows (List.map aD (List.set x1 (tN x9.1) (x10.1,x10.2.1,true))),.rows (List.map aD (List.set x1 (tN x9.1) (x10.1,x10.2.1,true)))] [⟨(bC aD (l:=(List.set x1 (tN x9.1) (x10.1,x10.2.1,true))) (n:=x1.length) (by simp:x1.length=List.length (α:=Int × Int × Bool) (List.set x1 (tN x9.1) (x10.1,x10.2.1,true))))⟩,⟨(cY aD (Nat.le_of_eq (by simp:x1.length=List.length (α:=Int × Int × Bool) (List.set x1 (tN x9.1) (x10.1,x10.2.1,true)))))⟩,⟨(rM (e:=aD) e9 2 [(.bool true)] (x10.1,x10.2.1,true) rfl)⟩,⟨c8⟩,⟨c10⟩,⟨c10⟩,⟨(aN (e:=aD) e9 3 2 1 (by decide))⟩,⟨c8⟩,⟨(nF c7)⟩,⟨(kE k x1 x3 x2 x4 _ e6)⟩,⟨(bC aD (l:=x1) (n:=x1.length) rfl)⟩,⟨(cY aD (Nat.le_refl x1.length):0+x1.length≤(List.map aD x1).length)⟩,⟨(LT.block (jH x1 x2 x3 x4 _ k 0 e4))⟩,⟨(nF c3)⟩,⟨(nF c2)⟩,⟨(nF c2)⟩,⟨(iH x2 x3)⟩,⟨(nF c2)⟩,⟨(nF c2)⟩,⟨(nF c2)⟩,⟨(nL k x1 _ e1)⟩,⟨(bC aD (l:=x1) (n:=x1.length) rfl)⟩,⟨(cY aD (Nat.le_refl x1.length):0+x1.length≤(List.map aD x1).length)⟩,⟨(jK k x1 _ e0)⟩] (by kernel_rfl)
          rw[if_neg c10] at h;replace c10:=eqf c10
          obtain rfl:=osi h
          exact Tri.of (x:=X46) aF zB [(aGV x1),.call ⟨true,[]⟩ (.bool x6) [],.rows (List.map aD x1),df,df,df,(aKM x2 x3),df,df,df,A46_3,.out (.st .normal (aBG x1 x2 x3 x4)),(A46_4 x9),.rows (List.map aD x1),df,.row [(.bool x10.2.2)],df,df,.rows (List.map aD (List.set x1 (tN x9.1) (x10.1,x10.2.1,x4))),.rows (List.map aD (List.set x1 (tN x9.1) (x10.1,x10.2.1,x4)))] [⟨(bC aD (l:=(List.set x1 (tN x9.1) (x10.1,x10.2.1,x4))) (n:=x1.length) (by simp:x1.length=List.length (α:=Int × Int × Bool) (List.set x1 (tN x9.1) (x10.1,x10.2.1,x4))))⟩,⟨(cY aD (Nat.le_of_eq (by simp:x1.length=List.length (α:=Int × Int × Bool) (List.set x1 (tN x9.1) (x10.1,x10.2.1,x4)))))⟩,⟨(rM (e:=aD) e9 2 [(.bool x4)] (x10.1,x10.2.1,x4) rfl)⟩,⟨c8⟩,⟨c10⟩,⟨c10⟩,⟨(aN (e:=aD) e9 3 2 1 (by decide))⟩,⟨c8⟩,⟨(nF c7)⟩,⟨(kE k x1 x3 x2 x4 _ e6)⟩,⟨(bC aD (l:=x1) (n:=x1.length) rfl)⟩,⟨(cY aD (Nat.le_refl x1.length):0+x1.length≤(List.map aD x1).length)⟩,⟨(LT.block (jH x1 x2 x3 x4 _ k 0 e4))⟩,⟨(nF c3)⟩,⟨(nF c2)⟩,⟨(nF c2)⟩,⟨(iH x2 x3)⟩,⟨(nF c2)⟩,⟨(nF c2)⟩,⟨(nF c2)⟩,⟨(nL k x1 _ e1)⟩,⟨(bC aD (l:=x1) (n:=x1.length) rfl)⟩,⟨(cY aD (Nat.le_refl x1.length):0+x1.length≤(List.map aD x1).length)⟩,⟨(jK k x1 _ e0)⟩] (by kernel_rfl)
        rw[if_neg c8] at h;replace c8:=eqf c8
        cases h
      rw[if_neg c7] at h;replace c7:=eqf c7
      obtain⟨x10,e8,h⟩:=bsm h
      obtain rfl:=osi h
      exact Tri.of (x:=X46) aF zB [(aGV x1),.call ⟨true,[]⟩ (.bool x6) [],.rows (List.map aD x1),df,df,df,(aKM x2 x3),df,df,df,A46_3,.out (.st .normal (aBG x1 x2 x3 x4)),(A46_4 x9),.rows (List.map aD x1),dt,.call ⟨false,[]⟩ (.ref 3 0 1 0 x10.length .full) [(.arr 3 (List.map aD x10) 1 1 false),(.arr 3 (List.map aD [(x3,x2,x4)]) 0 0 false)],.rows (List.map aD x10)] [⟨(bC aD (l:=x10) (n:=x10.length) rfl)⟩,⟨(cY aD (Nat.le_refl x10.length):0+x10.length≤(List.map aD x10).length)⟩,⟨(aCV k x9.1 x1 [(x3,x2,x4)] _ e8)⟩,⟨(nT c7)⟩,⟨(kE k x1 x3 x2 x4 _ e6)⟩,⟨(bC aD (l:=x1) (n:=x1.length) rfl)⟩,⟨(cY aD (Nat.le_refl x1.length):0+x1.length≤(List.map aD x1).length)⟩,⟨(LT.block (jH x1 x2 x3 x4 _ k 0 e4))⟩,⟨(nF c3)⟩,⟨(nF c2)⟩,⟨(nF c2)⟩,⟨(iH x2 x3)⟩,⟨(nF c2)⟩,⟨(nF c2)⟩,⟨(nF c2)⟩,⟨(nL k x1 _ e1)⟩,⟨(bC aD (l:=x1) (n:=x1.length) rfl)⟩,⟨(cY aD (Nat.le_refl x1.length):0+x1.length≤(List.map aD x1).length)⟩,⟨(jK k x1 _ e0)⟩] (by kernel_rfl)
     | inr x8 =>
      simp only[Sum.elim_inr] at h
      obtain rfl:=osi h
      exact Tri.of (x:=X46) aF zB [(aGV x1),.call ⟨true,[]⟩ (.bool x6) [],.rows (List.map aD x1),df,df,df,(aKM x2 x3),df,df,df,A46_3,.out (.fin (.tup [(.sl 3 (List.map aD x8.1)),(.int .i64 x8.2)]) [])] [⟨(LT.blockFin (id:=0) (jH x1 x2 x3 x4 _ k 0 e4))⟩,⟨(nF c3)⟩,⟨(nF c2)⟩,⟨(nF c2)⟩,⟨(iH x2 x3)⟩,⟨(nF c2)⟩,⟨(nF c2)⟩,⟨(nF c2)⟩,⟨(nL k x1 _ e1)⟩,⟨(bC aD (l:=x1) (n:=x1.length) rfl)⟩,⟨(cY aD (Nat.le_refl x1.length):0+x1.length≤(List.map aD x1).length)⟩,⟨(jK k x1 _ e0)⟩] (by kernel_rfl)
   rw[if_neg c3] at h;replace c3:=eqf c3
   obtain rfl:=osi h
   exact Tri.of (x:=X46) aF zB [(aGV x1),.call ⟨true,[]⟩ (.bool x6) [],.rows (List.map aD x1),df,df,df,(aKM x2 x3),df,df,dt,.rows (List.map aD x1)] [⟨(bC aD (l:=x1) (n:=x1.length) rfl)⟩,⟨(cY aD (Nat.le_refl x1.length):0+x1.length≤(List.map aD x1).length)⟩,⟨(nT c3)⟩,⟨(nF c2)⟩,⟨(nF c2)⟩,⟨(iH x2 x3)⟩,⟨(nF c2)⟩,⟨(nF c2)⟩,⟨(nF c2)⟩,⟨(nL k x1 _ e1)⟩,⟨(bC aD (l:=x1) (n:=x1.length) rfl)⟩,⟨(cY aD (Nat.le_refl x1.length):0+x1.length≤(List.map aD x1).length)⟩,⟨(jK k x1 _ e0)⟩] (by kernel_rfl)
 rw[if_neg c2] at h;replace c2:=eqf c2
 obtain rfl:=osi h
 exact Tri.of (x:=X46) aF zB [(aGV x1),.call ⟨true,[]⟩ (.bool x6) [],.rows (List.map aD x1),dt,dt,dt,dt,dt,dt,.rows (List.map aD x1)] [⟨(bC aD (l:=x1) (n:=x1.length) rfl)⟩,⟨(cY aD (Nat.le_refl x1.length):0+x1.length≤(List.map aD x1).length)⟩,⟨rT⟩,⟨(nT c2)⟩,⟨(nT c2)⟩,⟨(nT c2)⟩,⟨(nT c2)⟩,⟨(nT c2)⟩,⟨(nL k x1 _ e1)⟩,⟨(bC aD (l:=x1) (n:=x1.length) rfl)⟩,⟨(cY aD (Nat.le_refl x1.length):0+x1.length≤(List.map aD x1).length)⟩,⟨(jK k x1 _ e0)⟩] (by kernel_rfl)
end Go.Ws

namespace Go.Ws
open Go.Proofs
set_option linter.unusedSimpArgs false
set_option linter.unusedVariables false
set_option maxRecDepth 1000000
set_option maxHeartbeats 4000000
noncomputable def X76 (x4:Int):Ctx:=⟨Try.f76,[(.row [(.int .i64 x4)])],false⟩
theorem qW (x1:Int) (x2:Int) (x3:Bool) (x4:Int):Tri Try.prog 76 [(.agg [(.int .u8 x1),(.int .i64 x2),(.bool x3)]),(.hp 0 0)] [(.row [(.int .i64 x4)])] (.bool (eqI x2 x4)) [(.row [(.int .i64 x4)])]:=by
 obtain⟨r,h⟩:∃r,xY x1 x2 x3 x4=r:=⟨_,rfl⟩
 try rw[h]
 unfold xY at h
 obtain rfl:=h
 exact Tri.of (x:=(X76 x4)) aF facts76 [.norm 0 ⟨[(3,[])],[],false,[],[]⟩] [] (by kernel_rfl)
end Go.Ws

namespace Go.Ws
open Go.Proofs
set_option linter.unusedSimpArgs false
set_option linter.unusedVariables false
set_option maxRecDepth 1000000
set_option maxHeartbeats 4000000
noncomputable def X93 (x1:aJ) (x2:Int):Ctx:=⟨Try.f93,[(.arr 3 (List.map aD x1) 0 0 false),(.row [(.int .i64 x2)])],false⟩
noncomputable def L93_0:Code:=at_ Try.f93 [1,0,1,4,5]
def S93_0 (x1:aJ) (x2:Int) (cO:Int):St:=⟨mkT 19 [(0,(.ref 3 0 0 0 x1.length .virt)),(1,(.fn 76 [(.hp 1 0)])),(7,(.int .i64 (nI x1.length))),(8,(.int .i64 cO))],[(.arr 3 (List.map aD x1) 0 0 false),(.row [(.int .i64 x2)])]⟩
def aHX (x1:aJ) (x2:Int):St:=⟨mkT 19 [],[(.arr 3 (List.map aD x1) 0 0 false),(.row [(.int .i64 x2)])]⟩
def O93_0 (x1:aJ) (x2:Int) (y:(Sum (Unit) (Int))):GX:=match y with
 | .inl y=>.st (.exit 0) (aHX x1 x2)
 | .inr y=>.fin (.int .i64 y) [(.arr 3 (List.map aD x1) 0 0 false),(.row [(.int .i64 x2)])]
theorem mS (x1:aJ) (x2:Int) (y:(Sum (Unit) (Int))):∀(k:Nat) (cO:Int),cK k x1 x2 cO=some y→LT Try.prog (X93 x1 x2) L93_0 (S93_0 x1 x2 cO) (O93_0 x1 x2 y)
 | 0,cO,h=>by cases h
 | k+1,cO,h=>by
  rw[cK] at h
  by_cases cL0:ltI cO (nI x1.length)=true
  · rw[if_pos cL0] at h
    by_cases cL1:inI cO x1.length=true
    · rw[if_pos cL1] at h
      obtain⟨iA,eL2,h⟩:=bsm h
      by_cases cL3:eqI iA.2.1 x2=true
      · rw[if_pos cL3] at h
        obtain rfl:=osi h
        show LT _ _ _ _ (.fin (.int .i64 cO) [(.arr 3 (List.map aD x1) 0 0 false),(.row [(.int .i64 x2)])])
        exact LT.done aF (hs:=⟨[],[],false,[],[]⟩) (es:=none) [dt,.row [(.int .u8 iA.1),(.int .i64 iA.2.1),(.bool iA.2.2)],.call ⟨false,[]⟩ (.bool (eqI iA.2.1 x2)) [(.row [(.int .i64 x2)])],dt,.norm 0 ⟨[(4,[])],[],false,[],[]⟩] [⟨cL3⟩,⟨(qW iA.1 iA.2.1 iA.2.2 x2)⟩,⟨(aN (e:=aD) eL2 3 0 3 (by decide))⟩,⟨cL1⟩,⟨cL0⟩] (by kernel_rfl) (fun s h=>by cases h)
      rw[if_neg cL3] at h;replace cL3:=eqf cL3
      exact LT.next aF (hs:=⟨[(0,[]),(1,[]),(7,[]),(8,[])],[],false,[],[]⟩) (es:=none) [dt,.row [(.int .u8 iA.1),(.int .i64 iA.2.1),(.bool iA.2.2)],.call ⟨false,[]⟩ (.bool (eqI iA.2.1 x2)) [(.row [(.int .i64 x2)])],df] [⟨cL3⟩,⟨(qW iA.1 iA.2.1 iA.2.2 x2)⟩,⟨(aN (e:=aD) eL2 3 0 3 (by decide))⟩,⟨cL1⟩,⟨cL0⟩] (by kernel_rfl) (mS x1 x2 y k (aI .i64 cO 1) h)
    rw[if_neg cL1] at h;replace cL1:=eqf cL1
    cases h
  rw[if_neg cL0] at h;replace cL0:=eqf cL0
  obtain rfl:=osi h
  show LT _ _ _ _ (.st (.exit 0) (aHX x1 x2))
  exact LT.done aF (hs:=⟨[],[],false,[],[]⟩) (es:=(some ⟨[],[],false,[],[]⟩)) [df] [⟨cL0⟩] (by kernel_rfl) (fun s h=>by cases h)
theorem oY (k:Nat) (x1:aJ) (x2:Int) (r:Int) (h:j1 k x1 x2=some r):Tri Try.prog 93 [(.ref 3 0 0 0 x1.length .virt),(.fn 76 [(.hp 1 0)])] [(.arr 3 (List.map aD x1) 0 0 false),(.row [(.int .i64 x2)])] (.int .i64 r) [(.arr 3 (List.map aD x1) 0 0 false),(.row [(.int .i64 x2)])]:=by
 unfold j1 at h
 obtain⟨x3,e0,h⟩:=bsm h
 cases x3 with
 | inl x4 =>
  simp only[Sum.elim_inl] at h
  obtain rfl:=osi h
  exact Tri.of (x:=(X93 x1 x2)) aF aMO [.norm 2 ⟨[(0,[]),(1,[]),(7,[]),(8,[])],[],false,[],[]⟩,.out (.st .normal (aHX x1 x2)),.norm 0 ⟨[(4,[])],[],false,[],[]⟩] [⟨(LT.block (mS x1 x2 _ k 0 e0))⟩] (by kernel_rfl)
 | inr x4 =>
  simp only[Sum.elim_inr] at h
  obtain rfl:=osi h
  exact Tri.of (x:=(X93 x1 x2)) aF aMO [.norm 2 ⟨[(0,[]),(1,[]),(7,[]),(8,[])],[],false,[],[]⟩,.out (.fin (.int .i64 x4) [(.arr 3 (List.map aD x1) 0 0 false),(.row [(.int .i64 x2)])])] [⟨(LT.blockFin (id:=0) (mS x1 x2 _ k 0 e0))⟩] (by kernel_rfl)
end Go.Ws

namespace Go.Ws
open Go.Proofs
set_option linter.unusedSimpArgs false
set_option linter.unusedVariables false
set_option maxRecDepth 1000000
set_option maxHeartbeats 4000000
noncomputable def X75 (x1:aJ) (x2:Int):Ctx:=⟨Try.f75,[(.arr 3 (List.map aD x1) 0 0 false),(.row [(.int .i64 x2)])],false⟩
noncomputable def L75_0:Code:=at_ Try.f75 [1,1,1,0,1,4,5]
def S75_0 (x1:aJ) (x2:Int) (cP:Int) (cA:Int) (cQ:aJ):St:=⟨mkT 42 [(0,(.ref 3 0 0 0 x1.length .virt)),(1,(.fn 76 [(.hp 1 0)])),(5,(.int .i64 cA)),(6,(.int .i64 cP))],[(.arr 3 (List.map aD cQ) 0 0 false),(.row [(.int .i64 x2)])]⟩
def aDR (x1:aJ) (x2:Int) (v75002_1:Int) (v75002_2:aJ):St:=⟨mkT 42 [(0,(.ref 3 0 0 0 x1.length .virt)),(5,(.int .i64 v75002_1))],[(.arr 3 (List.map aD v75002_2) 0 0 false),(.row [(.int .i64 x2)])]⟩
def O75_0 (x1:aJ) (x2:Int) (y:(Int × aJ)):GX:=.st (.exit 0) (aDR x1 x2 y.1 y.2)
def A75_0 (x1:aJ) (x2:Int) (x3:Int):Ans:=.call ⟨false,[]⟩ (.int .i64 x3) [(.arr 3 (List.map aD x1) 0 0 false),(.row [(.int .i64 x2)])]
theorem i8 (x1:aJ) (x2:Int) (y:(Int × aJ)):∀(k:Nat) (cP:Int) (cA:Int) (cQ:aJ),bX k x1 x2 cP cA cQ=some y→LT Try.prog (X75 x1 x2) L75_0 (S75_0 x1 x2 cP cA cQ) (O75_0 x1 x2 y)
 | 0,cP,cA,cQ,h=>by cases h
 | k+1,cP,cA,cQ,h=>by
  rw[bX] at h
  by_cases cL0:ltI cP (nI x1.length)=true
  · rw[if_pos cL0] at h
    by_cases cL1:inI cP x1.length=true
    · rw[if_pos cL1] at h
      obtain⟨eI,eL2,h⟩:=bsm h
      by_cases cL3:eqI eI.2.1 x2=true
      · rw[if_pos cL3] at h
        exact LT.next aF (hs:=⟨[(0,[]),(1,[]),(5,[]),(6,[])],[],false,[],[]⟩) (es:=none) [dt,.row [(.int .u8 eI.1),(.int .i64 eI.2.1),(.bool eI.2.2)],.call ⟨false,[]⟩ (.bool (eqI eI.2.1 x2)) [(.row [(.int .i64 x2)])],df] [⟨(nF cL3)⟩,⟨(qW eI.1 eI.2.1 eI.2.2 x2)⟩,⟨(aN (e:=aD) eL2 3 0 3 (by decide))⟩,⟨cL1⟩,⟨cL0⟩] (by kernel_rfl) (i8 x1 x2 y k (aI .i64 cP 1) cA cQ h)
      rw[if_neg cL3] at h;replace cL3:=eqf cL3
      by_cases cL4:inI cA x1.length=true
      · rw[if_pos cL4] at h
        obtain⟨aKN,eL5,h⟩:=bsm h
        exact LT.next aF (hs:=⟨[(0,[]),(1,[]),(5,[]),(6,[])],[],false,[],[]⟩) (es:=none) [dt,.row [(.int .u8 eI.1),(.int .i64 eI.2.1),(.bool eI.2.2)],.call ⟨false,[]⟩ (.bool (eqI eI.2.1 x2)) [(.row [(.int .i64 x2)])],dt,.rows (List.map aD (List.set cQ (tN cA) eI))] [⟨(rM (e:=aD) eL5 0 [(.int .u8 eI.1),(.int .i64 eI.2.1),(.bool eI.2.2)] eI rfl)⟩,⟨cL4⟩,⟨(nT cL3)⟩,⟨(qW eI.1 eI.2.1 eI.2.2 x2)⟩,⟨(aN (e:=aD) eL2 3 0 3 (by decide))⟩,⟨cL1⟩,⟨cL0⟩] (by kernel_rfl) (i8 x1 x2 y k (aI .i64 cP 1) (aI .i64 cA 1) (List.set cQ (tN cA) eI) h)
      rw[if_neg cL4] at h;replace cL4:=eqf cL4
      cases h
    rw[if_neg cL1] at h;replace cL1:=eqf cL1
    cases h
  rw[if_neg cL0] at h;replace cL0:=eqf cL0
  obtain rfl:=osi h
  show LT _ _ _ _ (.st (.exit 0) (aDR x1 x2 cA cQ))
  exact LT.done aF (hs:=⟨[],[],false,[],[]⟩) (es:=(some ⟨[(0,[]),(5,[])],[],false,[],[]⟩)) [df] [⟨cL0⟩] (by kernel_rfl) (fun s h=>by cases h)
theorem xR (k:Nat) (x1:aJ) (x2:Int) (r:Nat × aJ) (h:jG k x1 x2=some r):Tri Try.prog 75 [(.ref 3 0 0 0 x1.length .virt),(.fn 76 [(.hp 1 0)])] [(.arr 3 (List.map aD x1) 0 0 false),(.row [(.int .i64 x2)])] (.ref 3 0 0 0 r.1 .virt) [(.arr 3 (List.map aD r.2) 0 0 false),(.row [(.int .i64 x2)])]:=by
 unfold jG at h
 obtain⟨x3,e0,h⟩:=bsm h
 by_cases c1:eqI x3 (-1)=true
 · rw[if_pos c1] at h
   obtain rfl:=osi h
   exact Tri.of (x:=(X75 x1 x2)) aF aHP [(A75_0 x1 x2 x3),dt,.norm 0 ⟨[(4,[])],[],false,[],[]⟩] [⟨c1⟩,⟨(oY k x1 x2 _ e0)⟩] (by kernel_rfl)
 rw[if_neg c1] at h;replace c1:=eqf c1
 obtain⟨x5,e2,h⟩:=bsm h
 by_cases c4:isZ x1.length=true
 · rw[if_pos c4] at h
   cases h
 rw[if_neg c4] at h;replace c4:=eqf c4
 by_cases c5:sY x1.length x5.2.length=true
 · rw[if_pos c5] at h
   by_cases c6:leI x5.1 x1.length=true
   · rw[if_pos c6] at h
     by_cases c7:isZ (x1.length - (tN x5.1))=true
     · rw[if_pos c7] at h
       by_cases c8:leI x5.1 x5.2.length=true
       · rw[if_pos c8] at h
         obtain rfl:=osi h
         exact Tri.of (x:=(X75 x1 x2)) aF aHP [(A75_0 x1 x2 x3),df,.norm 2 ⟨[(0,[]),(1,[]),(5,[]),(6,[])],[],false,[],[]⟩,.out (.st .normal (aDR x1 x2 x5.1 x5.2)),df,.n x5.2.length,.n x5.2.length,.n (tN x5.1),.n (x1.length - (tN x5.1)),dt,df,.n x5.2.length,.n x5.2.length,.n 0,.n (tN x5.1),.norm 0 ⟨[(4,[])],[],false,[],[]⟩] [⟨(rfl:(tN x5.1) - 0=tN x5.1)⟩,⟨((Nat.zero_add _):0+0=0)⟩,⟨c8⟩,⟨(rfl:x5.2.length - 0=x5.2.length)⟩,⟨(aED ((aCA c5):x1.length≤x5.2.length))⟩,⟨(aL aD x5.2)⟩,⟨c4⟩,⟨c7⟩,⟨(rfl:x1.length - (tN x5.1)=x1.length - (tN x5.1))⟩,⟨((Nat.zero_add _):0+(tN x5.1)=tN x5.1)⟩,⟨c6⟩,⟨(rfl:x5.2.length - 0=x5.2.length)⟩,⟨(aED ((aCA c5):x1.length≤x5.2.length))⟩,⟨(aL aD x5.2)⟩,⟨c4⟩,⟨(LT.block (i8 x1 x2 _ k (aI .i64 x3 1) x3 x1 e2))⟩,⟨c1⟩,⟨(oY k x1 x2 _ e0)⟩] (by kernel_rfl)
       rw[if_neg c8] at h;replace c8:=eqf c8
       cases h
     rw[if_neg c7] at h;replace c7:=eqf c7
     by_cases c8:sY (tN x5.1+(x1.length - (tN x5.1))) x5.2.length=true
     · rw[if_pos c8] at h
       by_cases c9:sY (tN x5.1) x5.2.length=true
       · rw[if_pos c9] at h
         by_cases c10:sY x1.length ((((List.take (tN x5.1) x5.2)++(List.replicate (x1.length - (tN x5.1)) (0,0,false)))++(List.drop (tN x5.1+(x1.length - (tN x5.1))) x5.2)).length)=true
         · rw[if_pos c10] at h
           by_cases c11:leI x5.1 ((((List.take (tN x5.1) x5.2)++(List.replicate (x1.length - (tN x5.1)) (0,0,false)))++(List.drop (tN x5.1+(x1.length - (tN x5.1))) x5.2)).length)=true
           · rw[if_pos c11] at h
             obtain rfl:=osi h
             exact Tri.of (x:=(X75 x1 x2)) aF aHP [(A75_0 x1 x2 x3),df,.norm 2 ⟨[(0,[]),(1,[]),(5,[]),(6,[])],[],false,[],[]⟩,.out (.st .normal (aDR x1 x2 x5.1 x5.2)),df,.n x5.2.length,.n x5.2.length,.n (tN x5.1),.n (x1.length - (tN x5.1)),df,.rows (List.map aD (((List.take (tN x5.1) x5.2)++(List.replicate (x1.length - (tN x5.1)) (0,0,false)))++(List.drop (tN x5.1+(x1.length - (tN x5.1))) x5.2))),df,.n ((((List.take (tN x5.1) x5.2)++(List.replicate (x1.length - (tN x5.1)) (0,0,false)))++(List.drop (tN x5.1+(x1.length - (tN x5.1))) x5.2)).length),.n ((((List.take (tN x5.1) x5.2)++(List.replicate (x1.length - (tN x5.1)) (0,0,false)))++(List.drop (tN x5.1+(x1.length - (tN x5.1))) x5.2)).length),.n 0,.n (tN x5.1),.norm 0 ⟨[(4,[])],[],false,[],[]⟩] [⟨(rfl:(tN x5.1) - 0=tN x5.1)⟩,⟨((Nat.zero_add _):0+0=0)⟩,⟨c11⟩,⟨(rfl:((((List.take (tN x5.1) x5.2)++(List.replicate (x1.length - (tN x5.1)) (0,0,false)))++(List.drop (tN x5.1+(x1.length - (tN x5.1))) x5.2)).length) - 0=(((List.take (tN x5.1) x5.2)++(List.replicate (x1.length - (tN x5.1)) (0,0,false)))++(List.drop (tN x5.1+(x1.length - (tN x5.1))) x5.2)).length)⟩,⟨(aED ((aCA c10):x1.length≤(((List.take (tN x5.1) x5.2)++(List.replicate (x1.length - (tN x5.1)) (0,0,false)))++(List.drop (tN x5.1+(x1.length - (tN x5.1))) x5.2)).length))⟩,⟨(aL aD (((List.take (tN x5.1) x5.2)++(List.replicate (x1.length - (tN x5.1)) (0,0,false)))++(List.drop (tN x5.1+(x1.length - (tN x5.1))) x5.2)))⟩,⟨c4⟩,⟨(aNV aD x5.2 (tN x5.1) (x1.length - (tN x5.1)) (0,0,false))⟩,⟨(le_mapI aD (aCA c8))⟩,⟨c7⟩,⟨(rfl:x1.length - (tN x5.1)=x1.length - (tN x5.1))⟩,⟨((Nat.zero_add _):0+(tN x5.1)=tN x5.1)⟩,⟨c6⟩,⟨(rfl:x5.2.length - 0=x5.2.length)⟩,⟨(aED ((aCA c5):x1.length≤x5.2.length))⟩,⟨(aL aD x5.2)⟩,⟨c4⟩,⟨(LT.block (i8 x1 x2 _ k (aI .i64 x3 1) x3 x1 e2))⟩,⟨c1⟩,⟨(oY k x1 x2 _ e0)⟩] (by kernel_rfl)
           rw[if_neg c11] at h;replace c11:=eqf c11
           cases h
         rw[if_neg c10] at h;replace c10:=eqf c10
         cases h
       rw[if_neg c9] at h;replace c9:=eqf c9
       cases h
     rw[if_neg c8] at h;replace c8:=eqf c8
     cases h
   rw[if_neg c6] at h;replace c6:=eqf c6
   cases h
 rw[if_neg c5] at h;replace c5:=eqf c5
 cases h
end Go.Ws

namespace Go.Ws
open Go.Proofs
set_option linter.unusedSimpArgs false
set_option linter.unusedVariables false
set_option maxRecDepth 1000000
set_option maxHeartbeats 4000000
noncomputable def X52:Ctx:=⟨Try.f52,[],true⟩
theorem k9 (k:Nat) (x1:aJ) (x2:Int) (r:aJ) (h:j3 k x1 x2=some r):Tri Try.prog 52 [(.sl 3 (List.map aD x1)),(.int .i64 x2)] [] (.sl 3 (List.map aD r)) []:=by
 unfold j3 at h
 obtain⟨x3,e0,h⟩:=bsm h
 obtain⟨x4,e1,h⟩:=bsm h
 by_cases c2:sY x4.1 x4.2.length=true
 · rw[if_pos c2] at h
   obtain rfl:=osi h
   exact Tri.of (x:=X52) aF facts52 [.call ⟨true,[]⟩ (.ref 3 0 0 0 x1.length .virt) [(.arr 3 (List.map aD x1) 0 0 false)],.call ⟨false,[]⟩ (.ref 3 0 0 0 x4.1 .virt) [(.arr 3 (List.map aD x4.2) 0 0 false),(.row [(.int .i64 x2)])],.rows (List.map aD (List.take x4.1 x4.2))] [⟨(aNM aD x4.2 x4.1)⟩,⟨(cY aD (aCA c2))⟩,⟨(xR k x1 x2 _ e1)⟩,⟨(jK k x1 _ e0)⟩] (by kernel_rfl)
 rw[if_neg c2] at h;replace c2:=eqf c2
 cases h
end Go.Ws

namespace Go.Ws
open Go.Proofs
set_option linter.unusedSimpArgs false
set_option linter.unusedVariables false
set_option maxRecDepth 1000000
set_option maxHeartbeats 4000000
noncomputable def X70_1001:Ctx:=⟨Try.f70,[],false⟩
theorem v9 (k:Nat) (x1:aG) (r:Unit) (h:gV k x1=some r):Tri Try.prog 70 [(.inl 2 (List.map aA x1))] [] (.ref 2 0 0 0 x1.length .virt) [(.arr 2 (List.map aA x1) 0 0 false)]:=by
 unfold gV at h
 by_cases c0:cV (x1.length*16)=true
 · rw[if_pos c0] at h
   obtain rfl:=osi h
   exact Tri.of (x:=X70_1001) aF aLX [df,.n x1.length,.norm 0 ⟨[(2,[])],[⟨.tmp 2,[],some 2⟩],false,[],[]⟩,.n x1.length,.rows (List.map aA x1)] [⟨(gU aA (l:=x1) (n:=x1.length) rfl)⟩,⟨(rfl:x1.length=x1.length)⟩,⟨(zle x1.length)⟩,⟨c0⟩,⟨(aL aA x1)⟩,⟨rF⟩] (by kernel_rfl)
 rw[if_neg c0] at h;replace c0:=eqf c0
 cases h
end Go.Ws

namespace Go.Ws
open Go.Proofs
set_option linter.unusedSimpArgs false
set_option linter.unusedVariables false
set_option maxRecDepth 1000000
set_option maxHeartbeats 4000000
noncomputable def X70_1002:Ctx:=⟨Try.f70,[],false⟩
theorem v8:Tri Try.prog 70 [.nils] [] (.ref 2 0 0 0 0 .virt) [(.arr 2 (List.map aA []) 0 0 false)]:=by
 obtain⟨r,h⟩:∃r,oG=r:=⟨_,rfl⟩
 try rw[h]
 unfold oG at h
 obtain rfl:=h
 exact Tri.of (x:=X70_1002) aF aLX [dt,.norm 0 ⟨[(2,[])],[⟨.tmp 2,[],some 2⟩],false,[],[]⟩,.n 0,.rows (List.map aA [])] [⟨(gU aA (l:=[]) (n:=0) rfl)⟩,⟨(rfl:0=0)⟩,⟨(zle 0)⟩,⟨rT⟩] (by kernel_rfl)
end Go.Ws

namespace Go.Ws
open Go.Proofs
set_option linter.unusedSimpArgs false
set_option linter.unusedVariables false
set_option maxRecDepth 1000000
set_option maxHeartbeats 4000000
theorem pT (k:Nat) (x1:aG) (r:Unit) (h:m7 k x1=some r):Tri Try.prog 70 [(.sl 2 (List.map aA x1))] [] (.ref 2 0 0 0 x1.length .virt) [(.arr 2 (List.map aA x1) 0 0 false)]:=by
 refine Tri.slOf (v9 k x1 r h) fun h0=>?_
 have hx:x1=[]:=by simpa using h0
 subst hx
 exact v8
end Go.Ws

namespace Go.Ws
open Go.Proofs
set_option linter.unusedSimpArgs false
set_option linter.unusedVariables false
set_option maxRecDepth 1000000
set_option maxHeartbeats 4000000
noncomputable def X71:Ctx:=⟨Try.f71,[],true⟩
noncomputable def L71_0:Code:=at_ Try.f71 [1,0,1,4,5]
def S71_0 (x1:aG) (bP:Int):St:=⟨mkT 36 [(0,(.sl 2 (List.map aA x1))),(5,(.sl 2 (List.map aA x1))),(6,(.int .i64 (nI x1.length))),(7,(.int .i64 bP))],[]⟩
def aIT:St:=⟨mkT 36 [],[]⟩
def O71_0 (x1:aG) (y:zH):GX:=match y with
 | .inl y=>.st (.exit 0) (aIT)
 | .inr y=>.fin (.bool y) []
def aJ2 (iB:Int × Int):Ans:=.row [(.int .u8 iB.1),(.int .i64 iB.2)]
theorem mX (x1:aG) (y:zH):∀(k:Nat) (bP:Int),dS k x1 bP=some y→LT Try.prog X71 L71_0 (S71_0 x1 bP) (O71_0 x1 y)
 | 0,bP,h=>by cases h
 | k+1,bP,h=>by
  rw[dS] at h
  by_cases cL0:ltI bP (nI x1.length)=true
  · rw[if_pos cL0] at h
    by_cases cL1:inI bP x1.length=true
    · rw[if_pos cL1] at h
      obtain⟨iB,eL2,h⟩:=bsm h
      by_cases cL3:ltI iB.1 64=true
      · rw[if_pos cL3] at h
        by_cases cL4:eqI iB.2 0=true
        · rw[if_pos cL4] at h
          obtain rfl:=osi h
          show LT _ _ _ _ (.fin (.bool false) [])
          exact LT.done aF (hs:=⟨[],[],false,[],[]⟩) (es:=none) [dt,.n x1.length,(aJ2 iB),df,df,df,df,dt,dt,dt,dt,dt,dt] [⟨rT⟩,⟨cL4⟩,⟨cL4⟩,⟨cL4⟩,⟨cL4⟩,⟨cL4⟩,⟨(nF cL3)⟩,⟨(nF cL3)⟩,⟨(nF cL3)⟩,⟨(nF cL3)⟩,⟨(aN (e:=aA) eL2 2 0 2 (by decide))⟩,⟨cL1⟩,⟨(aL aA x1)⟩,⟨cL0⟩] (by kernel_rfl) (fun s h=>by cases h)
        rw[if_neg cL4] at h;replace cL4:=eqf cL4
        by_cases cL5:ltI 0 bP=true
        · rw[if_pos cL5] at h
          by_cases cL6:inI (sL .i64 bP 1) x1.length=true
          · rw[if_pos cL6] at h
            obtain⟨uQ,eL7,h⟩:=bsm h
            by_cases cL8:ltI uQ.1 iB.1=true
            · rw[if_pos cL8] at h
              exact LT.next aF (hs:=⟨[(0,[]),(5,[]),(6,[]),(7,[])],[],false,[],[]⟩) (es:=none) [dt,.n x1.length,(aJ2 iB),df,df,df,df,df,df,df,dt,dt,dt,dt,.n x1.length,dt,dt,.row [(.int .u8 uQ.1)],dt,dt,dt,df,dt,df,df] [⟨(nF cL8)⟩,⟨cL4⟩,⟨cL5⟩,⟨cL4⟩,⟨cL5⟩,⟨cL5⟩,⟨cL5⟩,⟨(aN (e:=aA) eL7 2 0 1 (by decide))⟩,⟨cL5⟩,⟨cL5⟩,⟨cL6⟩,⟨(aL aA x1)⟩,⟨cL5⟩,⟨cL5⟩,⟨cL5⟩,⟨cL5⟩,⟨cL4⟩,⟨cL4⟩,⟨cL4⟩,⟨(nF cL3)⟩,⟨(nF cL3)⟩,⟨(nF cL3)⟩,⟨(nF cL3)⟩,⟨(aN (e:=aA) eL2 2 0 2 (by decide))⟩,⟨cL1⟩,⟨(aL aA x1)⟩,⟨cL0⟩] (by kernel_rfl) (mX x1 y k (aI .i64 bP 1) h)
            rw[if_neg cL8] at h;replace cL8:=eqf cL8
            obtain rfl:=osi h
            show LT _ _ _ _ (.fin (.bool false) [])
            exact LT.done aF (hs:=⟨[],[],false,[],[]⟩) (es:=none) [dt,.n x1.length,(aJ2 iB),df,df,df,df,df,df,df,dt,dt,dt,dt,.n x1.length,dt,dt,.row [(.int .u8 uQ.1)],dt,dt,dt,df,dt,df,dt] [⟨(nT cL8)⟩,⟨cL4⟩,⟨cL5⟩,⟨cL4⟩,⟨cL5⟩,⟨cL5⟩,⟨cL5⟩,⟨(aN (e:=aA) eL7 2 0 1 (by decide))⟩,⟨cL5⟩,⟨cL5⟩,⟨cL6⟩,⟨(aL aA x1)⟩,⟨cL5⟩,⟨cL5⟩,⟨cL5⟩,⟨cL5⟩,⟨cL4⟩,⟨cL4⟩,⟨cL4⟩,⟨(nF cL3)⟩,⟨(nF cL3)⟩,⟨(nF cL3)⟩,⟨(nF cL3)⟩,⟨(aN (e:=aA) eL2 2 0 2 (by decide))⟩,⟨cL1⟩,⟨(aL aA x1)⟩,⟨cL0⟩] (by kernel_rfl) (fun s h=>by cases h)
          rw[if_neg cL6] at h;replace cL6:=eqf cL6
          cases h
        rw[if_neg cL5] at h;replace cL5:=eqf cL5
        exact LT.next aF (hs:=⟨[(0,[]),(5,[]),(6,[]),(7,[])],[],false,[],[]⟩) (es:=none) [dt,.n x1.length,(aJ2 iB),df,df,df,df,df,df,df,df,df,df,df,df,df,df,df,df,df,df,df,df] [⟨rF⟩,⟨cL4⟩,⟨cL5⟩,⟨cL4⟩,⟨cL5⟩,⟨cL5⟩,⟨cL5⟩,⟨cL5⟩,⟨cL5⟩,⟨cL5⟩,⟨cL5⟩,⟨cL5⟩,⟨cL5⟩,⟨cL4⟩,⟨cL4⟩,⟨cL4⟩,⟨(nF cL3)⟩,⟨(nF cL3)⟩,⟨(nF cL3)⟩,⟨(nF cL3)⟩,⟨(aN (e:=aA) eL2 2 0 2 (by decide))⟩,⟨cL1⟩,⟨(aL aA x1)⟩,⟨cL0⟩] (by kernel_rfl) (mX x1 y k (aI .i64 bP 1) h)
      rw[if_neg cL3] at h;replace cL3:=eqf cL3
      obtain rfl:=osi h
      show LT _ _ _ _ (.fin (.bool false) [])
      exact LT.done aF (hs:=⟨[],[],false,[],[]⟩) (es:=none) [dt,.n x1.length,(aJ2 iB),dt,dt,dt,dt,dt,dt,dt,dt,dt,dt] [⟨rT⟩,⟨rT⟩,⟨rT⟩,⟨rT⟩,⟨rT⟩,⟨rT⟩,⟨(nT cL3)⟩,⟨(nT cL3)⟩,⟨(nT cL3)⟩,⟨(nT cL3)⟩,⟨(aN (e:=aA) eL2 2 0 2 (by decide))⟩,⟨cL1⟩,⟨(aL aA x1)⟩,⟨cL0⟩] (by kernel_rfl) (fun s h=>by cases h)
    rw[if_neg cL1] at h;replace cL1:=eqf cL1
    cases h
  rw[if_neg cL0] at h;replace cL0:=eqf cL0
  obtain rfl:=osi h
  show LT _ _ _ _ (.st (.exit 0) (aIT))
  exact LT.done aF (hs:=⟨[],[],false,[],[]⟩) (es:=(some ⟨[],[],false,[],[]⟩)) [df] [⟨cL0⟩] (by kernel_rfl) (fun s h=>by cases h)
theorem sZ (k:Nat) (x1:aG) (r:Bool) (h:oO k x1=some r):Tri Try.prog 71 [(.sl 2 (List.map aA x1))] [] (.bool r) []:=by
 unfold oO at h
 obtain⟨x2,e0,h⟩:=bsm h
 cases x2 with
 | inl x3 =>
  simp only[Sum.elim_inl] at h
  obtain rfl:=osi h
  exact Tri.of (x:=X71) aF aM9 [.n x1.length,.norm 2 ⟨[(0,[]),(5,[]),(6,[]),(7,[])],[],false,[],[]⟩,.out (.st .normal (aIT))] [⟨(LT.block (mX x1 _ k 0 e0))⟩,⟨(aL aA x1)⟩] (by kernel_rfl)
 | inr x3 =>
  simp only[Sum.elim_inr] at h
  obtain rfl:=osi h
  exact Tri.of (x:=X71) aF aM9 [.n x1.length,.norm 2 ⟨[(0,[]),(5,[]),(6,[]),(7,[])],[],false,[],[]⟩,.out (.fin (.bool x3) [])] [⟨(LT.blockFin (id:=0) (mX x1 _ k 0 e0))⟩,⟨(aL aA x1)⟩] (by kernel_rfl)
end Go.Ws

namespace Go.Ws
open Go.Proofs
set_option linter.unusedSimpArgs false
set_option linter.unusedVariables false
set_option maxRecDepth 1000000
set_option maxHeartbeats 4000000
noncomputable def X69:Ctx:=⟨Try.f69,[],false⟩
theorem xA (x1:Int) (x2:Int):Tri Try.prog 69 [(.agg [(.int .u8 x1),(.int .i64 x2)])] [] (.bool (!ltI x1 64)) []:=by
 obtain⟨r,h⟩:∃r,wU x1 x2=r:=⟨_,rfl⟩
 try rw[h]
 unfold wU at h
 obtain rfl:=h
 exact Tri.of (x:=X69) aF facts69 [.norm 0 ⟨[(2,[])],[],false,[],[]⟩] [] (by kernel_rfl)
end Go.Ws

namespace Go.Ws
open Go.Proofs
set_option linter.unusedSimpArgs false
set_option linter.unusedVariables false
set_option maxRecDepth 1000000
set_option maxHeartbeats 4000000
noncomputable def X60:Ctx:=⟨Try.f60,[],true⟩
noncomputable def L60_0:Code:=at_ Try.f60 [1,0,1,4,5]
def S60_0 (x1:aG) (cR:Int):St:=⟨mkT 19 [(0,(.sl 2 (List.map aA x1))),(1,(.fn 69 [])),(7,(.int .i64 (nI x1.length))),(8,(.int .i64 cR))],[]⟩
def aHF:St:=⟨mkT 19 [],[]⟩
def O60_0 (x1:aG) (y:(Sum (Unit) (Int))):GX:=match y with
 | .inl y=>.st (.exit 0) (aHF)
 | .inr y=>.fin (.int .i64 y) []
theorem kN (x1:aG) (y:(Sum (Unit) (Int))):∀(k:Nat) (cR:Int),bR k x1 cR=some y→LT Try.prog X60 L60_0 (S60_0 x1 cR) (O60_0 x1 y)
 | 0,cR,h=>by cases h
 | k+1,cR,h=>by
  rw[bR] at h
  by_cases cL0:ltI cR (nI x1.length)=true
  · rw[if_pos cL0] at h
    by_cases cL1:inI cR x1.length=true
    · rw[if_pos cL1] at h
      obtain⟨kH,eL2,h⟩:=bsm h
      by_cases cL3:ltI kH.1 64=true
      · rw[if_pos cL3] at h
        exact LT.next aF (hs:=⟨[(0,[]),(1,[]),(7,[]),(8,[])],[],false,[],[]⟩) (es:=none) [dt,.n x1.length,.row [(.int .u8 kH.1),(.int .i64 kH.2)],.call ⟨false,[]⟩ (.bool (!ltI kH.1 64)) [],df] [⟨(nF cL3)⟩,⟨(xA kH.1 kH.2)⟩,⟨(aN (e:=aA) eL2 2 0 2 (by decide))⟩,⟨cL1⟩,⟨(aL aA x1)⟩,⟨cL0⟩] (by kernel_rfl) (kN x1 y k (aI .i64 cR 1) h)
      rw[if_neg cL3] at h;replace cL3:=eqf cL3
      obtain rfl:=osi h
      show LT _ _ _ _ (.fin (.int .i64 cR) [])
      exact LT.done aF (hs:=⟨[],[],false,[],[]⟩) (es:=none) [dt,.n x1.length,.row [(.int .u8 kH.1),(.int .i64 kH.2)],.call ⟨false,[]⟩ (.bool (!ltI kH.1 64)) [],dt] [⟨(nT cL3)⟩,⟨(xA kH.1 kH.2)⟩,⟨(aN (e:=aA) eL2 2 0 2 (by decide))⟩,⟨cL1⟩,⟨(aL aA x1)⟩,⟨cL0⟩] (by kernel_rfl) (fun s h=>by cases h)
    rw[if_neg cL1] at h;replace cL1:=eqf cL1
    cases h
  rw[if_neg cL0] at h;replace cL0:=eqf cL0
  obtain rfl:=osi h
  show LT _ _ _ _ (.st (.exit 0) (aHF))
  exact LT.done aF (hs:=⟨[],[],false,[],[]⟩) (es:=(some ⟨[],[],false,[],[]⟩)) [df] [⟨cL0⟩] (by kernel_rfl) (fun s h=>by cases h)
theorem wR (k:Nat) (x1:aG) (r:Int) (h:iC k x1=some r):Tri Try.prog 60 [(.sl 2 (List.map aA x1)),(.fn 69 [])] [] (.int .i64 r) []:=by
 unfold iC at h
 obtain⟨x2,e0,h⟩:=bsm h
 cases x2 with
 | inl x3 =>
  simp only[Sum.elim_inl] at h
  obtain rfl:=osi h
  exact Tri.of (x:=X60) aF aD8 [.n x1.length,.norm 2 ⟨[(0,[]),(1,[]),(7,[]),(8,[])],[],false,[],[]⟩,.out (.st .normal (aHF))] [⟨(LT.block (kN x1 _ k 0 e0))⟩,⟨(aL aA x1)⟩] (by kernel_rfl)
 | inr x3 =>
  simp only[Sum.elim_inr] at h
  obtain rfl:=osi h
  exact Tri.of (x:=X60) aF aD8 [.n x1.length,.norm 2 ⟨[(0,[]),(1,[]),(7,[]),(8,[])],[],false,[],[]⟩,.out (.fin (.int .i64 x3) [])] [⟨(LT.blockFin (id:=0) (kN x1 _ k 0 e0))⟩,⟨(aL aA x1)⟩] (by kernel_rfl)
end Go.Ws

namespace Go.Ws
open Go.Proofs
set_option linter.unusedSimpArgs false
set_option linter.unusedVariables false
set_option maxRecDepth 1000000
set_option maxHeartbeats 4000000
noncomputable def X42:Ctx:=⟨Try.f42,[],true⟩
theorem qS (k:Nat) (x1:aG) (r:Bool) (h:iE k x1=some r):Tri Try.prog 42 [(.sl 2 (List.map aA x1)),(.fn 69 [])] [] (.bool r) []:=by
 unfold iE at h
 obtain⟨x2,e0,h⟩:=bsm h
 obtain rfl:=osi h
 exact Tri.of (x:=X42) aF aLZ [.call ⟨true,[]⟩ (.int .i64 x2) []] [⟨(wR k x1 _ e0)⟩] (by kernel_rfl)
end Go.Ws

namespace Go.Ws
open Go.Proofs
set_option linter.unusedSimpArgs false
set_option linter.unusedVariables false
set_option maxRecDepth 1000000
set_option maxHeartbeats 4000000
noncomputable def X90:Ctx:=⟨Try.f90,[],false⟩
theorem rK (x1:Int) (x2:Int) (x3:Int):Tri Try.prog 90 [(.agg [(.int .u8 x1),(.int .i64 x2)]),(.int .u8 x3)] [] (.int .i64 (bA x1 x3)) []:=by
 obtain⟨r,h⟩:∃r,vM x1 x2 x3=r:=⟨_,rfl⟩
 try rw[h]
 unfold vM at h
 obtain rfl:=h
 exact Tri.of (x:=X90) aF facts90 [.call ⟨true,[]⟩ (.int .i64 (bA x1 x3)) [],.norm 0 ⟨[(4,[])],[],false,[],[]⟩] [⟨(yE x1 x3)⟩] (by kernel_rfl)
end Go.Ws

namespace Go.Ws
open Go.Proofs
set_option linter.unusedSimpArgs false
set_option linter.unusedVariables false
set_option maxRecDepth 1000000
set_option maxHeartbeats 4000000
noncomputable def X89:Ctx:=⟨Try.f89,[],true⟩
noncomputable def L89_0:Code:=at_ Try.f89 [1,1,1,0,4,5]
def S89_0 (x1:aG) (x2:Int) (bZ:Int) (cH:Int):St:=⟨mkT 49 [(0,(.sl 2 (List.map aA x1))),(1,(.int .u8 x2)),(2,(.fn 90 [])),(8,(.int .i64 (nI x1.length))),(9,(.int .i64 bZ)),(10,(.int .i64 cH))],[]⟩
def aD0 (x1:aG) (x2:Int) (v89002_1:Int):St:=⟨mkT 49 [(0,(.sl 2 (List.map aA x1))),(1,(.int .u8 x2)),(2,(.fn 90 [])),(8,(.int .i64 (nI x1.length))),(9,(.int .i64 v89002_1))],[]⟩
def O89_0 (x1:aG) (x2:Int) (y:(Int)):GX:=.st (.exit 0) (aD0 x1 x2 y)
def A89_0:Ans:=.norm 2 ⟨[(0,[]),(1,[]),(2,[]),(8,[]),(9,[]),(10,[])],[],false,[],[]⟩
theorem fI (x1:aG) (x2:Int) (y:(Int)):∀(k:Nat) (bZ:Int) (cH:Int),aU k x1 x2 bZ cH=some y→LT Try.prog X89 L89_0 (S89_0 x1 x2 bZ cH) (O89_0 x1 x2 y)
 | 0,bZ,cH,h=>by cases h
 | k+1,bZ,cH,h=>by
  rw[aU] at h
  by_cases cL0:ltI bZ cH=true
  · rw[if_pos cL0] at h
    by_cases cL1:inI (conv .i64 (sV .u64 (conv .u64 (aI .i64 bZ cH)) 1)) x1.length=true
    · rw[if_pos cL1] at h
      obtain⟨kI,eL2,h⟩:=bsm h
      by_cases cL3:ltI (bA kI.1 x2) 0=true
      · rw[if_pos cL3] at h
        exact LT.next aF (hs:=⟨[(0,[]),(1,[]),(2,[]),(8,[]),(9,[]),(10,[])],[],false,[],[]⟩) (es:=none) [dt,.n x1.length,.row [(.int .u8 kI.1),(.int .i64 kI.2)],.call ⟨false,[]⟩ (.int .i64 (bA kI.1 x2)) [],dt] [⟨cL3⟩,⟨(rK kI.1 kI.2 x2)⟩,⟨(aN (e:=aA) eL2 2 0 2 (by decide))⟩,⟨cL1⟩,⟨(aL aA x1)⟩,⟨cL0⟩] (by kernel_rfl) (fI x1 x2 y k (aI .i64 (conv .i64 (sV .u64 (conv .u64 (aI .i64 bZ cH)) 1)) 1) cH h)
      rw[if_neg cL3] at h;replace cL3:=eqf cL3
      exact LT.next aF (hs:=⟨[(0,[]),(1,[]),(2,[]),(8,[]),(9,[]),(10,[])],[],false,[],[]⟩) (es:=none) [dt,.n x1.length,.row [(.int .u8 kI.1),(.int .i64 kI.2)],.call ⟨false,[]⟩ (.int .i64 (bA kI.1 x2)) [],df] [⟨cL3⟩,⟨(rK kI.1 kI.2 x2)⟩,⟨(aN (e:=aA) eL2 2 0 2 (by decide))⟩,⟨cL1⟩,⟨(aL aA x1)⟩,⟨cL0⟩] (by kernel_rfl) (fI x1 x2 y k bZ (conv .i64 (sV .u64 (conv .u64 (aI .i64 bZ cH)) 1)) h)
    rw[if_neg cL1] at h;replace cL1:=eqf cL1
    cases h
  rw[if_neg cL0] at h;replace cL0:=eqf cL0
  obtain rfl:=osi h
  show LT _ _ _ _ (.st (.exit 0) (aD0 x1 x2 bZ))
  exact LT.done aF (hs:=⟨[],[],false,[],[]⟩) (es:=(some ⟨[(0,[]),(1,[]),(2,[]),(8,[]),(9,[])],[],false,[],[]⟩)) [df] [⟨cL0⟩] (by kernel_rfl) (fun s h=>by cases h)
theorem sU (k:Nat) (x1:aG) (x2:Int) (r:Int × Bool) (h:eG k x1 x2=some r):Tri Try.prog 89 [(.sl 2 (List.map aA x1)),(.int .u8 x2),(.fn 90 [])] [] (.tup [(.int .i64 r.1),(.bool r.2)]) []:=by
 unfold eG at h
 obtain⟨x4,e0,h⟩:=bsm h
 by_cases c2:ltI x4 (nI x1.length)=true
 · rw[if_pos c2] at h
   by_cases c3:inI x4 x1.length=true
   · rw[if_pos c3] at h
     obtain⟨x5,e4,h⟩:=bsm h
     obtain rfl:=osi h
     exact Tri.of (x:=X89) aF aL6 [.n x1.length,A89_0,.out (.st .normal (aD0 x1 x2 x4)),dt,dt,dt,dt,.n x1.length,dt,.row [(.int .u8 x5.1),(.int .i64 x5.2)],dt,dt,.call ⟨false,[]⟩ (.int .i64 (bA x5.1 x2)) [],dt,dt] [⟨c2⟩,⟨c2⟩,⟨(rK x5.1 x5.2 x2)⟩,⟨c2⟩,⟨c2⟩,⟨(aN (e:=aA) e4 2 0 2 (by decide))⟩,⟨c2⟩,⟨c3⟩,⟨(aL aA x1)⟩,⟨c2⟩,⟨c2⟩,⟨c2⟩,⟨c2⟩,⟨(LT.block (fI x1 x2 _ k 0 (nI x1.length) e0))⟩,⟨(aL aA x1)⟩] (by kernel_rfl)
   rw[if_neg c3] at h;replace c3:=eqf c3
   cases h
 rw[if_neg c2] at h;replace c2:=eqf c2
 obtain rfl:=osi h
 exact Tri.of (x:=X89) aF aL6 [.n x1.length,A89_0,.out (.st .normal (aD0 x1 x2 x4)),df,df,df,df,df,df,df,df,df] [⟨c2⟩,⟨c2⟩,⟨c2⟩,⟨c2⟩,⟨c2⟩,⟨c2⟩,⟨c2⟩,⟨c2⟩,⟨c2⟩,⟨(LT.block (fI x1 x2 _ k 0 (nI x1.length) e0))⟩,⟨(aL aA x1)⟩] (by kernel_rfl)
end Go.Ws

namespace Go.Ws
open Go.Proofs
set_option linter.unusedSimpArgs false
set_option linter.unusedVariables false
set_option maxRecDepth 1000000
set_option maxHeartbeats 4000000
noncomputable def X72:Ctx:=⟨Try.f72,[],true⟩
theorem qO (k:Nat) (x1:aG) (x2:Int) (r:Int × Bool) (h:qG k x1 x2=some r):Tri Try.prog 72 [(.sl 2 (List.map aA x1)),(.int .u8 x2)] [] (.tup [(.int .i64 r.1),(.bool r.2)]) []:=by
 unfold qG at h
 obtain⟨x3,e0,h⟩:=bsm h
 obtain rfl:=osi h
 exact Tri.of (x:=X72) aF facts72 [.call ⟨true,[]⟩ (.tup [(.int .i64 x3.1),(.bool x3.2)]) []] [⟨(sU k x1 x2 _ e0)⟩] (by kernel_rfl)
end Go.Ws

namespace Go.Ws
open Go.Proofs
set_option linter.unusedSimpArgs false
set_option linter.unusedVariables false
set_option maxRecDepth 1000000
set_option maxHeartbeats 4000000
theorem aC5 (k:Nat) (x1:Int) (x2:Int) (x3:aG) (r:aG) (h:pI k x1 x2 x3=some r):Tri Try.prog 74 [(.ref 2 0 0 0 x3.length .virt),(.int .i64 x1),(.int .i64 x2)] [(.arr 2 (List.map aA x3) 0 0 false)] (.ref 2 0 1 0 r.length .full) [(.arr 2 (List.map aA r) 1 1 false)]:=aKL _ h
end Go.Ws

namespace Go.Ws
open Go.Proofs
set_option linter.unusedSimpArgs false
set_option linter.unusedVariables false
set_option maxRecDepth 1000000
set_option maxHeartbeats 4000000
theorem tE (k:Nat) (x1:Int) (x2:aG) (x3:aG) (r:aG) (h:mA k x1 x2 x3=some r):Tri Try.prog 73 [(.ref 2 0 0 0 x2.length .virt),(.int .i64 x1),(.ref 2 1 0 0 x3.length .full)] [(.arr 2 (List.map aA x2) 0 0 false),(.arr 2 (List.map aA x3) 0 0 false)] (.ref 2 0 1 0 r.length .full) [(.arr 2 (List.map aA r) 1 1 false),(.arr 2 (List.map aA x3) 0 0 false)]:=ins_ok73 _ h rfl
end Go.Ws

namespace Go.Ws
open Go.Proofs
set_option linter.unusedSimpArgs false
set_option linter.unusedVariables false
set_option maxRecDepth 1000000
set_option maxHeartbeats 4000000
theorem aAG (k:Nat) (x1:Int) (x2:Int) (x3:aG) (r:aG) (h:m9 k x1 x2 x3=some r):Tri Try.prog 74 [(.ref 2 0 1 0 x3.length .full),(.int .i64 x1),(.int .i64 x2)] [(.arr 2 (List.map aA x3) 1 1 false)] (.ref 2 0 2 0 r.length .full) [(.arr 2 (List.map aA r) 2 2 false)]:=aKL _ h
end Go.Ws

namespace Go.Ws
open Go.Proofs
set_option linter.unusedSimpArgs false
set_option linter.unusedVariables false
set_option maxRecDepth 1000000
set_option maxHeartbeats 4000000
noncomputable def X51:Ctx:=⟨Try.f51,[],true⟩
noncomputable def L51_0:Code:=at_ Try.f51 [1,1,1,1,0,1,4,5]
def S51_0 (x2:aG) (b5:Int) (aK:aG):St:=⟨mkT 67 [(0,(.ref 2 0 0 0 aK.length .virt)),(22,(.sl 2 (List.map aA x2))),(23,(.int .i64 (nI x2.length))),(24,(.int .i64 b5))],[(.arr 2 (List.map aA aK) 0 0 false)]⟩
def aHT (aKO:aG):St:=⟨mkT 67 [(0,(.ref 2 0 0 0 aKO.length .virt))],[(.arr 2 (List.map aA aKO) 0 0 false)]⟩
def O51_0 (x2:aG) (y:(aG)):GX:=.st (.exit 0) (aHT y)
def A51_0 (aV:Int × Int):Ans:=.row [(.int .u8 aV.1),(.int .i64 aV.2)]
def A51_1 (aO:Int × Bool):Ans:=.call ⟨true,[]⟩ (.tup [(.int .i64 aO.1),(.bool aO.2)]) []
def A51_2 (x1:aG):Ans:=.call ⟨true,[]⟩ (.ref 2 0 0 0 x1.length .virt) [(.arr 2 (List.map aA x1) 0 0 false)]
theorem lZ (x2:aG) (y:(aG)):∀(k:Nat) (b5:Int) (aK:aG),d5 k x2 b5 aK=some y→LT Try.prog X51 L51_0 (S51_0 x2 b5 aK) (O51_0 x2 y)
 | 0,b5,aK,h=>by cases h
 | k+1,b5,aK,h=>by
  rw[d5] at h
  by_cases cL0:ltI b5 (nI x2.length)=true
  · rw[if_pos cL0] at h
    by_cases cL1:inI b5 x2.length=true
    · rw[if_pos cL1] at h
      obtain⟨aV,eL2,h⟩:=bsm h
      obtain⟨aO,eL3,h⟩:=bsm h
      by_cases cL4:aO.2=true
      · rw[if_pos cL4] at h
        by_cases cL5:inI aO.1 aK.length=true
        · rw[if_pos cL5] at h
          obtain⟨aM,eL6,h⟩:=bsm h
          obtain⟨bB,eL7,h⟩:=bsm h
          by_cases cL8:eqI bB.2 0=true
          · rw[if_pos cL8] at h
            obtain⟨f6,eL9,h⟩:=bsm h
            exact LT.next aF (hs:=⟨[(0,[]),(22,[]),(23,[]),(24,[])],[⟨.tmp 0,[],some 2⟩],false,[],[]⟩) (es:=none) [dt,.n x2.length,(A51_0 aV),(A51_1 aO),.rows (List.map aA aK),df,.row [(.int .i64 aM.2)],.rows (List.map aA (List.set aK (tN aO.1) (aM.1,aI .i64 aM.2 aV.2))),.row [(.int .i64 bB.2)],dt,.call ⟨false,[]⟩ (.ref 2 0 1 0 f6.length .full) [(.arr 2 (List.map aA f6) 1 1 false)],.n f6.length,.rows (List.map aA f6)] [⟨(gU aA (l:=f6) (n:=f6.length) rfl)⟩,⟨(rfl:f6.length=f6.length)⟩,⟨(zle f6.length)⟩,⟨(by have hh:=(aC5 k aO.1 (aI .i64 aO.1 1) (List.set aK (tN aO.1) (aM.1,aI .i64 aM.2 aV.2)) _ eL9);simp only[List.length_set] at hh;exact hh)⟩,⟨cL8⟩,⟨(aN (e:=aA) eL7 2 1 1 (by decide))⟩,⟨cL5⟩,⟨(rM (e:=aA) eL6 1 [(.int .i64 (aI .i64 aM.2 aV.2))] (aM.1,aI .i64 aM.2 aV.2) rfl)⟩,⟨cL5⟩,⟨(aN (e:=aA) eL6 2 1 1 (by decide))⟩,⟨cL5⟩,⟨(nF cL4)⟩,⟨(qO k aK aV.1 _ eL3)⟩,⟨(bC aA (l:=aK) (n:=aK.length) rfl)⟩,⟨(cY aA (Nat.le_refl aK.length):0+aK.length≤(List.map aA aK).length)⟩,⟨(aN (e:=aA) eL2 2 0 2 (by decide))⟩,⟨cL1⟩,⟨(aL aA x2)⟩,⟨cL0⟩] (by kernel_rfl) (lZ x2 y k (aI .i64 b5 1) f6 h)
          rw[if_neg cL8] at h;replace cL8:=eqf cL8
          exact LT.next aF (hs:=⟨[(0,[]),(22,[]),(23,[]),(24,[])],[⟨.tmp 0,[],some 2⟩],false,[],[]⟩) (es:=none) [dt,.n x2.length,(A51_0 aV),(A51_1 aO),.rows (List.map aA aK),df,.row [(.int .i64 aM.2)],.rows (List.map aA (List.set aK (tN aO.1) (aM.1,aI .i64 aM.2 aV.2))),.row [(.int .i64 bB.2)],df,.n ((List.set aK (tN aO.1) (aM.1,aI .i64 aM.2 aV.2)).length),.rows (List.map aA (List.set aK (tN aO.1) (aM.1,aI .i64 aM.2 aV.2)))] [⟨(gU aA (l:=(List.set aK (tN aO.1) (aM.1,aI .i64 aM.2 aV.2))) (n:=aK.length) (by simp:aK.length=(List.set aK (tN aO.1) (aM.1,aI .i64 aM.2 aV.2)).length))⟩,⟨((by simp:aK.length=List.length (α:=Int × Int) (List.set aK (tN aO.1) (aM.1,aI .i64 aM.2 aV.2))):aK.length=(List.set aK (tN aO.1) (aM.1,aI .i64 aM.2 aV.2)).length)⟩,⟨(zle aK.length)⟩,⟨cL8⟩,⟨(aN (e:=aA) eL7 2 1 1 (by decide))⟩,⟨cL5⟩,⟨(rM (e:=aA) eL6 1 [(.int .i64 (aI .i64 aM.2 aV.2))] (aM.1,aI .i64 aM.2 aV.2) rfl)⟩,⟨cL5⟩,⟨(aN (e:=aA) eL6 2 1 1 (by decide))⟩,⟨cL5⟩,⟨(nF cL4)⟩,⟨(qO k aK aV.1 _ eL3)⟩,⟨(bC aA (l:=aK) (n:=aK.length) rfl)⟩,⟨(cY aA (Nat.le_refl aK.length):0+aK.length≤(List.map aA aK).length)⟩,⟨(aN (e:=aA) eL2 2 0 2 (by decide))⟩,⟨cL1⟩,⟨(aL aA x2)⟩,⟨cL0⟩] (by kernel_rfl) (lZ x2 y k (aI .i64 b5 1) (List.set aK (tN aO.1) (aM.1,aI .i64 aM.2 aV.2)) h)
        rw[if_neg cL5] at h;replace cL5:=eqf cL5
        cases h
      rw[if_neg cL4] at h;replace cL4:=eqf cL4
      obtain⟨aM,eL5,h⟩:=bsm h
      by_cases cL6:inI aO.1 aM.length=true
      · rw[if_pos cL6] at h
        obtain⟨bB,eL7,h⟩:=bsm h
        obtain⟨f6,eL8,h⟩:=bsm h
        by_cases cL9:eqI f6.2 0=true
        · rw[if_pos cL9] at h
          obtain⟨lF,eL10,h⟩:=bsm h
          exact LT.next aF (hs:=⟨[(0,[]),(22,[]),(23,[]),(24,[])],[⟨.tmp 0,[],some 2⟩],false,[],[]⟩) (es:=none) [dt,.n x2.length,(A51_0 aV),(A51_1 aO),.rows (List.map aA aK),dt,.call ⟨false,[]⟩ (.ref 2 0 1 0 aM.length .full) [(.arr 2 (List.map aA aM) 1 1 false),(.arr 2 (List.map aA [(aV.1,0)]) 0 0 false)],.row [(.int .i64 bB.2)],.rows (List.map aA (List.set aM (tN aO.1) (bB.1,aI .i64 bB.2 aV.2))),.row [(.int .i64 f6.2)],dt,.call ⟨false,[]⟩ (.ref 2 0 2 0 lF.length .full) [(.arr 2 (List.map aA lF) 2 2 false)],.n lF.length,.rows (List.map aA lF)] [⟨(gU aA (l:=lF) (n:=lF.length) rfl)⟩,⟨(rfl:lF.length=lF.length)⟩,⟨(zle lF.length)⟩,⟨(by have hh:=(aAG k aO.1 (aI .i64 aO.1 1) (List.set aM (tN aO.1) (bB.1,aI .i64 bB.2 aV.2)) _ eL10);simp only[List.length_set] at hh;exact hh)⟩,⟨cL9⟩,⟨(aN (e:=aA) eL8 2 1 1 (by decide))⟩,⟨cL6⟩,⟨(rM (e:=aA) eL7 1 [(.int .i64 (aI .i64 bB.2 aV.2))] (bB.1,aI .i64 bB.2 aV.2) rfl)⟩,⟨cL6⟩,⟨(aN (e:=aA) eL7 2 1 1 (by decide))⟩,⟨cL6⟩,⟨(tE k aO.1 aK [(aV.1,0)] _ eL5)⟩,⟨(nT cL4)⟩,⟨(qO k aK aV.1 _ eL3)⟩,⟨(bC aA (l:=aK) (n:=aK.length) rfl)⟩,⟨(cY aA (Nat.le_refl aK.length):0+aK.length≤(List.map aA aK).length)⟩,⟨(aN (e:=aA) eL2 2 0 2 (by decide))⟩,⟨cL1⟩,⟨(aL aA x2)⟩,⟨cL0⟩] (by kernel_rfl) (lZ x2 y k (aI .i64 b5 1) lF h)
        rw[if_neg cL9] at h;replace cL9:=eqf cL9
        exact LT.next aF (hs:=⟨[(0,[]),(22,[]),(23,[]),(24,[])],[⟨.tmp 0,[],some 2⟩],false,[],[]⟩) (es:=none) [dt,.n x2.length,(A51_0 aV),(A51_1 aO),.rows (List.map aA aK),dt,.call ⟨false,[]⟩ (.ref 2 0 1 0 aM.length .full) [(.arr 2 (List.map aA aM) 1 1 false),(.arr 2 (List.map aA [(aV.1,0)]) 0 0 false)],.row [(.int .i64 bB.2)],.rows (List.map aA (List.set aM (tN aO.1) (bB.1,aI .i64 bB.2 aV.2))),.row [(.int .i64 f6.2)],df,.n ((List.set aM (tN aO.1) (bB.1,aI .i64 bB.2 aV.2)).length),.rows (List.map aA (List.set aM (tN aO.1) (bB.1,aI .i64 bB.2 aV.2)))] [⟨(gU aA (l:=(List.set aM (tN aO.1) (bB.1,aI .i64 bB.2 aV.2))) (n:=aM.length) (by simp:aM.length=(List.set aM (tN aO.1) (bB.1,aI .i64 bB.2 aV.2)).length))⟩,⟨((by simp:aM.length=List.length (α:=Int × Int) (List.set aM (tN aO.1) (bB.1,aI .i64 bB.2 aV.2))):aM.length=(List.set aM (tN aO.1) (bB.1,aI .i64 bB.2 aV.2)).length)⟩,⟨(zle aM.length)⟩,⟨cL9⟩,⟨(aN (e:=aA) eL8 2 1 1 (by decide))⟩,⟨cL6⟩,⟨(rM (e:=aA) eL7 1 [(.int .i64 (aI .i64 bB.2 aV.2))] (bB.1,aI .i64 bB.2 aV.2) rfl)⟩,⟨cL6⟩,⟨(aN (e:=aA) eL7 2 1 1 (by decide))⟩,⟨cL6⟩,⟨(tE k aO.1 aK [(aV.1,0)] _ eL5)⟩,⟨(nT cL4)⟩,⟨(qO k aK aV.1 _ eL3)⟩,⟨(bC aA (l:=aK) (n:=aK.length) rfl)⟩,⟨(cY aA (Nat.le_refl aK.length):0+aK.length≤(List.map aA aK).length)⟩,⟨(aN (e:=aA) eL2 2 0 2 (by decide))⟩,⟨cL1⟩,⟨(aL aA x2)⟩,⟨cL0⟩] (by kernel_rfl) (lZ x2 y k (aI .i64 b5 1) (List.set aM (tN aO.1) (bB.1,aI .i64 bB.2 aV.2)) h)
      rw[if_neg cL6] at h;replace cL6:=eqf cL6
      cases h
    rw[if_neg cL1] at h;replace cL1:=eqf cL1
    cases h
  rw[if_neg cL0] at h;replace cL0:=eqf cL0
  obtain rfl:=osi h
  show LT _ _ _ _ (.st (.exit 0) (aHT aK))
  exact LT.done aF (hs:=⟨[],[],false,[],[]⟩) (es:=(some ⟨[(0,[])],[⟨.tmp 0,[],none⟩],false,[],[]⟩)) [df] [⟨cL0⟩] (by kernel_rfl) (fun s h=>by cases h)
theorem hH (k:Nat) (x1:aG) (x2:aG) (r:aG × Int) (h:iM k x1 x2=some r):Tri Try.prog 51 [(.sl 2 (List.map aA x1)),(.sl 2 (List.map aA x2))] [] (.tup [(.sl 2 (List.map aA r.1)),(.int .i64 r.2)]) []:=by
 unfold iM at h
 obtain⟨x3,e0,h⟩:=bsm h
 obtain⟨x4,e1,h⟩:=bsm h
 by_cases c2:x4=true
 · rw[if_pos c2] at h
   obtain⟨x5,e3,h⟩:=bsm h
   by_cases c4:x5=true
   · rw[if_pos c4] at h
     obtain rfl:=osi h
     exact Tri.of (x:=X51) aF aIW [(A51_2 x1),.call ⟨true,[]⟩ (.bool x4) [],.rows (List.map aA x1),df,df,df,.call ⟨true,[]⟩ (.bool x5) [],df,dt,.rows (List.map aA x1)] [⟨(bC aA (l:=x1) (n:=x1.length) rfl)⟩,⟨(cY aA (Nat.le_refl x1.length):0+x1.length≤(List.map aA x1).length)⟩,⟨c4⟩,⟨(nF c2)⟩,⟨(qS k x2 _ e3)⟩,⟨(nF c2)⟩,⟨(nF c2)⟩,⟨(nF c2)⟩,⟨(sZ k x1 _ e1)⟩,⟨(bC aA (l:=x1) (n:=x1.length) rfl)⟩,⟨(cY aA (Nat.le_refl x1.length):0+x1.length≤(List.map aA x1).length)⟩,⟨(pT k x1 _ e0)⟩] (by kernel_rfl)
   rw[if_neg c4] at h;replace c4:=eqf c4
   obtain⟨x7,e5,h⟩:=bsm h
   obtain rfl:=osi h
   exact Tri.of (x:=X51) aF aIW [(A51_2 x1),.call ⟨true,[]⟩ (.bool x4) [],.rows (List.map aA x1),df,df,df,.call ⟨true,[]⟩ (.bool x5) [],df,df,.n x2.length,.norm 2 ⟨[(0,[]),(22,[]),(23,[]),(24,[])],[⟨.tmp 0,[],some 2⟩],false,[],[]⟩,.n x1.length,.rows (List.map aA x1),.out (.st .normal (aHT x7)),.rows (List.map aA x7)] [⟨(bC aA (l:=x7) (n:=x7.length) rfl)⟩,⟨(cY aA (Nat.le_refl x7.length):0+x7.length≤(List.map aA x7).length)⟩,⟨(LT.block (lZ x2 _ k 0 x1 e5))⟩,⟨(gU aA (l:=x1) (n:=x1.length) rfl)⟩,⟨(rfl:x1.length=x1.length)⟩,⟨(zle x1.length)⟩,⟨(aL aA x2)⟩,⟨c4⟩,⟨(nF c2)⟩,⟨(qS k x2 _ e3)⟩,⟨(nF c2)⟩,⟨(nF c2)⟩,⟨(nF c2)⟩,⟨(sZ k x1 _ e1)⟩,⟨(bC aA (l:=x1) (n:=x1.length) rfl)⟩,⟨(cY aA (Nat.le_refl x1.length):0+x1.length≤(List.map aA x1).length)⟩,⟨(pT k x1 _ e0)⟩] (by kernel_rfl)
 rw[if_neg c2] at h;replace c2:=eqf c2
 obtain rfl:=osi h
 exact Tri.of (x:=X51) aF aIW [(A51_2 x1),.call ⟨true,[]⟩ (.bool x4) [],.rows (List.map aA x1),dt,dt,dt,dt,dt,.rows (List.map aA x1)] [⟨(bC aA (l:=x1) (n:=x1.length) rfl)⟩,⟨(cY aA (Nat.le_refl x1.length):0+x1.length≤(List.map aA x1).length)⟩,⟨rT⟩,⟨(nT c2)⟩,⟨(nT c2)⟩,⟨(nT c2)⟩,⟨(nT c2)⟩,⟨(sZ k x1 _ e1)⟩,⟨(bC aA (l:=x1) (n:=x1.length) rfl)⟩,⟨(cY aA (Nat.le_refl x1.length):0+x1.length≤(List.map aA x1).length)⟩,⟨(pT k x1 _ e0)⟩] (by kernel_rfl)
end Go.Ws

namespace Go.Ws
open Go.Proofs
set_option linter.unusedSimpArgs false
set_option linter.unusedVariables false
set_option maxRecDepth 1000000
set_option maxHeartbeats 4000000
noncomputable def X31:Ctx:=⟨Try.f31,[],true⟩
noncomputable def L31_0:Code:=at_ Try.f31 [1,0,1,4,5]
def S31_0 (x1:aG) (x2:Int) (dE:Int):St:=⟨mkT 20 [(1,(.int .u8 x2)),(7,(.sl 2 (List.map aA x1))),(8,(.int .i64 (nI x1.length))),(9,(.int .i64 dE))],[]⟩
def aII:St:=⟨mkT 20 [],[]⟩
def O31_0 (x1:aG) (x2:Int) (y:(Sum (Unit) (Int))):GX:=match y with
 | .inl y=>.st (.exit 0) (aII)
 | .inr y=>.fin (.int .i64 y) []
theorem rS (x1:aG) (x2:Int) (y:(Sum (Unit) (Int))):∀(k:Nat) (dE:Int),fX k x1 x2 dE=some y→LT Try.prog X31 L31_0 (S31_0 x1 x2 dE) (O31_0 x1 x2 y)
 | 0,dE,h=>by cases h
 | k+1,dE,h=>by
  rw[fX] at h
  by_cases cL0:ltI dE (nI x1.length)=true
  · rw[if_pos cL0] at h
    by_cases cL1:inI dE x1.length=true
    · rw[if_pos cL1] at h
      obtain⟨nG,eL2,h⟩:=bsm h
      by_cases cL3:eqI nG.1 x2=true
      · rw[if_pos cL3] at h
        obtain rfl:=osi h
        show LT _ _ _ _ (.fin (.int .i64 nG.2) [])
        exact LT.done aF (hs:=⟨[],[],false,[],[]⟩) (es:=none) [dt,.n x1.length,.row [(.int .u8 nG.1),(.int .i64 nG.2)],dt] [⟨cL3⟩,⟨(aN (e:=aA) eL2 2 0 2 (by decide))⟩,⟨cL1⟩,⟨(aL aA x1)⟩,⟨cL0⟩] (by kernel_rfl) (fun s h=>by cases h)
      rw[if_neg cL3] at h;replace cL3:=eqf cL3
      exact LT.next aF (hs:=⟨[(1,[]),(7,[]),(8,[]),(9,[])],[],false,[],[]⟩) (es:=none) [dt,.n x1.length,.row [(.int .u8 nG.1),(.int .i64 nG.2)],df] [⟨cL3⟩,⟨(aN (e:=aA) eL2 2 0 2 (by decide))⟩,⟨cL1⟩,⟨(aL aA x1)⟩,⟨cL0⟩] (by kernel_rfl) (rS x1 x2 y k (aI .i64 dE 1) h)
    rw[if_neg cL1] at h;replace cL1:=eqf cL1
    cases h
  rw[if_neg cL0] at h;replace cL0:=eqf cL0
  obtain rfl:=osi h
  show LT _ _ _ _ (.st (.exit 0) (aII))
  exact LT.done aF (hs:=⟨[],[],false,[],[]⟩) (es:=(some ⟨[],[],false,[],[]⟩)) [df] [⟨cL0⟩] (by kernel_rfl) (fun s h=>by cases h)
theorem sD (k:Nat) (x1:aG) (x2:Int) (r:Int) (h:mR k x1 x2=some r):Tri Try.prog 31 [(.sl 2 (List.map aA x1)),(.int .u8 x2)] [] (.int .i64 r) []:=by
 unfold mR at h
 obtain⟨x3,e0,h⟩:=bsm h
 cases x3 with
 | inl x4 =>
  simp only[Sum.elim_inl] at h
  obtain rfl:=osi h
  exact Tri.of (x:=X31) aF aMI [.n x1.length,.norm 2 ⟨[(1,[]),(7,[]),(8,[]),(9,[])],[],false,[],[]⟩,.out (.st .normal (aII))] [⟨(LT.block (rS x1 x2 _ k 0 e0))⟩,⟨(aL aA x1)⟩] (by kernel_rfl)
 | inr x4 =>
  simp only[Sum.elim_inr] at h
  obtain rfl:=osi h
  exact Tri.of (x:=X31) aF aMI [.n x1.length,.norm 2 ⟨[(1,[]),(7,[]),(8,[]),(9,[])],[],false,[],[]⟩,.out (.fin (.int .i64 x4) [])] [⟨(LT.blockFin (id:=0) (rS x1 x2 _ k 0 e0))⟩,⟨(aL aA x1)⟩] (by kernel_rfl)
end Go.Ws

namespace Go.Ws
open Go.Proofs
set_option linter.unusedSimpArgs false
set_option linter.unusedVariables false
set_option maxRecDepth 1000000
set_option maxHeartbeats 4000000
noncomputable def X29_1001:Ctx:=⟨Try.f29,[],false⟩
theorem wF (k:Nat) (x1:aG) (r:Unit) (h:gZ k x1=some r):Tri Try.prog 29 [(.inl 2 (List.map aA x1))] [] (.ref 2 0 0 0 x1.length .virt) [(.arr 2 (List.map aA x1) 0 0 false)]:=by
 unfold gZ at h
 by_cases c0:cV (x1.length*16)=true
 · rw[if_pos c0] at h
   obtain rfl:=osi h
   exact Tri.of (x:=X29_1001) aF aMM [df,.n x1.length,.norm 0 ⟨[(2,[])],[⟨.tmp 2,[],some 2⟩],false,[],[]⟩,.n x1.length,.rows (List.map aA x1)] [⟨(gU aA (l:=x1) (n:=x1.length) rfl)⟩,⟨(rfl:x1.length=x1.length)⟩,⟨(zle x1.length)⟩,⟨c0⟩,⟨(aL aA x1)⟩,⟨rF⟩] (by kernel_rfl)
 rw[if_neg c0] at h;replace c0:=eqf c0
 cases h
end Go.Ws

namespace Go.Ws
open Go.Proofs
set_option linter.unusedSimpArgs false
set_option linter.unusedVariables false
set_option maxRecDepth 1000000
set_option maxHeartbeats 4000000
noncomputable def X29_1002:Ctx:=⟨Try.f29,[],false⟩
theorem v7:Tri Try.prog 29 [.nils] [] (.ref 2 0 0 0 0 .virt) [(.arr 2 (List.map aA []) 0 0 false)]:=by
 obtain⟨r,h⟩:∃r,oC=r:=⟨_,rfl⟩
 try rw[h]
 unfold oC at h
 obtain rfl:=h
 exact Tri.of (x:=X29_1002) aF aMM [dt,.norm 0 ⟨[(2,[])],[⟨.tmp 2,[],some 2⟩],false,[],[]⟩,.n 0,.rows (List.map aA [])] [⟨(gU aA (l:=[]) (n:=0) rfl)⟩,⟨(rfl:0=0)⟩,⟨(zle 0)⟩,⟨rT⟩] (by kernel_rfl)
end Go.Ws

namespace Go.Ws
open Go.Proofs
set_option linter.unusedSimpArgs false
set_option linter.unusedVariables false
set_option maxRecDepth 1000000
set_option maxHeartbeats 4000000
theorem gS (k:Nat) (x1:aG) (r:Unit) (h:eT k x1=some r):Tri Try.prog 29 [(.sl 2 (List.map aA x1))] [] (.ref 2 0 0 0 x1.length .virt) [(.arr 2 (List.map aA x1) 0 0 false)]:=by
 refine Tri.slOf (wF k x1 r h) fun h0=>?_
 have hx:x1=[]:=by simpa using h0
 subst hx
 exact v7
end Go.Ws

namespace Go.Ws
open Go.Proofs
set_option linter.unusedSimpArgs false
set_option linter.unusedVariables false
set_option maxRecDepth 1000000
set_option maxHeartbeats 4000000
noncomputable def X68:Ctx:=⟨Try.f68,[],false⟩
theorem mC (k:Nat) (x1:Int) (x2:aG) (x3:Bool) (x4:Int) (r:Unit) (h:nJ k x1 x2 x3 x4=some r):Tri Try.prog 68 [(.agg [(.int .i64 x1),(.sl 2 (List.map aA x2)),(.bool x3),(.int .i64 x4)])] [] (.agg [(.int .i64 x1),(.ref 2 0 0 0 x2.length .virt),(.bool x3),(.int .i64 x4)]) [(.arr 2 (List.map aA x2) 0 0 false)]:=by
 unfold nJ at h
 obtain⟨x5,e0,h⟩:=bsm h
 obtain rfl:=osi h
 exact Tri.of (x:=X68) aF aLY [.call ⟨true,[]⟩ (.ref 2 0 0 0 x2.length .virt) [(.arr 2 (List.map aA x2) 0 0 false)],.norm 0 ⟨[(2,[])],[⟨.tmp 2,[],none⟩,⟨.cell 0 1,[],none⟩],false,[],[]⟩] [⟨(gS k x2 _ e0)⟩] (by kernel_rfl)
end Go.Ws

namespace Go.Ws
open Go.Proofs
set_option linter.unusedSimpArgs false
set_option linter.unusedVariables false
set_option maxRecDepth 1000000
set_option maxHeartbeats 4000000
noncomputable def X43:Ctx:=⟨Try.f43,[],true⟩
theorem oL (x1:Int) (x2:Int):Tri Try.prog 43 [(.agg [(.int .u8 x1),(.int .i64 x2)])] [] (.bool (gY x1 x2)) []:=by
 obtain⟨r,h⟩:∃r,gY x1 x2=r:=⟨_,rfl⟩
 try rw[h]
 unfold gY at h
 obtain rfl:=h
 exact Tri.of (x:=X43) aF facts43 [] [] (by kernel_rfl)
end Go.Ws

namespace Go.Ws
open Go.Proofs
set_option linter.unusedSimpArgs false
set_option linter.unusedVariables false
set_option maxRecDepth 1000000
set_option maxHeartbeats 4000000
noncomputable def X60_1:Ctx:=⟨Try.f60,[],true⟩
noncomputable def L60_1_0:Code:=at_ Try.f60 [1,0,1,4,5]
def S60_1_0 (x1:aG) (b6:Int):St:=⟨mkT 19 [(0,(.sl 2 (List.map aA x1))),(1,(.fn 43 [])),(7,(.int .i64 (nI x1.length))),(8,(.int .i64 b6))],[]⟩
def aC4:St:=⟨mkT 19 [],[]⟩
def O60_1_0 (x1:aG) (y:(Sum (Unit) (Int))):GX:=match y with
 | .inl y=>.st (.exit 0) (aC4)
 | .inr y=>.fin (.int .i64 y) []
theorem jT (x1:aG) (y:(Sum (Unit) (Int))):∀(k:Nat) (b6:Int),bH k x1 b6=some y→LT Try.prog X60_1 L60_1_0 (S60_1_0 x1 b6) (O60_1_0 x1 y)
 | 0,b6,h=>by cases h
 | k+1,b6,h=>by
  rw[bH] at h
  by_cases cL0:ltI b6 (nI x1.length)=true
  · rw[if_pos cL0] at h
    by_cases cL1:inI b6 x1.length=true
    · rw[if_pos cL1] at h
      obtain⟨fS,eL2,h⟩:=bsm h
      by_cases cL3:(gY fS.1 fS.2)=true
      · rw[if_pos cL3] at h
        obtain rfl:=osi h
        show LT _ _ _ _ (.fin (.int .i64 b6) [])
        exact LT.done aF (hs:=⟨[],[],false,[],[]⟩) (es:=none) [dt,.n x1.length,.row [(.int .u8 fS.1),(.int .i64 fS.2)],.call ⟨true,[]⟩ (.bool (gY fS.1 fS.2)) [],dt] [⟨cL3⟩,⟨(oL fS.1 fS.2)⟩,⟨(aN (e:=aA) eL2 2 0 2 (by decide))⟩,⟨cL1⟩,⟨(aL aA x1)⟩,⟨cL0⟩] (by kernel_rfl) (fun s h=>by cases h)
      rw[if_neg cL3] at h;replace cL3:=eqf cL3
      exact LT.next aF (hs:=⟨[(0,[]),(1,[]),(7,[]),(8,[])],[],false,[],[]⟩) (es:=none) [dt,.n x1.length,.row [(.int .u8 fS.1),(.int .i64 fS.2)],.call ⟨true,[]⟩ (.bool (gY fS.1 fS.2)) [],df] [⟨cL3⟩,⟨(oL fS.1 fS.2)⟩,⟨(aN (e:=aA) eL2 2 0 2 (by decide))⟩,⟨cL1⟩,⟨(aL aA x1)⟩,⟨cL0⟩] (by kernel_rfl) (jT x1 y k (aI .i64 b6 1) h)
    rw[if_neg cL1] at h;replace cL1:=eqf cL1
    cases h
  rw[if_neg cL0] at h;replace cL0:=eqf cL0
  obtain rfl:=osi h
  show LT _ _ _ _ (.st (.exit 0) (aC4))
  exact LT.done aF (hs:=⟨[],[],false,[],[]⟩) (es:=(some ⟨[],[],false,[],[]⟩)) [df] [⟨cL0⟩] (by kernel_rfl) (fun s h=>by cases h)
theorem vE (k:Nat) (x1:aG) (r:Int) (h:gI k x1=some r):Tri Try.prog 60 [(.sl 2 (List.map aA x1)),(.fn 43 [])] [] (.int .i64 r) []:=by
 unfold gI at h
 obtain⟨x2,e0,h⟩:=bsm h
 cases x2 with
 | inl x3 =>
  simp only[Sum.elim_inl] at h
  obtain rfl:=osi h
  exact Tri.of (x:=X60_1) aF aD8 [.n x1.length,.norm 2 ⟨[(0,[]),(1,[]),(7,[]),(8,[])],[],false,[],[]⟩,.out (.st .normal (aC4))] [⟨(LT.block (jT x1 _ k 0 e0))⟩,⟨(aL aA x1)⟩] (by kernel_rfl)
 | inr x3 =>
  simp only[Sum.elim_inr] at h
  obtain rfl:=osi h
  exact Tri.of (x:=X60_1) aF aD8 [.n x1.length,.norm 2 ⟨[(0,[]),(1,[]),(7,[]),(8,[])],[],false,[],[]⟩,.out (.fin (.int .i64 x3) [])] [⟨(LT.blockFin (id:=0) (jT x1 _ k 0 e0))⟩,⟨(aL aA x1)⟩] (by kernel_rfl)
end Go.Ws

namespace Go.Ws
open Go.Proofs
set_option linter.unusedSimpArgs false
set_option linter.unusedVariables false
set_option maxRecDepth 1000000
set_option maxHeartbeats 4000000
noncomputable def X42_1:Ctx:=⟨Try.f42,[],true⟩
theorem cM (k:Nat) (x1:aG) (r:Bool) (h:gH k x1=some r):Tri Try.prog 42 [(.sl 2 (List.map aA x1)),(.fn 43 [])] [] (.bool r) []:=by
 unfold gH at h
 obtain⟨x2,e0,h⟩:=bsm h
 obtain rfl:=osi h
 exact Tri.of (x:=X42_1) aF aLZ [.call ⟨true,[]⟩ (.int .i64 x2) []] [⟨(vE k x1 _ e0)⟩] (by kernel_rfl)
end Go.Ws

namespace Go.Ws
open Go.Proofs
set_option linter.unusedSimpArgs false
set_option linter.unusedVariables false
set_option maxRecDepth 1000000
set_option maxHeartbeats 4000000
noncomputable def X33:Ctx:=⟨Try.f33,[],true⟩
theorem bD (k:Nat) (x1:Int) (x2:aG) (x3:Bool) (x4:Int) (r:Bool) (h:mV k x1 x2 x3 x4=some r):Tri Try.prog 33 [(.agg [(.int .i64 x1),(.sl 2 (List.map aA x2)),(.bool x3),(.int .i64 x4)])] [] (.bool r) []:=by
 unfold mV at h
 by_cases c0:ltI x1 0=true
 · rw[if_pos c0] at h
   obtain rfl:=osi h
   exact Tri.of (x:=X33) aF pQ [dt,dt,dt,dt,dt,dt,dt,dt,dt,dt,dt,dt,dt,dt] [⟨rT⟩,⟨rT⟩,⟨rT⟩,⟨rT⟩,⟨rT⟩,⟨rT⟩,⟨rT⟩,⟨rT⟩,⟨rT⟩,⟨rT⟩,⟨c0⟩,⟨c0⟩,⟨c0⟩,⟨c0⟩] (by kernel_rfl)
 rw[if_neg c0] at h;replace c0:=eqf c0
 by_cases c1:ltI 3 x1=true
 · rw[if_pos c1] at h
   obtain rfl:=osi h
   exact Tri.of (x:=X33) aF pQ [df,df,df,df,dt,dt,dt,dt,dt,dt,dt,dt,dt,dt] [⟨rT⟩,⟨rT⟩,⟨rT⟩,⟨rT⟩,⟨rT⟩,⟨c1⟩,⟨c1⟩,⟨c1⟩,⟨c1⟩,⟨c1⟩,⟨c0⟩,⟨c0⟩,⟨c0⟩,⟨c0⟩] (by kernel_rfl)
 rw[if_neg c1] at h;replace c1:=eqf c1
 by_cases c2:ltI 50 (nI x2.length)=true
 · rw[if_pos c2] at h
   obtain rfl:=osi h
   exact Tri.of (x:=X33) aF pQ [df,df,df,df,df,df,df,.n x2.length,df,df,dt,dt,dt,dt,dt] [⟨rT⟩,⟨c2⟩,⟨c2⟩,⟨c2⟩,⟨c2⟩,⟨c1⟩,⟨c1⟩,⟨(aL aA x2)⟩,⟨c1⟩,⟨c1⟩,⟨c1⟩,⟨c0⟩,⟨c0⟩,⟨c0⟩,⟨c0⟩] (by kernel_rfl)
 rw[if_neg c2] at h;replace c2:=eqf c2
 obtain⟨x5,e3,h⟩:=bsm h
 by_cases c4:x5=true
 · rw[if_pos c4] at h
   obtain rfl:=osi h
   exact Tri.of (x:=X33) aF pQ [df,df,df,df,df,df,df,.n x2.length,df,df,df,df,df,.call ⟨true,[]⟩ (.bool x5) [],df,dt] [⟨c4⟩,⟨c2⟩,⟨(cM k x2 _ e3)⟩,⟨c2⟩,⟨c2⟩,⟨c2⟩,⟨c1⟩,⟨c1⟩,⟨(aL aA x2)⟩,⟨c1⟩,⟨c1⟩,⟨c1⟩,⟨c0⟩,⟨c0⟩,⟨c0⟩,⟨c0⟩] (by kernel_rfl)
 rw[if_neg c4] at h;replace c4:=eqf c4
 by_cases c5:eqI x4 1=true
 · rw[if_pos c5] at h
   by_cases c6:eqI x1 3=true
   · rw[if_pos c6] at h
     obtain rfl:=osi h
     exact Tri.of (x:=X33) aF pQ [df,df,df,df,df,df,df,.n x2.length,df,df,df,df,df,.call ⟨true,[]⟩ (.bool x5) [],df,df,dt,dt,dt,dt,dt] [⟨c6⟩,⟨c5⟩,⟨c5⟩,⟨c5⟩,⟨c5⟩,⟨c4⟩,⟨c2⟩,⟨(cM k x2 _ e3)⟩,⟨c2⟩,⟨c2⟩,⟨c2⟩,⟨c1⟩,⟨c1⟩,⟨(aL aA x2)⟩,⟨c1⟩,⟨c1⟩,⟨c1⟩,⟨c0⟩,⟨c0⟩,⟨c0⟩,⟨c0⟩] (by kernel_rfl)
   rw[if_neg c6] at h;replace c6:=eqf c6
   by_cases c7:eqI x4 0=true
   · rw[if_pos c7] at h
     by_cases c8:x3=true
     · rw[if_pos c8] at h
       obtain rfl:=osi h
       exact Tri.of (x:=X33) aF pQ [df,df,df,df,df,df,df,.n x2.length,df,df,df,df,df,.call ⟨true,[]⟩ (.bool x5) [],df,df,dt,dt,dt,dt,df,dt,dt,dt,dt,df,df,df,dt,df,dt] [⟨c7⟩,⟨(nF c8)⟩,⟨c7⟩,⟨(nF c8)⟩,⟨(nF c8)⟩,⟨(nF c8)⟩,⟨c7⟩,⟨c7⟩,⟨c7⟩,⟨c7⟩,⟨c6⟩,⟨c5⟩,⟨c5⟩,⟨c5⟩,⟨c5⟩,⟨c4⟩,⟨c2⟩,⟨(cM k x2 _ e3)⟩,⟨c2⟩,⟨c2⟩,⟨c2⟩,⟨c1⟩,⟨c1⟩,⟨(aL aA x2)⟩,⟨c1⟩,⟨c1⟩,⟨c1⟩,⟨c0⟩,⟨c0⟩,⟨c0⟩,⟨c0⟩] (by kernel_rfl)
     rw[if_neg c8] at h;replace c8:=eqf c8
     obtain rfl:=osi h
     exact Tri.of (x:=X33) aF pQ [df,df,df,df,df,df,df,.n x2.length,df,df,df,df,df,.call ⟨true,[]⟩ (.bool x5) [],df,df,dt,dt,dt,dt,df,dt,dt,dt,dt,dt,dt,dt,dt,dt,dt] [⟨c7⟩,⟨(nT c8)⟩,⟨c7⟩,⟨(nT c8)⟩,⟨(nT c8)⟩,⟨(nT c8)⟩,⟨c7⟩,⟨c7⟩,⟨c7⟩,⟨c7⟩,⟨c6⟩,⟨c5⟩,⟨c5⟩,⟨c5⟩,⟨c5⟩,⟨c4⟩,⟨c2⟩,⟨(cM k x2 _ e3)⟩,⟨c2⟩,⟨c2⟩,⟨c2⟩,⟨c1⟩,⟨c1⟩,⟨(aL aA x2)⟩,⟨c1⟩,⟨c1⟩,⟨c1⟩,⟨c0⟩,⟨c0⟩,⟨c0⟩,⟨c0⟩] (by kernel_rfl)
   rw[if_neg c7] at h;replace c7:=eqf c7
   obtain rfl:=osi h
   exact Tri.of (x:=X33) aF pQ [df,df,df,df,df,df,df,.n x2.length,df,df,df,df,df,.call ⟨true,[]⟩ (.bool x5) [],df,df,dt,dt,dt,dt,df,df,df,df,df,df,df] [⟨c7⟩,⟨c7⟩,⟨c7⟩,⟨c7⟩,⟨c7⟩,⟨c7⟩,⟨c6⟩,⟨c5⟩,⟨c5⟩,⟨c5⟩,⟨c5⟩,⟨c4⟩,⟨c2⟩,⟨(cM k x2 _ e3)⟩,⟨c2⟩,⟨c2⟩,⟨c2⟩,⟨c1⟩,⟨c1⟩,⟨(aL aA x2)⟩,⟨c1⟩,⟨c1⟩,⟨c1⟩,⟨c0⟩,⟨c0⟩,⟨c0⟩,⟨c0⟩] (by kernel_rfl)
 rw[if_neg c5] at h;replace c5:=eqf c5
 by_cases c6:eqI x1 3=true
 · rw[if_pos c6] at h
   obtain rfl:=osi h
   exact Tri.of (x:=X33) aF pQ [df,df,df,df,df,df,df,.n x2.length,df,df,df,df,df,.call ⟨true,[]⟩ (.bool x5) [],df,df,df,df,df,df,dt] [⟨c6⟩,⟨c5⟩,⟨c5⟩,⟨c5⟩,⟨c5⟩,⟨c4⟩,⟨c2⟩,⟨(cM k x2 _ e3)⟩,⟨c2⟩,⟨c2⟩,⟨c2⟩,⟨c1⟩,⟨c1⟩,⟨(aL aA x2)⟩,⟨c1⟩,⟨c1⟩,⟨c1⟩,⟨c0⟩,⟨c0⟩,⟨c0⟩,⟨c0⟩] (by kernel_rfl)
 rw[if_neg c6] at h;replace c6:=eqf c6
 by_cases c7:eqI x4 0=true
 · rw[if_pos c7] at h
   by_cases c8:x3=true
   · rw[if_pos c8] at h
     obtain rfl:=osi h
     exact Tri.of (x:=X33) aF pQ [df,df,df,df,df,df,df,.n x2.length,df,df,df,df,df,.call ⟨true,[]⟩ (.bool x5) [],df,df,df,df,df,df,df,dt,dt,dt,dt,df,df,df,dt,df,dt] [⟨c7⟩,⟨(nF c8)⟩,⟨c7⟩,⟨(nF c8)⟩,⟨(nF c8)⟩,⟨(nF c8)⟩,⟨c7⟩,⟨c7⟩,⟨c7⟩,⟨c7⟩,⟨c6⟩,⟨c5⟩,⟨c5⟩,⟨c5⟩,⟨c5⟩,⟨c4⟩,⟨c2⟩,⟨(cM k x2 _ e3)⟩,⟨c2⟩,⟨c2⟩,⟨c2⟩,⟨c1⟩,⟨c1⟩,⟨(aL aA x2)⟩,⟨c1⟩,⟨c1⟩,⟨c1⟩,⟨c0⟩,⟨c0⟩,⟨c0⟩,⟨c0⟩] (by kernel_rfl)
   rw[if_neg c8] at h;replace c8:=eqf c8
   obtain rfl:=osi h
   exact Tri.of (x:=X33) aF pQ [df,df,df,df,df,df,df,.n x2.length,df,df,df,df,df,.call ⟨true,[]⟩ (.bool x5) [],df,df,df,df,df,df,df,dt,dt,dt,dt,dt,dt,dt,dt,dt,dt] [⟨c7⟩,⟨(nT c8)⟩,⟨c7⟩,⟨(nT c8)⟩,⟨(nT c8)⟩,⟨(nT c8)⟩,⟨c7⟩,⟨c7⟩,⟨c7⟩,⟨c7⟩,⟨c6⟩,⟨c5⟩,⟨c5⟩,⟨c5⟩,⟨c5⟩,⟨c4⟩,⟨c2⟩,⟨(cM k x2 _ e3)⟩,⟨c2⟩,⟨c2⟩,⟨c2⟩,⟨c1⟩,⟨c1⟩,⟨(aL aA x2)⟩,⟨c1⟩,⟨c1⟩,⟨c1⟩,⟨c0⟩,⟨c0⟩,⟨c0⟩,⟨c0⟩] (by kernel_rfl)
 rw[if_neg c7] at h;replace c7:=eqf c7
 obtain rfl:=osi h
 exact Tri.of (x:=X33) aF pQ [df,df,df,df,df,df,df,.n x2.length,df,df,df,df,df,.call ⟨true,[]⟩ (.bool x5) [],df,df,df,df,df,df,df,df,df,df,df,df,df] [⟨c7⟩,⟨c7⟩,⟨c7⟩,⟨c7⟩,⟨c7⟩,⟨c7⟩,⟨c6⟩,⟨c5⟩,⟨c5⟩,⟨c5⟩,⟨c5⟩,⟨c4⟩,⟨c2⟩,⟨(cM k x2 _ e3)⟩,⟨c2⟩,⟨c2⟩,⟨c2⟩,⟨c1⟩,⟨c1⟩,⟨(aL aA x2)⟩,⟨c1⟩,⟨c1⟩,⟨c1⟩,⟨c0⟩,⟨c0⟩,⟨c0⟩,⟨c0⟩] (by kernel_rfl)
end Go.Ws

namespace Go.Ws
open Go.Proofs
set_option linter.unusedSimpArgs false
set_option linter.unusedVariables false
set_option maxRecDepth 1000000
set_option maxHeartbeats 4000000
noncomputable def X47:Ctx:=⟨Try.f47,[],true⟩
def aKB (x1:Int) (x2:aG) (x3:Bool) (x4:Int):Ans:=.call ⟨true,[]⟩ (.agg [(.int .i64 x1),(.ref 2 0 0 0 x2.length .virt),(.bool x3),(.int .i64 x4)]) [(.arr 2 (List.map aA x2) 0 0 false)]
def A47_1 (x5:Int) (x6:Int):Ans:=.call ⟨true,[]⟩ (.bool (gY x5 x6)) []
theorem qH (k:Nat) (x1:Int) (x2:aG) (x3:Bool) (x4:Int) (x5:Int) (x6:Int) (r:Int × aG × Bool × Int × Int) (h:uO k x1 x2 x3 x4 x5 x6=some r):Tri Try.prog 47 [(.agg [(.int .i64 x1),(.sl 2 (List.map aA x2)),(.bool x3),(.int .i64 x4)]),(.agg [(.int .u8 x5),(.int .i64 x6)])] [] (.tup [(.agg [(.int .i64 r.1),(.sl 2 (List.map aA r.2.1)),(.bool r.2.2.1),(.int .i64 r.2.2.2.1)]),(.int .i64 r.2.2.2.2)]) []:=by
 unfold uO at h
 obtain⟨x7,e0,h⟩:=bsm h
 obtain⟨x8,e1,h⟩:=bsm h
 by_cases c2:x8=true
 · rw[if_pos c2] at h
   by_cases c3:(gY x5 x6)=true
   · rw[if_pos c3] at h
     obtain rfl:=osi h
     exact Tri.of (x:=X47) aF aAR [(aKB x1 x2 x3 x4),.call ⟨true,[]⟩ (.bool x8) [],.rows (List.map aA x2),df,df,(A47_1 x5 x6),df,dt,.rows (List.map aA x2)] [⟨(bC aA (l:=x2) (n:=x2.length) rfl)⟩,⟨(cY aA (Nat.le_refl x2.length):0+x2.length≤(List.map aA x2).length)⟩,⟨c3⟩,⟨(nF c2)⟩,⟨(oL x5 x6)⟩,⟨(nF c2)⟩,⟨(nF c2)⟩,⟨(bD k x1 x2 x3 x4 _ e1)⟩,⟨(bC aA (l:=x2) (n:=x2.length) rfl)⟩,⟨(cY aA (Nat.le_refl x2.length):0+x2.length≤(List.map aA x2).length)⟩,⟨(mC k x1 x2 x3 x4 _ e0)⟩] (by kernel_rfl)
   rw[if_neg c3] at h;replace c3:=eqf c3
   by_cases c4:eqI x1 0=true
   · rw[if_pos c4] at h
     by_cases c5:ltI (nI x2.length) 50=true
     · rw[if_pos c5] at h
       by_cases c6:cV (((x2++[(x5,x6)]).length)*16)=true
       · rw[if_pos c6] at h
         obtain rfl:=osi h
         exact Tri.of (x:=X47) aF aAR [(aKB x1 x2 x3 x4),.call ⟨true,[]⟩ (.bool x8) [],.rows (List.map aA x2),df,df,(A47_1 x5 x6),df,df,df,df,.rows (List.map aA [(x5,x6)]),.n ((x2++[(x5,x6)]).length),.n x2.length,dt,.rows (List.map aA (x2++[(x5,x6)])),.rows (List.map aA (x2++[(x5,x6)]))] [⟨(bC aA (l:=(x2++[(x5,x6)])) (n:=((x2++[(x5,x6)]).length)) rfl)⟩,⟨(cY aA (Nat.le_refl ((x2++[(x5,x6)]).length)):0+(x2++[(x5,x6)]).length≤(List.map aA (x2++[(x5,x6)])).length)⟩,⟨(aBY aA x2 [(x5,x6)])⟩,⟨(yD x2.length)⟩,⟨(aL aA x2)⟩,⟨c6⟩,⟨(by simp only[wl,List.length_map,List.map_nil,List.map_cons]<;>omega:x2.length+(List.map aA [(x5,x6)]).length=(x2++[(x5,x6)]).length)⟩,⟨(bC aA (l:=[(x5,x6)]) (n:=1) rfl)⟩,⟨(cY aA (Nat.le_refl 1):0+1≤(List.map aA [(x5,x6)]).length)⟩,⟨(nF c5)⟩,⟨(nF c4)⟩,⟨c3⟩,⟨(nF c2)⟩,⟨(oL x5 x6)⟩,⟨(nF c2)⟩,⟨(nF c2)⟩,⟨(bD k x1 x2 x3 x4 _ e1)⟩,⟨(bC aA (l:=x2) (n:=x2.length) rfl)⟩,⟨(cY aA (Nat.le_refl x2.length):0+x2.length≤(List.map aA x2).length)⟩,⟨(mC k x1 x2 x3 x4 _ e0)⟩] (by kernel_rfl)
       rw[if_neg c6] at h;replace c6:=eqf c6
       cases h
     rw[if_neg c5] at h;replace c5:=eqf c5
     obtain rfl:=osi h
     exact Tri.of (x:=X47) aF aAR [(aKB x1 x2 x3 x4),.call ⟨true,[]⟩ (.bool x8) [],.rows (List.map aA x2),df,df,(A47_1 x5 x6),df,df,df,dt,.rows (List.map aA x2)] [⟨(bC aA (l:=x2) (n:=x2.length) rfl)⟩,⟨(cY aA (Nat.le_refl x2.length):0+x2.length≤(List.map aA x2).length)⟩,⟨(nT c5)⟩,⟨(nF c4)⟩,⟨c3⟩,⟨(nF c2)⟩,⟨(oL x5 x6)⟩,⟨(nF c2)⟩,⟨(nF c2)⟩,⟨(bD k x1 x2 x3 x4 _ e1)⟩,⟨(bC aA (l:=x2) (n:=x2.length) rfl)⟩,⟨(cY aA (Nat.le_refl x2.length):0+x2.length≤(List.map aA x2).length)⟩,⟨(mC k x1 x2 x3 x4 _ e0)⟩] (by kernel_rfl)
   rw[if_neg c4] at h;replace c4:=eqf c4
   obtain rfl:=osi h
   exact Tri.of (x:=X47) aF aAR [(aKB x1 x2 x3 x4),.call ⟨true,[]⟩ (.bool x8) [],.rows (List.map aA x2),df,df,(A47_1 x5 x6),df,df,dt,.rows (List.map aA x2)] [⟨(bC aA (l:=x2) (n:=x2.length) rfl)⟩,⟨(cY aA (Nat.le_refl x2.length):0+x2.length≤(List.map aA x2).length)⟩,⟨(nT c4)⟩,⟨c3⟩,⟨(nF c2)⟩,⟨(oL x5 x6)⟩,⟨(nF c2)⟩,⟨(nF c2)⟩,⟨(bD k x1 x2 x3 x4 _ e1)⟩,⟨(bC aA (l:=x2) (n:=x2.length) rfl)⟩,⟨(cY aA (Nat.le_refl x2.length):0+x2.length≤(List.map aA x2).length)⟩,⟨(mC k x1 x2 x3 x4 _ e0)⟩] (by kernel_rfl)
 rw[if_neg c2] at h;replace c2:=eqf c2
 obtain rfl:=osi h
 exact Tri.of (x:=X47) aF aAR [(aKB x1 x2 x3 x4),.call ⟨true,[]⟩ (.bool x8) [],.rows (List.map aA x2),dt,dt,dt,dt,.rows (List.map aA x2)] [⟨(bC aA (l:=x2) (n:=x2.length) rfl)⟩,⟨(cY aA (Nat.le_refl x2.length):0+x2.length≤(List.map aA x2).length)⟩,⟨rT⟩,⟨(nT c2)⟩,⟨(nT c2)⟩,⟨(nT c2)⟩,⟨(bD k x1 x2 x3 x4 _ e1)⟩,⟨(bC aA (l:=x2) (n:=x2.length) rfl)⟩,⟨(cY aA (Nat.le_refl x2.length):0+x2.length≤(List.map aA x2).length)⟩,⟨(mC k x1 x2 x3 x4 _ e0)⟩] (by kernel_rfl)
end Go.Ws

namespace Go.Ws
open Go.Proofs
set_option linter.unusedSimpArgs false
set_option linter.unusedVariables false
set_option maxRecDepth 1000000
set_option maxHeartbeats 4000000
noncomputable def X68_1:Ctx:=⟨Try.f68,[],true⟩
theorem aW (k:Nat) (x1:Int) (x2:aG) (x3:Bool) (x4:Int) (r:Int × aG × Bool × Int) (h:iG k x1 x2 x3 x4=some r):Tri Try.prog 68 [(.agg [(.int .i64 x1),(.sl 2 (List.map aA x2)),(.bool x3),(.int .i64 x4)])] [] (.agg [(.int .i64 r.1),(.sl 2 (List.map aA r.2.1)),(.bool r.2.2.1),(.int .i64 r.2.2.2)]) []:=by
 unfold iG at h
 obtain⟨x5,e0,h⟩:=bsm h
 obtain rfl:=osi h
 exact Tri.of (x:=X68_1) aF aLY [.call ⟨true,[]⟩ (.ref 2 0 0 0 x2.length .virt) [(.arr 2 (List.map aA x2) 0 0 false)],.rows (List.map aA x2)] [⟨(bC aA (l:=x2) (n:=x2.length) rfl)⟩,⟨(cY aA (Nat.le_refl x2.length):0+x2.length≤(List.map aA x2).length)⟩,⟨(gS k x2 _ e0)⟩] (by kernel_rfl)
end Go.Ws

namespace Go.Ws
open Go.Proofs
set_option linter.unusedSimpArgs false
set_option linter.unusedVariables false
set_option maxRecDepth 1000000
set_option maxHeartbeats 4000000
noncomputable def X48:Ctx:=⟨Try.f48,[],true⟩
def A48_0 (x6:Int × aG × Bool × Int):Ans:=.call ⟨true,[]⟩ (.agg [(.int .i64 x6.1),(.sl 2 (List.map aA x6.2.1)),(.bool x6.2.2.1),(.int .i64 x6.2.2.2)]) []
theorem oN (k:Nat) (x1:Int) (x2:aG) (x3:Bool) (x4:Int) (x5:Bool) (r:Int × aG × Bool × Int × Int) (h:rQ k x1 x2 x3 x4 x5=some r):Tri Try.prog 48 [(.agg [(.int .i64 x1),(.sl 2 (List.map aA x2)),(.bool x3),(.int .i64 x4)]),(.bool x5)] [] (.tup [(.agg [(.int .i64 r.1),(.sl 2 (List.map aA r.2.1)),(.bool r.2.2.1),(.int .i64 r.2.2.2.1)]),(.int .i64 r.2.2.2.2)]) []:=by
 unfold rQ at h
 obtain⟨x6,e0,h⟩:=bsm h
 obtain⟨x7,e1,h⟩:=bsm h
 by_cases c2:x7=true
 · rw[if_pos c2] at h
   by_cases c3:eqI x6.1 0=true
   · rw[if_pos c3] at h
     by_cases c4:x5=true
     · rw[if_pos c4] at h
       obtain rfl:=osi h
       exact Tri.of (x:=X48) aF aDS [(A48_0 x6),.call ⟨true,[]⟩ (.bool x7) [],df,df,dt] [⟨c4⟩,⟨(nF c3)⟩,⟨(nF c2)⟩,⟨(bD k x6.1 x6.2.1 x6.2.2.1 x6.2.2.2 _ e1)⟩,⟨(aW k x1 x2 x3 x4 _ e0)⟩] (by kernel_rfl)
     rw[if_neg c4] at h;replace c4:=eqf c4
     obtain rfl:=osi h
     exact Tri.of (x:=X48) aF aDS [(A48_0 x6),.call ⟨true,[]⟩ (.bool x7) [],df,df,df] [⟨c4⟩,⟨(nF c3)⟩,⟨(nF c2)⟩,⟨(bD k x6.1 x6.2.1 x6.2.2.1 x6.2.2.2 _ e1)⟩,⟨(aW k x1 x2 x3 x4 _ e0)⟩] (by kernel_rfl)
   rw[if_neg c3] at h;replace c3:=eqf c3
   obtain rfl:=osi h
   exact Tri.of (x:=X48) aF aDS [(A48_0 x6),.call ⟨true,[]⟩ (.bool x7) [],df,dt] [⟨(nT c3)⟩,⟨(nF c2)⟩,⟨(bD k x6.1 x6.2.1 x6.2.2.1 x6.2.2.2 _ e1)⟩,⟨(aW k x1 x2 x3 x4 _ e0)⟩] (by kernel_rfl)
 rw[if_neg c2] at h;replace c2:=eqf c2
 obtain rfl:=osi h
 exact Tri.of (x:=X48) aF aDS [(A48_0 x6),.call ⟨true,[]⟩ (.bool x7) [],dt] [⟨(nT c2)⟩,⟨(bD k x6.1 x6.2.1 x6.2.2.1 x6.2.2.2 _ e1)⟩,⟨(aW k x1 x2 x3 x4 _ e0)⟩] (by kernel_rfl)
end Go.Ws

namespace Go.Ws
open Go.Proofs
set_option linter.unusedSimpArgs false
set_option linter.unusedVariables false
set_option maxRecDepth 1000000
set_option maxHeartbeats 4000000
noncomputable def X49:Ctx:=⟨Try.f49,[],true⟩
def A49_0 (x5:Int × aG × Bool × Int):Ans:=.call ⟨true,[]⟩ (.agg [(.int .i64 x5.1),(.sl 2 (List.map aA x5.2.1)),(.bool x5.2.2.1),(.int .i64 x5.2.2.2)]) []
def A49_1:Ans:=.norm 0 ⟨[(2,[]),(3,[(0,2)]),(4,[])],[⟨.tmp 2,[],none⟩],false,[],[]⟩
theorem sI (k:Nat) (x1:Int) (x2:aG) (x3:Bool) (x4:Int) (r:Int × aG × Bool × Int × aG × Int) (h:pV k x1 x2 x3 x4=some r):Tri Try.prog 49 [(.agg [(.int .i64 x1),(.sl 2 (List.map aA x2)),(.bool x3),(.int .i64 x4)])] [] (.tup [(.agg [(.int .i64 r.1),(.sl 2 (List.map aA r.2.1)),(.bool r.2.2.1),(.int .i64 r.2.2.2.1)]),(.sl 2 (List.map aA r.2.2.2.2.1)),(.int .i64 r.2.2.2.2.2)]) []:=by
 unfold pV at h
 obtain⟨x5,e0,h⟩:=bsm h
 obtain⟨x6,e1,h⟩:=bsm h
 by_cases c2:x6=true
 · rw[if_pos c2] at h
   by_cases c3:eqI x5.1 1=true
   · rw[if_pos c3] at h
     by_cases c4:x5.2.2.1=true
     · rw[if_pos c4] at h
       obtain rfl:=osi h
       exact Tri.of (x:=X49) aF aD3 [(A49_0 x5),.call ⟨true,[]⟩ (.bool x6) [],df,df,dt,A49_1] [⟨c4⟩,⟨(nF c3)⟩,⟨(nF c2)⟩,⟨(bD k x5.1 x5.2.1 x5.2.2.1 x5.2.2.2 _ e1)⟩,⟨(aW k x1 x2 x3 x4 _ e0)⟩] (by kernel_rfl)
     rw[if_neg c4] at h;replace c4:=eqf c4
     obtain⟨x7,e5,h⟩:=bsm h
     obtain rfl:=osi h
     exact Tri.of (x:=X49) aF aD3 [(A49_0 x5),.call ⟨true,[]⟩ (.bool x6) [],df,df,df,.call ⟨true,[]⟩ (.ref 2 0 0 0 x5.2.1.length .virt) [(.arr 2 (List.map aA x5.2.1) 0 0 false)],.rows (List.map aA x5.2.1)] [⟨(bC aA (l:=x5.2.1) (n:=x5.2.1.length) rfl)⟩,⟨(cY aA (Nat.le_refl x5.2.1.length):0+x5.2.1.length≤(List.map aA x5.2.1).length)⟩,⟨(gS k x5.2.1 _ e5)⟩,⟨c4⟩,⟨(nF c3)⟩,⟨(nF c2)⟩,⟨(bD k x5.1 x5.2.1 x5.2.2.1 x5.2.2.2 _ e1)⟩,⟨(aW k x1 x2 x3 x4 _ e0)⟩] (by kernel_rfl)
   rw[if_neg c3] at h;replace c3:=eqf c3
   obtain rfl:=osi h
   exact Tri.of (x:=X49) aF aD3 [(A49_0 x5),.call ⟨true,[]⟩ (.bool x6) [],df,dt,A49_1] [⟨(nT c3)⟩,⟨(nF c2)⟩,⟨(bD k x5.1 x5.2.1 x5.2.2.1 x5.2.2.2 _ e1)⟩,⟨(aW k x1 x2 x3 x4 _ e0)⟩] (by kernel_rfl)
 rw[if_neg c2] at h;replace c2:=eqf c2
 obtain rfl:=osi h
 exact Tri.of (x:=X49) aF aD3 [(A49_0 x5),.call ⟨true,[]⟩ (.bool x6) [],dt,A49_1] [⟨(nT c2)⟩,⟨(bD k x5.1 x5.2.1 x5.2.2.1 x5.2.2.2 _ e1)⟩,⟨(aW k x1 x2 x3 x4 _ e0)⟩] (by kernel_rfl)
end Go.Ws

namespace Go.Ws
open Go.Proofs
set_option linter.unusedSimpArgs false
set_option linter.unusedVariables false
set_option maxRecDepth 1000000
set_option maxHeartbeats 4000000
theorem u5 (k:Nat) (x1:aG) (r:aG) (h:lX k x1=some r):Tri Try.prog 35 [(.sl 2 (List.map aA x1))] [] (.ref 2 0 0 0 r.length .virt) [(.arr 2 (List.map aA r) 0 0 false)]:=opp_tri h
end Go.Ws

namespace Go.Ws
open Go.Proofs
set_option linter.unusedSimpArgs false
set_option linter.unusedVariables false
set_option maxRecDepth 1000000
set_option maxHeartbeats 4000000
noncomputable def X50:Ctx:=⟨Try.f50,[],true⟩
def wI (x6:Int × aG × Bool × Int):Ans:=.call ⟨true,[]⟩ (.agg [(.int .i64 x6.1),(.sl 2 (List.map aA x6.2.1)),(.bool x6.2.2.1),(.int .i64 x6.2.2.2)]) []
def aA0:Ans:=.norm 0 ⟨[(4,[]),(5,[(0,2)]),(6,[])],[⟨.tmp 4,[],none⟩],false,[],[]⟩
theorem iZ (k:Nat) (x1:Int) (x2:aG) (x3:Bool) (x4:Int) (x5:Int) (r:Int × aG × Bool × Int × aG × Int) (h:kX k x1 x2 x3 x4 x5=some r):Tri Try.prog 50 [(.agg [(.int .i64 x1),(.sl 2 (List.map aA x2)),(.bool x3),(.int .i64 x4)]),(.int .i64 x5)] [] (.tup [(.agg [(.int .i64 r.1),(.sl 2 (List.map aA r.2.1)),(.bool r.2.2.1),(.int .i64 r.2.2.2.1)]),(.sl 2 (List.map aA r.2.2.2.2.1)),(.int .i64 r.2.2.2.2.2)]) []:=by
 unfold kX at h
 obtain⟨x6,e0,h⟩:=bsm h
 obtain⟨x7,e1,h⟩:=bsm h
 by_cases c2:x7=true
 · rw[if_pos c2] at h
   by_cases c3:eqI x5 1=true
   · rw[if_pos c3] at h
     by_cases c4:eqI x6.2.2.2 x5=true
     · rw[if_pos c4] at h
       obtain rfl:=osi h
       exact Tri.of (x:=X50) aF oR [(wI x6),.call ⟨true,[]⟩ (.bool x7) [],df,df,df,df,df,df,df,df,df,dt,aA0] [⟨c4⟩,⟨rF⟩,⟨(nF c2)⟩,⟨(nF c3)⟩,⟨(nF c2)⟩,⟨(nF c3)⟩,⟨(nF c3)⟩,⟨(nF c2)⟩,⟨(nF c2)⟩,⟨(nF c2)⟩,⟨(bD k x6.1 x6.2.1 x6.2.2.1 x6.2.2.2 _ e1)⟩,⟨(aW k x1 x2 x3 x4 _ e0)⟩] (by kernel_rfl)
     rw[if_neg c4] at h;replace c4:=eqf c4
     by_cases c5:eqI x6.1 3=true
     · rw[if_pos c5] at h
       obtain rfl:=osi h
       exact Tri.of (x:=X50) aF oR [(wI x6),.call ⟨true,[]⟩ (.bool x7) [],df,df,df,df,df,df,df,df,df,df,dt,dt,dt,dt,dt,dt,aA0] [⟨rT⟩,⟨c5⟩,⟨c5⟩,⟨c5⟩,⟨c5⟩,⟨c5⟩,⟨c4⟩,⟨rF⟩,⟨(nF c2)⟩,⟨(nF c3)⟩,⟨(nF c2)⟩,⟨(nF c3)⟩,⟨(nF c3)⟩,⟨(nF c2)⟩,⟨(nF c2)⟩,⟨(nF c2)⟩,⟨(bD k x6.1 x6.2.1 x6.2.2.1 x6.2.2.2 _ e1)⟩,⟨(aW k x1 x2 x3 x4 _ e0)⟩] (by kernel_rfl)
     rw[if_neg c5] at h;replace c5:=eqf c5
     by_cases c6:eqI x6.1 1=true
     · rw[if_pos c6] at h
       by_cases c7:eqB (eqI x5 1) x6.2.2.1=true
       · rw[if_pos c7] at h
         obtain rfl:=osi h
         exact Tri.of (x:=X50) aF oR [(wI x6),.call ⟨true,[]⟩ (.bool x7) [],df,df,df,df,df,df,df,df,df,df,df,df,df,dt,dt,dt,df,dt,df,df,dt,aA0] [⟨c7⟩,⟨(nF c6)⟩,⟨c5⟩,⟨c3⟩,⟨c5⟩,⟨c3⟩,⟨c3⟩,⟨c3⟩,⟨c5⟩,⟨c5⟩,⟨c5⟩,⟨c4⟩,⟨rF⟩,⟨(nF c2)⟩,⟨(nF c3)⟩,⟨(nF c2)⟩,⟨(nF c3)⟩,⟨(nF c3)⟩,⟨(nF c2)⟩,⟨(nF c2)⟩,⟨(nF c2)⟩,⟨(bD k x6.1 x6.2.1 x6.2.2.1 x6.2.2.2 _ e1)⟩,⟨(aW k x1 x2 x3 x4 _ e0)⟩] (by kernel_rfl)
       rw[if_neg c7] at h;replace c7:=eqf c7
       by_cases c8:x6.2.2.1=true
       · rw[if_pos c8] at h
         obtain⟨x8,e9,h⟩:=bsm h
         obtain rfl:=osi h
         exact Tri.of (x:=X50) aF oR [(wI x6),.call ⟨true,[]⟩ (.bool x7) [],df,df,df,df,df,df,df,df,df,df,df,df,df,dt,dt,dt,df,dt,df,df,df,dt,.call ⟨true,[]⟩ (.ref 2 0 0 0 x8.length .virt) [(.arr 2 (List.map aA x8) 0 0 false)],.rows (List.map aA x8)] [⟨(bC aA (l:=x8) (n:=x8.length) rfl)⟩,⟨(cY aA (Nat.le_refl x8.length):0+x8.length≤(List.map aA x8).length)⟩,⟨(u5 k x6.2.1 _ e9)⟩,⟨c8⟩,⟨c7⟩,⟨(nF c6)⟩,⟨c5⟩,⟨c3⟩,⟨c5⟩,⟨c3⟩,⟨c3⟩,⟨c3⟩,⟨c5⟩,⟨c5⟩,⟨c5⟩,⟨c4⟩,⟨rF⟩,⟨(nF c2)⟩,⟨(nF c3)⟩,⟨(nF c2)⟩,⟨(nF c3)⟩,⟨(nF c3)⟩,⟨(nF c2)⟩,⟨(nF c2)⟩,⟨(nF c2)⟩,⟨(bD k x6.1 x6.2.1 x6.2.2.1 x6.2.2.2 _ e1)⟩,⟨(aW k x1 x2 x3 x4 _ e0)⟩] (by kernel_rfl)
       rw[if_neg c8] at h;replace c8:=eqf c8
       obtain⟨x8,e9,h⟩:=bsm h
       obtain rfl:=osi h
       exact Tri.of (x:=X50) aF oR [(wI x6),.call ⟨true,[]⟩ (.bool x7) [],df,df,df,df,df,df,df,df,df,df,df,df,df,dt,dt,dt,df,dt,df,df,df,df,.call ⟨true,[]⟩ (.ref 2 0 0 0 x6.2.1.length .virt) [(.arr 2 (List.map aA x6.2.1) 0 0 false)],.rows (List.map aA x6.2.1)] [⟨(bC aA (l:=x6.2.1) (n:=x6.2.1.length) rfl)⟩,⟨(cY aA (Nat.le_refl x6.2.1.length):0+x6.2.1.length≤(List.map aA x6.2.1).length)⟩,⟨(gS k x6.2.1 _ e9)⟩,⟨c8⟩,⟨c7⟩,⟨(nF c6)⟩,⟨c5⟩,⟨c3⟩,⟨c5⟩,⟨c3⟩,⟨c3⟩,⟨c3⟩,⟨c5⟩,⟨c5⟩,⟨c5⟩,⟨c4⟩,⟨rF⟩,⟨(nF c2)⟩,⟨(nF c3)⟩,⟨(nF c2)⟩,⟨(nF c3)⟩,⟨(nF c3)⟩,⟨(nF c2)⟩,⟨(nF c2)⟩,⟨(nF c2)⟩,⟨(bD k x6.1 x6.2.1 x6.2.2.1 x6.2.2.2 _ e1)⟩,⟨(aW k x1 x2 x3 x4 _ e0)⟩] (by kernel_rfl)
     rw[if_neg c6] at h;replace c6:=eqf c6
     obtain rfl:=osi h
     exact Tri.of (x:=X50) aF oR [(wI x6),.call ⟨true,[]⟩ (.bool x7) [],df,df,df,df,df,df,df,df,df,df,df,df,df,dt,dt,dt,df,dt,df,dt,aA0] [⟨(nT c6)⟩,⟨c5⟩,⟨c3⟩,⟨c5⟩,⟨c3⟩,⟨c3⟩,⟨c3⟩,⟨c5⟩,⟨c5⟩,⟨c5⟩,⟨c4⟩,⟨rF⟩,⟨(nF c2)⟩,⟨(nF c3)⟩,⟨(nF c2)⟩,⟨(nF c3)⟩,⟨(nF c3)⟩,⟨(nF c2)⟩,⟨(nF c2)⟩,⟨(nF c2)⟩,⟨(bD k x6.1 x6.2.1 x6.2.2.1 x6.2.2.2 _ e1)⟩,⟨(aW k x1 x2 x3 x4 _ e0)⟩] (by kernel_rfl)
   rw[if_neg c3] at h;replace c3:=eqf c3
   by_cases c4:eqI x5 2=true
   · rw[if_pos c4] at h
     by_cases c5:eqI x6.2.2.2 x5=true
     · rw[if_pos c5] at h
       obtain rfl:=osi h
       exact Tri.of (x:=X50) aF oR [(wI x6),.call ⟨true,[]⟩ (.bool x7) [],df,df,df,dt,dt,df,dt,df,df,dt,aA0] [⟨c5⟩,⟨(nF c4)⟩,⟨(nF c2)⟩,⟨(nT c3)⟩,⟨(nF c2)⟩,⟨(nT c3)⟩,⟨(nT c3)⟩,⟨(nF c2)⟩,⟨(nF c2)⟩,⟨(nF c2)⟩,⟨(bD k x6.1 x6.2.1 x6.2.2.1 x6.2.2.2 _ e1)⟩,⟨(aW k x1 x2 x3 x4 _ e0)⟩] (by kernel_rfl)
     rw[if_neg c5] at h;replace c5:=eqf c5
     by_cases c6:eqI x6.1 3=true
     · rw[if_pos c6] at h
       obtain rfl:=osi h
       exact Tri.of (x:=X50) aF oR [(wI x6),.call ⟨true,[]⟩ (.bool x7) [],df,df,df,dt,dt,df,dt,df,df,df,dt,dt,dt,dt,dt,dt,aA0] [⟨rT⟩,⟨c6⟩,⟨c6⟩,⟨c6⟩,⟨c6⟩,⟨c6⟩,⟨c5⟩,⟨(nF c4)⟩,⟨(nF c2)⟩,⟨(nT c3)⟩,⟨(nF c2)⟩,⟨(nT c3)⟩,⟨(nT c3)⟩,⟨(nF c2)⟩,⟨(nF c2)⟩,⟨(nF c2)⟩,⟨(bD k x6.1 x6.2.1 x6.2.2.1 x6.2.2.2 _ e1)⟩,⟨(aW k x1 x2 x3 x4 _ e0)⟩] (by kernel_rfl)
     rw[if_neg c6] at h;replace c6:=eqf c6
     by_cases c7:eqB (eqI x5 1) x6.2.2.1=true
     · rw[if_pos c7] at h
       obtain rfl:=osi h
       exact Tri.of (x:=X50) aF oR [(wI x6),.call ⟨true,[]⟩ (.bool x7) [],df,df,df,dt,dt,df,dt,df,df,df,df,df,df,df,df,df,df,df,df,df,dt,aA0] [⟨c7⟩,⟨rF⟩,⟨c6⟩,⟨c3⟩,⟨c6⟩,⟨c3⟩,⟨c3⟩,⟨c3⟩,⟨c6⟩,⟨c6⟩,⟨c6⟩,⟨c5⟩,⟨(nF c4)⟩,⟨(nF c2)⟩,⟨(nT c3)⟩,⟨(nF c2)⟩,⟨(nT c3)⟩,⟨(nT c3)⟩,⟨(nF c2)⟩,⟨(nF c2)⟩,⟨(nF c2)⟩,⟨(bD k x6.1 x6.2.1 x6.2.2.1 x6.2.2.2 _ e1)⟩,⟨(aW k x1 x2 x3 x4 _ e0)⟩] (by kernel_rfl)
     rw[if_neg c7] at h;replace c7:=eqf c7
     by_cases c8:x6.2.2.1=true
     · rw[if_pos c8] at h
       obtain⟨x8,e9,h⟩:=bsm h
       obtain rfl:=osi h
       exact Tri.of (x:=X50) aF oR [(wI x6),.call ⟨true,[]⟩ (.bool x7) [],df,df,df,dt,dt,df,dt,df,df,df,df,df,df,df,df,df,df,df,df,df,df,dt,.call ⟨true,[]⟩ (.ref 2 0 0 0 x8.length .virt) [(.arr 2 (List.map aA x8) 0 0 false)],.rows (List.map aA x8)] [⟨(bC aA (l:=x8) (n:=x8.length) rfl)⟩,⟨(cY aA (Nat.le_refl x8.length):0+x8.length≤(List.map aA x8).length)⟩,⟨(u5 k x6.2.1 _ e9)⟩,⟨c8⟩,⟨c7⟩,⟨rF⟩,⟨c6⟩,⟨c3⟩,⟨c6⟩,⟨c3⟩,⟨c3⟩,⟨c3⟩,⟨c6⟩,⟨c6⟩,⟨c6⟩,⟨c5⟩,⟨(nF c4)⟩,⟨(nF c2)⟩,⟨(nT c3)⟩,⟨(nF c2)⟩,⟨(nT c3)⟩,⟨(nT c3)⟩,⟨(nF c2)⟩,⟨(nF c2)⟩,⟨(nF c2)⟩,⟨(bD k x6.1 x6.2.1 x6.2.2.1 x6.2.2.2 _ e1)⟩,⟨(aW k x1 x2 x3 x4 _ e0)⟩] (by kernel_rfl)
     rw[if_neg c8] at h;replace c8:=eqf c8
     obtain⟨x8,e9,h⟩:=bsm h
     obtain rfl:=osi h
     exact Tri.of (x:=X50) aF oR [(wI x6),.call ⟨true,[]⟩ (.bool x7) [],df,df,df,dt,dt,df,dt,df,df,df,df,df,df,df,df,df,df,df,df,df,df,df,.call ⟨true,[]⟩ (.ref 2 0 0 0 x6.2.1.length .virt) [(.arr 2 (List.map aA x6.2.1) 0 0 false)],.rows (List.map aA x6.2.1)] [⟨(bC aA (l:=x6.2.1) (n:=x6.2.1.length) rfl)⟩,⟨(cY aA (Nat.le_refl x6.2.1.length):0+x6.2.1.length≤(List.map aA x6.2.1).length)⟩,⟨(gS k x6.2.1 _ e9)⟩,⟨c8⟩,⟨c7⟩,⟨rF⟩,⟨c6⟩,⟨c3⟩,⟨c6⟩,⟨c3⟩,⟨c3⟩,⟨c3⟩,⟨c6⟩,⟨c6⟩,⟨c6⟩,⟨c5⟩,⟨(nF c4)⟩,⟨(nF c2)⟩,⟨(nT c3)⟩,⟨(nF c2)⟩,⟨(nT c3)⟩,⟨(nT c3)⟩,⟨(nF c2)⟩,⟨(nF c2)⟩,⟨(nF c2)⟩,⟨(bD k x6.1 x6.2.1 x6.2.2.1 x6.2.2.2 _ e1)⟩,⟨(aW k x1 x2 x3 x4 _ e0)⟩] (by kernel_rfl)
   rw[if_neg c4] at h;replace c4:=eqf c4
   obtain rfl:=osi h
   exact Tri.of (x:=X50) aF oR [(wI x6),.call ⟨true,[]⟩ (.bool x7) [],df,df,df,dt,dt,df,dt,df,dt,aA0] [⟨(nT c4)⟩,⟨(nF c2)⟩,⟨(nT c3)⟩,⟨(nF c2)⟩,⟨(nT c3)⟩,⟨(nT c3)⟩,⟨(nF c2)⟩,⟨(nF c2)⟩,⟨(nF c2)⟩,⟨(bD k x6.1 x6.2.1 x6.2.2.1 x6.2.2.2 _ e1)⟩,⟨(aW k x1 x2 x3 x4 _ e0)⟩] (by kernel_rfl)
 rw[if_neg c2] at h;replace c2:=eqf c2
 obtain rfl:=osi h
 exact Tri.of (x:=X50) aF oR [(wI x6),.call ⟨true,[]⟩ (.bool x7) [],dt,dt,dt,dt,dt,dt,aA0] [⟨rT⟩,⟨(nT c2)⟩,⟨(nT c2)⟩,⟨(nT c2)⟩,⟨(nT c2)⟩,⟨(nT c2)⟩,⟨(bD k x6.1 x6.2.1 x6.2.2.1 x6.2.2.2 _ e1)⟩,⟨(aW k x1 x2 x3 x4 _ e0)⟩] (by kernel_rfl)
end Go.Ws

namespace Go.Ws
open Go.Proofs
set_option linter.unusedSimpArgs false
set_option linter.unusedVariables false
set_option maxRecDepth 1000000
set_option maxHeartbeats 4000000
noncomputable def X13:Ctx:=⟨Try.f13,[],false⟩
theorem p7:Tri Try.prog 13 [] [] (.hp 0 0) [(.row [.nils,.nils,(.mp 1),.nils]),(.map (bU .i64 (fun y=>AV.agg (aB y)) ([]:Ty6)) ([]:Ty6).length)]:=by
 obtain⟨r,h⟩:∃r,aEZ=r:=⟨_,rfl⟩
 try rw[h]
 unfold aEZ at h
 obtain rfl:=h
 exact Tri.of (x:=X13) aF facts13 [.norm 0 ⟨[(0,[])],[⟨.tmp 0,[],none⟩,⟨.cell 0 2,[],none⟩],false,[],[]⟩] [] (by kernel_rfl)
end Go.Ws

namespace Go.Ws
open Go.Proofs
set_option linter.unusedSimpArgs false
set_option linter.unusedVariables false
set_option maxRecDepth 1000000
set_option maxHeartbeats 4000000
noncomputable def X26_3 (x1:aG) (x2:aJ) (x3:Ty6) (x4:aZ):Ctx:=⟨Try.f26,[(.row [(.sl 2 (List.map aA x1)),(.sl 3 (List.map aD x2)),(.mp 1),(.ref 4 2 0 0 x4.length .virt)]),(.map (bU .i64 (fun y=>AV.agg (aB y)) x3) x3.length),(.arr 4 (List.map aC x4) 0 0 true)],false⟩
theorem bV (x1:aG) (x2:aJ) (x3:Ty6) (x4:aZ):Tri Try.prog 26 [(.hp 0 0)] [(.row [(.sl 2 (List.map aA x1)),(.sl 3 (List.map aD x2)),(.mp 1),(.ref 4 2 0 0 x4.length .virt)]),(.map (bU .i64 (fun y=>AV.agg (aB y)) x3) x3.length),(.arr 4 (List.map aC x4) 0 0 true)] (.bool (!false)) [(.row [(.sl 2 (List.map aA x1)),(.sl 3 (List.map aD x2)),(.mp 1),(.ref 4 2 0 0 x4.length .virt)]),(.map (bU .i64 (fun y=>AV.agg (aB y)) x3) x3.length),(.arr 4 (List.map aC x4) 0 0 true)]:=by
 obtain⟨r,h⟩:∃r,rX x1 x2 x3 x4=r:=⟨_,rfl⟩
 try rw[h]
 unfold rX at h
 obtain rfl:=h
 exact Tri.of (x:=(X26_3 x1 x2 x3 x4)) aF aA1 [dt,dt,dt,dt,dt,dt,.norm 0 ⟨[(2,[])],[],false,[],[]⟩] [⟨(nT rfl)⟩,⟨(nT rfl)⟩,⟨(nT rfl)⟩,⟨(nT rfl)⟩,⟨(nT rfl)⟩,⟨(nT rfl)⟩] (by kernel_rfl)
end Go.Ws

namespace Go.Ws
open Go.Proofs
set_option linter.unusedSimpArgs false
set_option linter.unusedVariables false
set_option maxRecDepth 1000000
set_option maxHeartbeats 4000000
noncomputable def aE0 (x9:aG) (x10:aJ) (x11:Ty6) (x12:aZ):Ctx:=⟨Try.f37,[(.row [(.sl 2 (List.map aA x9)),(.sl 3 (List.map aD x10)),(.mp 1),(.ref 4 2 0 0 x12.length .virt)]),(.map (bU .i64 (fun y=>AV.agg (aB y)) x11) x11.length),(.arr 4 (List.map aC x12) 0 0 true)],false⟩
noncomputable def L37_3_0:Code:=at_ Try.f37 [1,1,1,1,1,1,1,0,1,4,5]
def S37_3_0 (x2:aG) (x5:Int) (x6:Int) (x7:Int) (x8:Int) (x9:aG) (x11:Ty6) (x12:aZ) (x13:aJ × Int) (cN:Int) (b7:Int):St:=⟨mkT 92 [(5,(.hp 3 0)),(10,(.int .i64 cN)),(75,(.sl 2 (List.map aA x2))),(76,(.int .i64 (nI x2.length))),(77,(.int .i64 b7))],[(.row [(.sl 2 (List.map aA x9)),(.sl 3 (List.map aD x13.1)),(.mp 1),(.ref 4 2 0 0 x12.length .virt)]),(.map (bU .i64 (fun y=>AV.agg (aB y)) x11) x11.length),(.arr 4 (List.map aC x12) 0 0 true),(.row [(.int .i64 x5),(.int .i64 x6),(.int .u8 x7),(.int .i64 x8)])]⟩
def aCW (x9:aG) (x11:Ty6) (x12:aZ) (x13:aJ × Int) (aOF:Int):St:=⟨mkT 92 [(10,(.int .i64 aOF))],[(.row [(.sl 2 (List.map aA x9)),(.sl 3 (List.map aD x13.1)),(.mp 1),(.ref 4 2 0 0 x12.length .virt)]),(.map (bU .i64 (fun y=>AV.agg (aB y)) x11) x11.length),(.arr 4 (List.map aC x12) 0 0 true)]⟩
def O37_3_0 (x2:aG) (x5:Int) (x6:Int) (x7:Int) (x8:Int) (x9:aG) (x10:aJ) (x11:Ty6) (x12:aZ) (x13:aJ × Int) (y:(Int)):GX:=.st (.exit 0) (aCW x9 x11 x12 x13 y)
def aAS (x13:aJ × Int):Ans:=.call ⟨true,[]⟩ (.tup [(.sl 3 (List.map aD x13.1)),(.int .i64 x13.2)]) []
def aIR (x14:Int × aG × Bool × Int × Int):Ans:=.call ⟨true,[]⟩ (.tup [(.agg [(.int .i64 x14.1),(.sl 2 (List.map aA x14.2.1)),(.bool x14.2.2.1),(.int .i64 x14.2.2.2.1)]),(.int .i64 x14.2.2.2.2)]) []
def yV:Ans:=.norm 0 ⟨[(6,[]),(7,[])],[],false,[],[]⟩
theorem lK (x2:aG) (x5:Int) (x6:Int) (x7:Int) (x8:Int) (x9:aG) (x10:aJ) (x11:Ty6) (x12:aZ) (x13:aJ × Int) (y:(Int)):∀(k:Nat) (cN:Int) (b7:Int),bL k x2 x5 x6 x7 x8 x9 x10 x11 x12 x13 cN b7=some y→LT Try.prog (aE0 x9 x10 x11 x12) L37_3_0 (S37_3_0 x2 x5 x6 x7 x8 x9 x11 x12 x13 cN b7) (O37_3_0 x2 x5 x6 x7 x8 x9 x10 x11 x12 x13 y)
 | 0,cN,b7,h=>by cases h
 | k+1,cN,b7,h=>by
  rw[bL] at h
  by_cases cL0:ltI b7 (nI x2.length)=true
  · rw[if_pos cL0] at h
    by_cases cL1:inI b7 x2.length=true
    · rw[if_pos cL1] at h
      obtain⟨kU,eL2,h⟩:=bsm h
      by_cases cL3:eqI kU.1 x7=true
      · rw[if_pos cL3] at h
        exact LT.next aF (hs:=⟨[(5,[]),(10,[]),(75,[]),(76,[]),(77,[])],[⟨.tmp 5,[],none⟩],false,[],[]⟩) (es:=none) [dt,.n x2.length,.row [(.int .u8 kU.1),(.int .i64 kU.2)],dt] [⟨cL3⟩,⟨(aN (e:=aA) eL2 2 0 2 (by decide))⟩,⟨cL1⟩,⟨(aL aA x2)⟩,⟨cL0⟩] (by kernel_rfl) (lK x2 x5 x6 x7 x8 x9 x10 x11 x12 x13 y k (aI .i64 cN kU.2) (aI .i64 b7 1) h)
      rw[if_neg cL3] at h;replace cL3:=eqf cL3
      exact LT.next aF (hs:=⟨[(5,[]),(10,[]),(75,[]),(76,[]),(77,[])],[⟨.tmp 5,[],none⟩],false,[],[]⟩) (es:=none) [dt,.n x2.length,.row [(.int .u8 kU.1),(.int .i64 kU.2)],df] [⟨cL3⟩,⟨(aN (e:=aA) eL2 2 0 2 (by decide))⟩,⟨cL1⟩,⟨(aL aA x2)⟩,⟨cL0⟩] (by kernel_rfl) (lK x2 x5 x6 x7 x8 x9 x10 x11 x12 x13 y k cN (aI .i64 b7 1) h)
    rw[if_neg cL1] at h;replace cL1:=eqf cL1
    cases h
  rw[if_neg cL0] at h;replace cL0:=eqf cL0
  obtain rfl:=osi h
  show LT _ _ _ _ (.st (.exit 0) (aCW x9 x11 x12 x13 cN))
  exact LT.done aF (hs:=⟨[],[],false,[],[]⟩) (es:=(some ⟨[(10,[])],[],false,[],[]⟩)) [df] [⟨cL0⟩] (by kernel_rfl) (fun s h=>by cases h)
theorem rH (k:Nat) (x1:Int) (x2:aG) (x3:Bool) (x4:Int) (x5:Int) (x6:Int) (x7:Int) (x8:Int) (x9:aG) (x10:aJ) (x11:Ty6) (x12:aZ) (r:aJ × Ty6 × Int × Int) (h:gP k x1 x2 x3 x4 x5 x6 x7 x8 x9 x10 x11 x12=some r):Tri Try.prog 37 [(.hp 0 0),(.agg [(.int .i64 x1),(.sl 2 (List.map aA x2)),(.bool x3),(.int .i64 x4)]),(.agg [(.int .i64 x5),(.int .i64 x6),(.int .u8 x7),(.int .i64 x8)])] [(.row [(.sl 2 (List.map aA x9)),(.sl 3 (List.map aD x10)),(.mp 1),(.ref 4 2 0 0 x12.length .virt)]),(.map (bU .i64 (fun y=>AV.agg (aB y)) x11) x11.length),(.arr 4 (List.map aC x12) 0 0 true)] (.tup [(.int .i64 r.2.2.2),(.int .i64 r.2.2.1)]) [(.row [(.sl 2 (List.map aA x9)),(.sl 3 (List.map aD r.1)),(.mp 1),(.ref 4 2 0 0 x12.length .virt)]),(.map (bU .i64 (fun y=>AV.agg (aB y)) r.2.1) r.2.1.length),(.arr 4 (List.map aC x12) 0 0 true)]:=by
 unfold gP at h
 by_cases c0:eqI x1 0=true
 · rw[if_pos c0] at h
   obtain⟨x13,e1,h⟩:=bsm h
   by_cases c2:eqI x13.2 0=true
   · rw[if_pos c2] at h
     by_cases c3:eqI x5 3=true
     · rw[if_pos c3] at h
       obtain⟨x14,e4,h⟩:=bsm h
       by_cases c5:eqI x14.2.2.2.2 0=true
       · rw[if_pos c5] at h
         by_cases c6:s5 x11 x6=true
         · rw[if_pos c6] at h
           obtain⟨x15,e7,h⟩:=bsm h
           obtain rfl:=osi h
           exact Tri.of (x:=(aE0 x9 x10 x11 x12)) aF pP [df,(aAS x13),df,dt,(aIR x14),df,.opt (some (.agg [(.int .i64 x15.1),(.sl 2 (List.map aA x15.2.1)),(.bool x15.2.2.1),(.int .i64 x15.2.2.2)])),.n (mIx x11 x6),.ents (bU .i64 (fun y=>AV.agg (aB y)) x11) x11.length,.ents (bU .i64 (fun y=>AV.agg (aB y)) (cC x11 x6 (x14.1,x14.2.1,x14.2.2.1,x14.2.2.2.1))) (cC x11 x6 (x14.1,x14.2.1,x14.2.2.1,x14.2.2.2.1)).length,yV] [⟨(aHH .i64 (fun y=>AV.agg (aB y)) e7 (x14.1,x14.2.1,x14.2.2.1,x14.2.2.2.1))⟩,⟨(aI1 .i64 (fun y=>AV.agg (aB y)) e7 (.agg [(.int .i64 0),(.sl 2 (List.map aA [])),(.bool false),(.int .i64 0)]))⟩,⟨(aD1 .i64 (fun y=>AV.agg (aB y)) x11 x6)⟩,⟨(oK .i64 (fun y=>AV.agg (aB y)) e7)⟩,⟨(nF c5)⟩,⟨(qH k x1 x2 x3 x4 x7 x8 _ e4)⟩,⟨c3⟩,⟨(nF c2)⟩,⟨(iV k x10 x6 x7 (eqI x5 3) _ e1)⟩,⟨(nF c0)⟩] (by kernel_rfl)
         rw[if_neg c6] at h;replace c6:=eqf c6
         obtain rfl:=osi h
         exact Tri.of (x:=(aE0 x9 x10 x11 x12)) aF pP [df,(aAS x13),df,dt,(aIR x14),df,.opt none,.n (mIx x11 x6),.ents (bU .i64 (fun y=>AV.agg (aB y)) (cC x11 x6 (0,[],false,0))) (cC x11 x6 (0,[],false,0)).length,.ents (bU .i64 (fun y=>AV.agg (aB y)) (cC x11 x6 (x14.1,x14.2.1,x14.2.2.1,x14.2.2.2.1))) (cC x11 x6 (x14.1,x14.2.1,x14.2.2.1,x14.2.2.2.1)).length,yV] [⟨(aL1 .i64 (fun y=>AV.agg (aB y)) (l:=x11) (q:=x6) (0,[],false,0) (x14.1,x14.2.1,x14.2.2.1,x14.2.2.2.1))⟩,⟨(aJ5 .i64 (fun y=>AV.agg (aB y)) c6 (0,[],false,0))⟩,⟨(aD1 .i64 (fun y=>AV.agg (aB y)) x11 x6)⟩,⟨(oP .i64 (fun y=>AV.agg (aB y)) c6)⟩,⟨(nF c5)⟩,⟨(qH k x1 x2 x3 x4 x7 x8 _ e4)⟩,⟨c3⟩,⟨(nF c2)⟩,⟨(iV k x10 x6 x7 (eqI x5 3) _ e1)⟩,⟨(nF c0)⟩] (by kernel_rfl)
       rw[if_neg c5] at h;replace c5:=eqf c5
       obtain rfl:=osi h
       exact Tri.of (x:=(aE0 x9 x10 x11 x12)) aF pP [df,(aAS x13),df,dt,(aIR x14),dt,yV] [⟨(nT c5)⟩,⟨(qH k x1 x2 x3 x4 x7 x8 _ e4)⟩,⟨c3⟩,⟨(nF c2)⟩,⟨(iV k x10 x6 x7 (eqI x5 3) _ e1)⟩,⟨(nF c0)⟩] (by kernel_rfl)
     rw[if_neg c3] at h;replace c3:=eqf c3
     obtain⟨x14,e4,h⟩:=bsm h
     obtain⟨x16,e5,h⟩:=bsm h
     obtain rfl:=osi h
     exact Tri.of (x:=(aE0 x9 x10 x11 x12)) aF pP [df,(aAS x13),df,df,.call ⟨true,[]⟩ (.int .i64 x14) [],.n x2.length,.norm 2 ⟨[(5,[]),(10,[]),(75,[]),(76,[]),(77,[])],[⟨.tmp 5,[],none⟩],false,[],[]⟩,.out (.st .normal (aCW x9 x11 x12 x13 x16)),yV] [⟨(LT.block (lK x2 x5 x6 x7 x8 x9 x10 x11 x12 x13 _ k x14 0 e5))⟩,⟨(aL aA x2)⟩,⟨(sD k x9 x7 _ e4)⟩,⟨c3⟩,⟨(nF c2)⟩,⟨(iV k x10 x6 x7 (eqI x5 3) _ e1)⟩,⟨(nF c0)⟩] (by kernel_rfl)
   rw[if_neg c2] at h;replace c2:=eqf c2
   obtain rfl:=osi h
   exact Tri.of (x:=(aE0 x9 x10 x11 x12)) aF pP [df,(aAS x13),dt,yV] [⟨(nT c2)⟩,⟨(iV k x10 x6 x7 (eqI x5 3) _ e1)⟩,⟨(nF c0)⟩] (by kernel_rfl)
 rw[if_neg c0] at h;replace c0:=eqf c0
 obtain rfl:=osi h
 exact Tri.of (x:=(aE0 x9 x10 x11 x12)) aF pP [dt,yV] [⟨(nT c0)⟩] (by kernel_rfl)
end Go.Ws

namespace Go.Ws
open Go.Proofs
set_option linter.unusedSimpArgs false
set_option linter.unusedVariables false
set_option maxRecDepth 1000000
set_option maxHeartbeats 4000000
noncomputable def zM (x9:aG) (x10:aJ) (x11:Ty6) (x12:aZ):Ctx:=⟨Try.f38,[(.row [(.sl 2 (List.map aA x9)),(.sl 3 (List.map aD x10)),(.mp 1),(.ref 4 2 0 0 x12.length .virt)]),(.map (bU .i64 (fun y=>AV.agg (aB y)) x11) x11.length),(.arr 4 (List.map aC x12) 0 0 true)],false⟩
def aHD (x13:Int × aG × Bool × Int × Int):Ans:=.call ⟨true,[]⟩ (.tup [(.agg [(.int .i64 x13.1),(.sl 2 (List.map aA x13.2.1)),(.bool x13.2.2.1),(.int .i64 x13.2.2.2.1)]),(.int .i64 x13.2.2.2.2)]) []
def aEB (x15:aJ):Ans:=.call ⟨true,[]⟩ (.sl 3 (List.map aD x15)) []
def zA (x13:Int × aG × Bool × Int × aG × Int):Ans:=.call ⟨true,[]⟩ (.tup [(.agg [(.int .i64 x13.1),(.sl 2 (List.map aA x13.2.1)),(.bool x13.2.2.1),(.int .i64 x13.2.2.2.1)]),(.sl 2 (List.map aA x13.2.2.2.2.1)),(.int .i64 x13.2.2.2.2.2)]) []
def aIM (x6:Int) (x11:Ty6) (x13:Int × aG × Bool × Int × aG × Int):Ans:=.ents (bU .i64 (fun y=>AV.agg (aB y)) (cC x11 x6 (x13.1,x13.2.1,x13.2.2.1,x13.2.2.2.1))) (cC x11 x6 (x13.1,x13.2.1,x13.2.2.1,x13.2.2.2.1)).length
def aIQ (x14:aG × Int):Ans:=.call ⟨true,[]⟩ (.tup [(.sl 2 (List.map aA x14.1)),(.int .i64 x14.2)]) []
theorem aAL (k:Nat) (x1:Int) (x2:aG) (x3:Bool) (x4:Int) (x5:Int) (x6:Int) (x7:Int) (x8:Int) (x9:aG) (x10:aJ) (x11:Ty6) (x12:aZ) (r:aG × aJ × Ty6 × Int) (h:kR k x1 x2 x3 x4 x5 x6 x7 x8 x9 x10 x11 x12=some r):Tri Try.prog 38 [(.hp 0 0),(.agg [(.int .i64 x1),(.sl 2 (List.map aA x2)),(.bool x3),(.int .i64 x4)]),(.agg [(.int .i64 x5),(.int .i64 x6),(.int .u8 x7),(.int .i64 x8)])] [(.row [(.sl 2 (List.map aA x9)),(.sl 3 (List.map aD x10)),(.mp 1),(.ref 4 2 0 0 x12.length .virt)]),(.map (bU .i64 (fun y=>AV.agg (aB y)) x11) x11.length),(.arr 4 (List.map aC x12) 0 0 true)] (.int .i64 r.2.2.2) [(.row [(.sl 2 (List.map aA r.1)),(.sl 3 (List.map aD r.2.1)),(.mp 1),(.ref 4 2 0 0 x12.length .virt)]),(.map (bU .i64 (fun y=>AV.agg (aB y)) r.2.2.1) r.2.2.1.length),(.arr 4 (List.map aC x12) 0 0 true)]:=by
 unfold kR at h
 by_cases c0:eqI x5 4=true
 · rw[if_pos c0] at h
   obtain⟨x13,e1,h⟩:=bsm h
   by_cases c2:eqI x13.2.2.2.2 0=true
   · rw[if_pos c2] at h
     obtain⟨x14,e3,h⟩:=bsm h
     by_cases c4:eqI x13.1 2=true
     · rw[if_pos c4] at h
       obtain⟨x15,e5,h⟩:=bsm h
       obtain rfl:=osi h
       exact Tri.of (x:=(zM x9 x10 x11 x12)) aF jA [dt,(aHD x13),df,.ents (bU .i64 (fun y=>AV.agg (aB y)) (cC x11 x6 (x13.1,x13.2.1,x13.2.2.1,x13.2.2.2.1))) (cC x11 x6 (x13.1,x13.2.1,x13.2.2.1,x13.2.2.2.1)).length,.call ⟨true,[[],[(0,2)]]⟩ (.tup [(.sl 2 (List.map aA x14.1)),(.int .i64 x14.2)]) [],df,df,df,df,dt,(aEB x15),.norm 0 ⟨[(6,[])],[],false,[],[]⟩] [⟨(k9 k x10 x6 _ e5)⟩,⟨c4⟩,⟨(nF c0)⟩,⟨(nF c0)⟩,⟨(nF c0)⟩,⟨(nF c0)⟩,⟨(hH k x9 [] _ e3)⟩,⟨(pR .i64 (fun y=>AV.agg (aB y)) x11 x6 (x13.1,x13.2.1,x13.2.2.1,x13.2.2.2.1))⟩,⟨(nF c2)⟩,⟨(oN k x1 x2 x3 x4 (!eqI x8 0) _ e1)⟩,⟨c0⟩] (by kernel_rfl)
     rw[if_neg c4] at h;replace c4:=eqf c4
     obtain rfl:=osi h
     exact Tri.of (x:=(zM x9 x10 x11 x12)) aF jA [dt,(aHD x13),df,.ents (bU .i64 (fun y=>AV.agg (aB y)) (cC x11 x6 (x13.1,x13.2.1,x13.2.2.1,x13.2.2.2.1))) (cC x11 x6 (x13.1,x13.2.1,x13.2.2.1,x13.2.2.2.1)).length,.call ⟨true,[[],[(0,2)]]⟩ (.tup [(.sl 2 (List.map aA x14.1)),(.int .i64 x14.2)]) [],df,df,df,df,df,.norm 0 ⟨[(6,[])],[],false,[],[]⟩] [⟨c4⟩,⟨(nF c0)⟩,⟨(nF c0)⟩,⟨(nF c0)⟩,⟨(nF c0)⟩,⟨(hH k x9 [] _ e3)⟩,⟨(pR .i64 (fun y=>AV.agg (aB y)) x11 x6 (x13.1,x13.2.1,x13.2.2.1,x13.2.2.2.1))⟩,⟨(nF c2)⟩,⟨(oN k x1 x2 x3 x4 (!eqI x8 0) _ e1)⟩,⟨c0⟩] (by kernel_rfl)
   rw[if_neg c2] at h;replace c2:=eqf c2
   obtain rfl:=osi h
   exact Tri.of (x:=(zM x9 x10 x11 x12)) aF jA [dt,(aHD x13),dt,.norm 0 ⟨[(6,[])],[],false,[],[]⟩] [⟨(nT c2)⟩,⟨(oN k x1 x2 x3 x4 (!eqI x8 0) _ e1)⟩,⟨c0⟩] (by kernel_rfl)
 rw[if_neg c0] at h;replace c0:=eqf c0
 by_cases c1:eqI x5 5=true
 · rw[if_pos c1] at h
   obtain⟨x13,e2,h⟩:=bsm h
   by_cases c3:eqI x13.2.2.2.2.2 0=true
   · rw[if_pos c3] at h
     obtain⟨x14,e4,h⟩:=bsm h
     obtain⟨x15,e5,h⟩:=bsm h
     obtain rfl:=osi h
     exact Tri.of (x:=(zM x9 x10 x11 x12)) aF jA [df,dt,(zA x13),df,(aIM x6 x11 x13),(aIQ x14),dt,dt,dt,dt,dt,(aEB x15),.norm 0 ⟨[(6,[])],[],false,[],[]⟩] [⟨(k9 k x10 x6 _ e5)⟩,⟨rT⟩,⟨(nT c0)⟩,⟨(nT c0)⟩,⟨(nT c0)⟩,⟨(nT c0)⟩,⟨(hH k x9 x13.2.2.2.2.1 _ e4)⟩,⟨(pR .i64 (fun y=>AV.agg (aB y)) x11 x6 (x13.1,x13.2.1,x13.2.2.1,x13.2.2.2.1))⟩,⟨(nF c3)⟩,⟨(sI k x1 x2 x3 x4 _ e2)⟩,⟨c1⟩,⟨c0⟩] (by kernel_rfl)
   rw[if_neg c3] at h;replace c3:=eqf c3
   obtain rfl:=osi h
   exact Tri.of (x:=(zM x9 x10 x11 x12)) aF jA [df,dt,(zA x13),dt,.norm 0 ⟨[(6,[])],[],false,[],[]⟩] [⟨(nT c3)⟩,⟨(sI k x1 x2 x3 x4 _ e2)⟩,⟨c1⟩,⟨c0⟩] (by kernel_rfl)
 rw[if_neg c1] at h;replace c1:=eqf c1
 by_cases c2:eqI x8 1=true
 · rw[if_pos c2] at h
   obtain⟨x13,e3,h⟩:=bsm h
   by_cases c4:eqI x13.2.2.2.2.2 0=true
   · rw[if_pos c4] at h
     obtain⟨x14,e5,h⟩:=bsm h
     obtain⟨x15,e6,h⟩:=bsm h
     obtain rfl:=osi h
     exact Tri.of (x:=(zM x9 x10 x11 x12)) aF jA [df,df,dt,dt,dt,dt,dt,(zA x13),df,(aIM x6 x11 x13),(aIQ x14),dt,dt,dt,dt,dt,(aEB x15),.norm 0 ⟨[(6,[])],[],false,[],[]⟩] [⟨(k9 k x10 x6 _ e6)⟩,⟨rT⟩,⟨(nT c0)⟩,⟨(nT c0)⟩,⟨(nT c0)⟩,⟨(nT c0)⟩,⟨(hH k x9 x13.2.2.2.2.1 _ e5)⟩,⟨(pR .i64 (fun y=>AV.agg (aB y)) x11 x6 (x13.1,x13.2.1,x13.2.2.1,x13.2.2.2.1))⟩,⟨(nF c4)⟩,⟨(iZ k x1 x2 x3 x4 x8 _ e3)⟩,⟨rT⟩,⟨c2⟩,⟨c2⟩,⟨c2⟩,⟨c2⟩,⟨c1⟩,⟨c0⟩] (by kernel_rfl)
   rw[if_neg c4] at h;replace c4:=eqf c4
   obtain rfl:=osi h
   exact Tri.of (x:=(zM x9 x10 x11 x12)) aF jA [df,df,dt,dt,dt,dt,dt,(zA x13),dt,.norm 0 ⟨[(6,[])],[],false,[],[]⟩] [⟨(nT c4)⟩,⟨(iZ k x1 x2 x3 x4 x8 _ e3)⟩,⟨rT⟩,⟨c2⟩,⟨c2⟩,⟨c2⟩,⟨c2⟩,⟨c1⟩,⟨c0⟩] (by kernel_rfl)
 rw[if_neg c2] at h;replace c2:=eqf c2
 by_cases c3:eqI x8 2=true
 · rw[if_pos c3] at h
   obtain⟨x13,e4,h⟩:=bsm h
   by_cases c5:eqI x13.2.2.2.2.2 0=true
   · rw[if_pos c5] at h
     obtain⟨x14,e6,h⟩:=bsm h
     obtain⟨x15,e7,h⟩:=bsm h
     obtain rfl:=osi h
     exact Tri.of (x:=(zM x9 x10 x11 x12)) aF jA [df,df,df,df,df,df,dt,(zA x13),df,(aIM x6 x11 x13),(aIQ x14),dt,dt,dt,dt,dt,(aEB x15),.norm 0 ⟨[(6,[])],[],false,[],[]⟩] [⟨(k9 k x10 x6 _ e7)⟩,⟨rT⟩,⟨(nT c0)⟩,⟨(nT c0)⟩,⟨(nT c0)⟩,⟨(nT c0)⟩,⟨(hH k x9 x13.2.2.2.2.1 _ e6)⟩,⟨(pR .i64 (fun y=>AV.agg (aB y)) x11 x6 (x13.1,x13.2.1,x13.2.2.1,x13.2.2.2.1))⟩,⟨(nF c5)⟩,⟨(iZ k x1 x2 x3 x4 x8 _ e4)⟩,⟨c3⟩,⟨c2⟩,⟨c2⟩,⟨c2⟩,⟨c2⟩,⟨c1⟩,⟨c0⟩] (by kernel_rfl)
   rw[if_neg c5] at h;replace c5:=eqf c5
   obtain rfl:=osi h
   exact Tri.of (x:=(zM x9 x10 x11 x12)) aF jA [df,df,df,df,df,df,dt,(zA x13),dt,.norm 0 ⟨[(6,[])],[],false,[],[]⟩] [⟨(nT c5)⟩,⟨(iZ k x1 x2 x3 x4 x8 _ e4)⟩,⟨c3⟩,⟨c2⟩,⟨c2⟩,⟨c2⟩,⟨c2⟩,⟨c1⟩,⟨c0⟩] (by kernel_rfl)
 rw[if_neg c3] at h;replace c3:=eqf c3
 obtain rfl:=osi h
 exact Tri.of (x:=(zM x9 x10 x11 x12)) aF jA [df,df,df,df,df,df,df,dt,.norm 0 ⟨[(6,[])],[],false,[],[]⟩] [⟨(nT (rfl:eqI 2 0=false))⟩,⟨c3⟩,⟨c2⟩,⟨c2⟩,⟨c2⟩,⟨c2⟩,⟨c1⟩,⟨c0⟩] (by kernel_rfl)
end Go.Ws

namespace Go.Ws
open Go.Proofs
set_option linter.unusedSimpArgs false
set_option linter.unusedVariables false
set_option maxRecDepth 1000000
set_option maxHeartbeats 4000000
noncomputable def X27_3 (x9:aG) (x10:aJ) (x11:Ty6) (x12:aZ):Ctx:=⟨Try.f27,[(.row [(.sl 2 (List.map aA x9)),(.sl 3 (List.map aD x10)),(.mp 1),(.ref 4 2 0 0 x12.length .virt)]),(.map (bU .i64 (fun y=>AV.agg (aB y)) x11) x11.length),(.arr 4 (List.map aC x12) 0 0 true)],false⟩
def aD9:Ans:=.norm 0 ⟨[(6,[]),(7,[])],[],false,[],[]⟩
def aMR (x9:aG) (x12:aZ) (x13:aJ × Ty6 × Int × Int):Ans:=.call ⟨true,[]⟩ (.tup [(.int .i64 x13.2.2.2),(.int .i64 x13.2.2.1)]) [(.row [(.sl 2 (List.map aA x9)),(.sl 3 (List.map aD x13.1)),(.mp 1),(.ref 4 2 0 0 x12.length .virt)]),(.map (bU .i64 (fun y=>AV.agg (aB y)) x13.2.1) x13.2.1.length),(.arr 4 (List.map aC x12) 0 0 true)]
theorem lU (k:Nat) (x1:Int) (x2:aG) (x3:Bool) (x4:Int) (x5:Int) (x6:Int) (x7:Int) (x8:Int) (x9:aG) (x10:aJ) (x11:Ty6) (x12:aZ) (r:Int × Int × aJ × Ty6 × aG) (h:iP k x1 x2 x3 x4 x5 x6 x7 x8 x9 x10 x11 x12=some r):Tri Try.prog 27 [(.hp 0 0),(.agg [(.int .i64 x1),(.sl 2 (List.map aA x2)),(.bool x3),(.int .i64 x4)]),(.agg [(.int .i64 x5),(.int .i64 x6),(.int .u8 x7),(.int .i64 x8)])] [(.row [(.sl 2 (List.map aA x9)),(.sl 3 (List.map aD x10)),(.mp 1),(.ref 4 2 0 0 x12.length .virt)]),(.map (bU .i64 (fun y=>AV.agg (aB y)) x11) x11.length),(.arr 4 (List.map aC x12) 0 0 true)] (.tup [(.int .i64 r.1),(.int .i64 r.2.1)]) [(.row [(.sl 2 (List.map aA r.2.2.2.2)),(.sl 3 (List.map aD r.2.2.1)),(.mp 1),(.ref 4 2 0 0 x12.length .virt)]),(.map (bU .i64 (fun y=>AV.agg (aB y)) r.2.2.2.1) r.2.2.2.1.length),(.arr 4 (List.map aC x12) 0 0 true)]:=by
 unfold iP at h
 by_cases c0:eqI x5 1=true
 · rw[if_pos c0] at h
   obtain rfl:=osi h
   exact Tri.of (x:=(X27_3 x9 x10 x11 x12)) aF u7 [dt,.ents (bU .i64 (fun y=>AV.agg (aB y)) (cC x11 x6 (x1,x2,x3,x4))) (cC x11 x6 (x1,x2,x3,x4)).length,aD9] [⟨(pR .i64 (fun y=>AV.agg (aB y)) x11 x6 (x1,x2,x3,x4))⟩,⟨c0⟩] (by kernel_rfl)
 rw[if_neg c0] at h;replace c0:=eqf c0
 by_cases c1:eqI x5 2=true
 · rw[if_pos c1] at h
   obtain⟨x13,e2,h⟩:=bsm h
   obtain rfl:=osi h
   exact Tri.of (x:=(X27_3 x9 x10 x11 x12)) aF u7 [df,dt,dt,(aMR x9 x12 x13),aD9] [⟨(rH k x1 x2 x3 x4 x5 x6 x7 x8 x9 x10 x11 x12 _ e2)⟩,⟨c1⟩,⟨c1⟩,⟨c0⟩] (by kernel_rfl)
 rw[if_neg c1] at h;replace c1:=eqf c1
 by_cases c2:eqI x5 3=true
 · rw[if_pos c2] at h
   obtain⟨x13,e3,h⟩:=bsm h
   obtain rfl:=osi h
   exact Tri.of (x:=(X27_3 x9 x10 x11 x12)) aF u7 [df,df,dt,(aMR x9 x12 x13),aD9] [⟨(rH k x1 x2 x3 x4 x5 x6 x7 x8 x9 x10 x11 x12 _ e3)⟩,⟨c2⟩,⟨c1⟩,⟨c0⟩] (by kernel_rfl)
 rw[if_neg c2] at h;replace c2:=eqf c2
 obtain⟨x13,e3,h⟩:=bsm h
 obtain rfl:=osi h
 exact Tri.of (x:=(X27_3 x9 x10 x11 x12)) aF u7 [df,df,df,.call ⟨true,[]⟩ (.int .i64 x13.2.2.2) [(.row [(.sl 2 (List.map aA x13.1)),(.sl 3 (List.map aD x13.2.1)),(.mp 1),(.ref 4 2 0 0 x12.length .virt)]),(.map (bU .i64 (fun y=>AV.agg (aB y)) x13.2.2.1) x13.2.2.1.length),(.arr 4 (List.map aC x12) 0 0 true)],aD9] [⟨(aAL k x1 x2 x3 x4 x5 x6 x7 x8 x9 x10 x11 x12 _ e3)⟩,⟨c2⟩,⟨c1⟩,⟨c0⟩] (by kernel_rfl)
end Go.Ws

namespace Go.Ws
open Go.Proofs
set_option linter.unusedSimpArgs false
set_option linter.unusedVariables false
set_option maxRecDepth 1000000
set_option maxHeartbeats 4000000
noncomputable def zO (x5:aG) (x6:aJ) (x7:Ty6) (x8:aZ):Ctx:=⟨Try.f14,[(.row [(.sl 2 (List.map aA x5)),(.sl 3 (List.map aD x6)),(.mp 1),(.ref 4 2 0 0 x8.length .virt)]),(.map (bU .i64 (fun y=>AV.agg (aB y)) x7) x7.length),(.arr 4 (List.map aC x8) 0 0 true)],false⟩
def sB (x5:aG) (x6:aJ) (x7:Ty6) (x8:aZ):Ans:=.call ⟨true,[]⟩ (.bool (!false)) [(.row [(.sl 2 (List.map aA x5)),(.sl 3 (List.map aD x6)),(.mp 1),(.ref 4 2 0 0 x8.length .virt)]),(.map (bU .i64 (fun y=>AV.agg (aB y)) x7) x7.length),(.arr 4 (List.map aC x8) 0 0 true)]
def sH:Ans:=.norm 0 ⟨[(4,[]),(5,[])],[],false,[],[none,none,some 1]⟩
def aIO (x9:Int × aG × Bool × Int):Ans:=.opt (some (.agg [(.int .i64 x9.1),(.sl 2 (List.map aA x9.2.1)),(.bool x9.2.2.1),(.int .i64 x9.2.2.2)]))
def aMZ (x8:aZ) (x10:Int × Int × aJ × Ty6 × aG):Ans:=.call ⟨true,[]⟩ (.tup [(.int .i64 x10.1),(.int .i64 x10.2.1)]) [(.row [(.sl 2 (List.map aA x10.2.2.2.2)),(.sl 3 (List.map aD x10.2.2.1)),(.mp 1),(.ref 4 2 0 0 x8.length .virt)]),(.map (bU .i64 (fun y=>AV.agg (aB y)) x10.2.2.2.1) x10.2.2.2.1.length),(.arr 4 (List.map aC x8) 0 0 true)]
def aMU (x8:aZ) (x9:Int × Int × aJ × Ty6 × aG):Ans:=.call ⟨true,[]⟩ (.tup [(.int .i64 x9.1),(.int .i64 x9.2.1)]) [(.row [(.sl 2 (List.map aA x9.2.2.2.2)),(.sl 3 (List.map aD x9.2.2.1)),(.mp 1),(.ref 4 2 0 0 x8.length .virt)]),(.map (bU .i64 (fun y=>AV.agg (aB y)) x9.2.2.2.1) x9.2.2.2.1.length),(.arr 4 (List.map aC x8) 0 0 true)]
theorem b8 (k:Nat) (x1:Int) (x2:Int) (x3:Int) (x4:Int) (x5:aG) (x6:aJ) (x7:Ty6) (x8:aZ) (r:Int × Int × aG × aJ × Ty6 × aZ) (h:gM k x1 x2 x3 x4 x5 x6 x7 x8=some r):Tri Try.prog 14 [(.hp 0 0),(.agg [(.int .i64 x1),(.int .i64 x2),(.int .u8 x3),(.int .i64 x4)])] [(.row [(.sl 2 (List.map aA x5)),(.sl 3 (List.map aD x6)),(.mp 1),(.ref 4 2 0 0 x8.length .virt)]),(.map (bU .i64 (fun y=>AV.agg (aB y)) x7) x7.length),(.arr 4 (List.map aC x8) 0 0 true)] (.tup [(.int .i64 r.2.1),(.int .i64 r.1)]) [(.row [(.sl 2 (List.map aA r.2.2.1)),(.sl 3 (List.map aD r.2.2.2.1)),(.mp 1),(.ref 4 2 1 0 r.2.2.2.2.2.length .virt)]),(.map (bU .i64 (fun y=>AV.agg (aB y)) r.2.2.2.2.1) r.2.2.2.2.1.length),(.arr 4 (List.map aC r.2.2.2.2.2) 1 1 true)]:=by
 unfold gM at h
 by_cases c0:ltI x1 1=true
 · rw[if_pos c0] at h
   obtain rfl:=osi h
   exact Tri.of (x:=(zO x5 x6 x7 x8)) aF gG [(sB x5 x6 x7 x8),df,dt,dt,dt,dt,dt,dt,dt,dt,dt,dt,dt,dt,dt,sH] [⟨rT⟩,⟨rT⟩,⟨rT⟩,⟨rT⟩,⟨rT⟩,⟨rT⟩,⟨rT⟩,⟨rT⟩,⟨rT⟩,⟨c0⟩,⟨c0⟩,⟨c0⟩,⟨c0⟩,⟨(nF (nT rfl))⟩,⟨(bV x5 x6 x7 x8)⟩] (by kernel_rfl)
 rw[if_neg c0] at h;replace c0:=eqf c0
 by_cases c1:ltI 6 x1=true
 · rw[if_pos c1] at h
   obtain rfl:=osi h
   exact Tri.of (x:=(zO x5 x6 x7 x8)) aF gG [(sB x5 x6 x7 x8),df,df,df,df,df,dt,dt,dt,dt,dt,dt,dt,dt,dt,sH] [⟨rT⟩,⟨rT⟩,⟨rT⟩,⟨rT⟩,⟨rT⟩,⟨c1⟩,⟨c1⟩,⟨c1⟩,⟨c1⟩,⟨c0⟩,⟨c0⟩,⟨c0⟩,⟨c0⟩,⟨(nF (nT rfl))⟩,⟨(bV x5 x6 x7 x8)⟩] (by kernel_rfl)
 rw[if_neg c1] at h;replace c1:=eqf c1
 by_cases c2:ltI x2 0=true
 · rw[if_pos c2] at h
   obtain rfl:=osi h
   exact Tri.of (x:=(zO x5 x6 x7 x8)) aF gG [(sB x5 x6 x7 x8),df,df,df,df,df,df,df,df,df,dt,dt,dt,dt,dt,sH] [⟨rT⟩,⟨c2⟩,⟨c2⟩,⟨c2⟩,⟨c2⟩,⟨c1⟩,⟨c1⟩,⟨c1⟩,⟨c1⟩,⟨c0⟩,⟨c0⟩,⟨c0⟩,⟨c0⟩,⟨(nF (nT rfl))⟩,⟨(bV x5 x6 x7 x8)⟩] (by kernel_rfl)
 rw[if_neg c2] at h;replace c2:=eqf c2
 by_cases c3:ltI x2 1000=true
 · rw[if_pos c3] at h
   by_cases c4:s5 x7 x2=true
   · rw[if_pos c4] at h
     obtain⟨x9,e5,h⟩:=bsm h
     by_cases c6:eqB true (eqI x1 1)=true
     · rw[if_pos c6] at h
       obtain rfl:=osi h
       exact Tri.of (x:=(zO x5 x6 x7 x8)) aF gG [(sB x5 x6 x7 x8),df,df,df,df,df,df,df,df,df,df,df,df,df,df,(aIO x9),dt,dt,sH] [⟨rT⟩,⟨c6⟩,⟨(oK .i64 (fun y=>AV.agg (aB y)) e5)⟩,⟨(nF c3)⟩,⟨c2⟩,⟨c2⟩,⟨c2⟩,⟨c2⟩,⟨c1⟩,⟨c1⟩,⟨c1⟩,⟨c1⟩,⟨c0⟩,⟨c0⟩,⟨c0⟩,⟨c0⟩,⟨(nF (nT rfl))⟩,⟨(bV x5 x6 x7 x8)⟩] (by kernel_rfl)
     rw[if_neg c6] at h;replace c6:=eqf c6
     obtain⟨x10,e7,h⟩:=bsm h
     by_cases c8:eqI x10.2.1 0=true
     · rw[if_pos c8] at h
       by_cases c9:cV (((x8++[(x1,x2,x3,x4)]).length)*32)=true
       · rw[if_pos c9] at h
         obtain rfl:=osi h
         exact Tri.of (x:=(zO x5 x6 x7 x8)) aF gG [(sB x5 x6 x7 x8),df,df,df,df,df,df,df,df,df,df,df,df,df,df,(aIO x9),df,(aMZ x8 x10),df,.rows (List.map aC [(x1,x2,x3,x4)]),.n ((x8++[(x1,x2,x3,x4)]).length),.n x8.length,dt,.rows (List.map aC (x8++[(x1,x2,x3,x4)])),sH] [⟨(aBY aC x8 [(x1,x2,x3,x4)])⟩,⟨(yD x8.length)⟩,⟨(aL aC x8)⟩,⟨c9⟩,⟨(by simp only[wl,List.length_map,List.map_nil,List.map_cons]<;>omega:x8.length+(List.map aC [(x1,x2,x3,x4)]).length=(x8++[(x1,x2,x3,x4)]).length)⟩,⟨(bC aC (l:=[(x1,x2,x3,x4)]) (n:=1) rfl)⟩,⟨(cY aC (Nat.le_refl 1):0+1≤(List.map aC [(x1,x2,x3,x4)]).length)⟩,⟨(nF c8)⟩,⟨(lU k x9.1 x9.2.1 x9.2.2.1 x9.2.2.2 x1 x2 x3 x4 x5 x6 x7 x8 _ e7)⟩,⟨c6⟩,⟨(oK .i64 (fun y=>AV.agg (aB y)) e5)⟩,⟨(nF c3)⟩,⟨c2⟩,⟨c2⟩,⟨c2⟩,⟨c2⟩,⟨c1⟩,⟨c1⟩,⟨c1⟩,⟨c1⟩,⟨c0⟩,⟨c0⟩,⟨c0⟩,⟨c0⟩,⟨(nF (nT rfl))⟩,⟨(bV x5 x6 x7 x8)⟩] (by kernel_rfl)
       rw[if_neg c9] at h;replace c9:=eqf c9
       cases h
     rw[if_neg c8] at h;replace c8:=eqf c8
     obtain rfl:=osi h
     exact Tri.of (x:=(zO x5 x6 x7 x8)) aF gG [(sB x5 x6 x7 x8),df,df,df,df,df,df,df,df,df,df,df,df,df,df,(aIO x9),df,(aMZ x8 x10),dt,sH] [⟨(nT c8)⟩,⟨(lU k x9.1 x9.2.1 x9.2.2.1 x9.2.2.2 x1 x2 x3 x4 x5 x6 x7 x8 _ e7)⟩,⟨c6⟩,⟨(oK .i64 (fun y=>AV.agg (aB y)) e5)⟩,⟨(nF c3)⟩,⟨c2⟩,⟨c2⟩,⟨c2⟩,⟨c2⟩,⟨c1⟩,⟨c1⟩,⟨c1⟩,⟨c1⟩,⟨c0⟩,⟨c0⟩,⟨c0⟩,⟨c0⟩,⟨(nF (nT rfl))⟩,⟨(bV x5 x6 x7 x8)⟩] (by kernel_rfl)
   rw[if_neg c4] at h;replace c4:=eqf c4
   by_cases c5:eqB false (eqI x1 1)=true
   · rw[if_pos c5] at h
     obtain rfl:=osi h
     exact Tri.of (x:=(zO x5 x6 x7 x8)) aF gG [(sB x5 x6 x7 x8),df,df,df,df,df,df,df,df,df,df,df,df,df,df,.opt none,dt,df,sH] [⟨rF⟩,⟨c5⟩,⟨(oP .i64 (fun y=>AV.agg (aB y)) c4)⟩,⟨(nF c3)⟩,⟨c2⟩,⟨c2⟩,⟨c2⟩,⟨c2⟩,⟨c1⟩,⟨c1⟩,⟨c1⟩,⟨c1⟩,⟨c0⟩,⟨c0⟩,⟨c0⟩,⟨c0⟩,⟨(nF (nT rfl))⟩,⟨(bV x5 x6 x7 x8)⟩] (by kernel_rfl)
   rw[if_neg c5] at h;replace c5:=eqf c5
   obtain⟨x9,e6,h⟩:=bsm h
   by_cases c7:eqI x9.2.1 0=true
   · rw[if_pos c7] at h
     by_cases c8:cV (((x8++[(x1,x2,x3,x4)]).length)*32)=true
     · rw[if_pos c8] at h
       obtain rfl:=osi h
       exact Tri.of (x:=(zO x5 x6 x7 x8)) aF gG [(sB x5 x6 x7 x8),df,df,df,df,df,df,df,df,df,df,df,df,df,df,.opt none,df,(aMU x8 x9),df,.rows (List.map aC [(x1,x2,x3,x4)]),.n ((x8++[(x1,x2,x3,x4)]).length),.n x8.length,dt,.rows (List.map aC (x8++[(x1,x2,x3,x4)])),sH] [⟨(aBY aC x8 [(x1,x2,x3,x4)])⟩,⟨(yD x8.length)⟩,⟨(aL aC x8)⟩,⟨c8⟩,⟨(by simp only[wl,List.length_map,List.map_nil,List.map_cons]<;>omega:x8.length+(List.map aC [(x1,x2,x3,x4)]).length=(x8++[(x1,x2,x3,x4)]).length)⟩,⟨(bC aC (l:=[(x1,x2,x3,x4)]) (n:=1) rfl)⟩,⟨(cY aC (Nat.le_refl 1):0+1≤(List.map aC [(x1,x2,x3,x4)]).length)⟩,⟨(nF c7)⟩,⟨(lU k 0 [] false 0 x1 x2 x3 x4 x5 x6 x7 x8 _ e6)⟩,⟨c5⟩,⟨(oP .i64 (fun y=>AV.agg (aB y)) c4)⟩,⟨(nF c3)⟩,⟨c2⟩,⟨c2⟩,⟨c2⟩,⟨c2⟩,⟨c1⟩,⟨c1⟩,⟨c1⟩,⟨c1⟩,⟨c0⟩,⟨c0⟩,⟨c0⟩,⟨c0⟩,⟨(nF (nT rfl))⟩,⟨(bV x5 x6 x7 x8)⟩] (by kernel_rfl)
     rw[if_neg c8] at h;replace c8:=eqf c8
     cases h
   rw[if_neg c7] at h;replace c7:=eqf c7
   obtain rfl:=osi h
   exact Tri.of (x:=(zO x5 x6 x7 x8)) aF gG [(sB x5 x6 x7 x8),df,df,df,df,df,df,df,df,df,df,df,df,df,df,.opt none,df,(aMU x8 x9),dt,sH] [⟨(nT c7)⟩,⟨(lU k 0 [] false 0 x1 x2 x3 x4 x5 x6 x7 x8 _ e6)⟩,⟨c5⟩,⟨(oP .i64 (fun y=>AV.agg (aB y)) c4)⟩,⟨(nF c3)⟩,⟨c2⟩,⟨c2⟩,⟨c2⟩,⟨c2⟩,⟨c1⟩,⟨c1⟩,⟨c1⟩,⟨c1⟩,⟨c0⟩,⟨c0⟩,⟨c0⟩,⟨c0⟩,⟨(nF (nT rfl))⟩,⟨(bV x5 x6 x7 x8)⟩] (by kernel_rfl)
 rw[if_neg c3] at h;replace c3:=eqf c3
 obtain rfl:=osi h
 exact Tri.of (x:=(zO x5 x6 x7 x8)) aF gG [(sB x5 x6 x7 x8),df,df,df,df,df,df,df,df,df,df,df,df,df,dt,sH] [⟨(nT c3)⟩,⟨c2⟩,⟨c2⟩,⟨c2⟩,⟨c2⟩,⟨c1⟩,⟨c1⟩,⟨c1⟩,⟨c1⟩,⟨c0⟩,⟨c0⟩,⟨c0⟩,⟨c0⟩,⟨(nF (nT rfl))⟩,⟨(bV x5 x6 x7 x8)⟩] (by kernel_rfl)
end Go.Ws

namespace Go.Ws
open Go.Proofs
set_option linter.unusedSimpArgs false
set_option linter.unusedVariables false
set_option maxRecDepth 1000000
set_option maxHeartbeats 4000000
noncomputable def X16 (x2:aG) (x3:aJ) (x4:Ty6) (x5:aZ):Ctx:=⟨Try.f16,[(.row [(.sl 2 (List.map aA x2)),(.sl 3 (List.map aD x3)),(.mp 1),(.ref 4 2 0 0 x5.length .virt)]),(.map (bU .i64 (fun y=>AV.agg (aB y)) x4) x4.length),(.arr 4 (List.map aC x5) 0 0 true)],false⟩
def A16_0 (x2:aG) (x3:aJ) (x4:Ty6) (x5:aZ):Ans:=.call ⟨true,[]⟩ (.bool (!false)) [(.row [(.sl 2 (List.map aA x2)),(.sl 3 (List.map aD x3)),(.mp 1),(.ref 4 2 0 0 x5.length .virt)]),(.map (bU .i64 (fun y=>AV.agg (aB y)) x4) x4.length),(.arr 4 (List.map aC x5) 0 0 true)]
def A16_1:Ans:=.norm 0 ⟨[(4,[]),(5,[])],[⟨.tmp 4,[],none⟩,⟨.cell 3 1,[],none⟩],false,[],[]⟩
theorem nS (k:Nat) (x1:Int) (x2:aG) (x3:aJ) (x4:Ty6) (x5:aZ) (r:Int × Bool × Int × aG × Bool) (h:mH k x1 x2 x3 x4 x5=some r):Tri Try.prog 16 [(.hp 0 0),(.int .i64 x1)] [(.row [(.sl 2 (List.map aA x2)),(.sl 3 (List.map aD x3)),(.mp 1),(.ref 4 2 0 0 x5.length .virt)]),(.map (bU .i64 (fun y=>AV.agg (aB y)) x4) x4.length),(.arr 4 (List.map aC x5) 0 0 true)] (.tup [(.agg [(.int .i64 r.1),(.ref 2 3 0 0 r.2.2.2.1.length .virt),(.bool r.2.1),(.int .i64 r.2.2.1)]),(.bool r.2.2.2.2)]) [(.row [(.sl 2 (List.map aA x2)),(.sl 3 (List.map aD x3)),(.mp 1),(.ref 4 2 0 0 x5.length .virt)]),(.map (bU .i64 (fun y=>AV.agg (aB y)) x4) x4.length),(.arr 4 (List.map aC x5) 0 0 true),(.arr 2 (List.map aA r.2.2.2.1) 0 0 false)]:=by
 unfold mH at h
 by_cases c0:s5 x4 x1=true
 · rw[if_pos c0] at h
   obtain⟨x6,e1,h⟩:=bsm h
   obtain⟨x7,e2,h⟩:=bsm h
   obtain rfl:=osi h
   exact Tri.of (x:=(X16 x2 x3 x4 x5)) aF aD4 [(A16_0 x2 x3 x4 x5),df,.opt (some (.agg [(.int .i64 x6.1),(.sl 2 (List.map aA x6.2.1)),(.bool x6.2.2.1),(.int .i64 x6.2.2.2)])),.call ⟨true,[]⟩ (.ref 2 0 0 0 x6.2.1.length .virt) [(.arr 2 (List.map aA x6.2.1) 0 0 false)],A16_1] [⟨(gS k x6.2.1 _ e2)⟩,⟨(oK .i64 (fun y=>AV.agg (aB y)) e1)⟩,⟨(nF (nT rfl))⟩,⟨(bV x2 x3 x4 x5)⟩] (by kernel_rfl)
 rw[if_neg c0] at h;replace c0:=eqf c0
 obtain⟨x6,e1,h⟩:=bsm h
 obtain rfl:=osi h
 exact Tri.of (x:=(X16 x2 x3 x4 x5)) aF aD4 [(A16_0 x2 x3 x4 x5),df,.opt none,.call ⟨true,[]⟩ (.ref 2 0 0 0 0 .virt) [(.arr 2 (List.map aA []) 0 0 false)],A16_1] [⟨(gS k [] _ e1)⟩,⟨(oP .i64 (fun y=>AV.agg (aB y)) c0)⟩,⟨(nF (nT rfl))⟩,⟨(bV x2 x3 x4 x5)⟩] (by kernel_rfl)
end Go.Ws

namespace Go.Ws
open Go.Proofs
set_option linter.unusedSimpArgs false
set_option linter.unusedVariables false
set_option maxRecDepth 1000000
set_option maxHeartbeats 4000000
noncomputable def X20 (x2:aG) (x3:aJ) (x4:Ty6) (x5:aZ):Ctx:=⟨Try.f20,[(.row [(.sl 2 (List.map aA x2)),(.sl 3 (List.map aD x3)),(.mp 1),(.ref 4 2 0 0 x5.length .virt)]),(.map (bU .i64 (fun y=>AV.agg (aB y)) x4) x4.length),(.arr 4 (List.map aC x5) 0 0 true)],false⟩
theorem oJ (k:Nat) (x1:Int) (x2:aG) (x3:aJ) (x4:Ty6) (x5:aZ) (r:Int) (h:nK k x1 x2 x3 x4 x5=some r):Tri Try.prog 20 [(.hp 0 0),(.int .u8 x1)] [(.row [(.sl 2 (List.map aA x2)),(.sl 3 (List.map aD x3)),(.mp 1),(.ref 4 2 0 0 x5.length .virt)]),(.map (bU .i64 (fun y=>AV.agg (aB y)) x4) x4.length),(.arr 4 (List.map aC x5) 0 0 true)] (.int .i64 r) [(.row [(.sl 2 (List.map aA x2)),(.sl 3 (List.map aD x3)),(.mp 1),(.ref 4 2 0 0 x5.length .virt)]),(.map (bU .i64 (fun y=>AV.agg (aB y)) x4) x4.length),(.arr 4 (List.map aC x5) 0 0 true)]:=by
 unfold nK at h
 obtain⟨x6,e0,h⟩:=bsm h
 obtain rfl:=osi h
 exact Tri.of (x:=(X20 x2 x3 x4 x5)) aF aD2 [.call ⟨true,[]⟩ (.bool (!false)) [(.row [(.sl 2 (List.map aA x2)),(.sl 3 (List.map aD x3)),(.mp 1),(.ref 4 2 0 0 x5.length .virt)]),(.map (bU .i64 (fun y=>AV.agg (aB y)) x4) x4.length),(.arr 4 (List.map aC x5) 0 0 true)],df,.call ⟨true,[]⟩ (.int .i64 x6) [],.norm 0 ⟨[(4,[])],[],false,[],[]⟩] [⟨(sD k x2 x1 _ e0)⟩,⟨(nF (nT rfl))⟩,⟨(bV x2 x3 x4 x5)⟩] (by kernel_rfl)
end Go.Ws

namespace Go.Ws
open Go.Proofs
set_option linter.unusedSimpArgs false
set_option linter.unusedVariables false
set_option maxRecDepth 1000000
set_option maxHeartbeats 4000000
noncomputable def X32_1001:Ctx:=⟨Try.f32,[],false⟩
theorem vS (k:Nat) (x1:aZ) (r:Unit) (h:gX k x1=some r):Tri Try.prog 32 [(.inl 4 (List.map aC x1))] [] (.ref 4 0 0 0 x1.length .virt) [(.arr 4 (List.map aC x1) 0 0 false)]:=by
 unfold gX at h
 by_cases c0:cV (x1.length*32)=true
 · rw[if_pos c0] at h
   obtain rfl:=osi h
   exact Tri.of (x:=X32_1001) aF aL8 [df,.n x1.length,.norm 0 ⟨[(2,[])],[⟨.tmp 2,[],some 4⟩],false,[],[]⟩,.n x1.length,.rows (List.map aC x1)] [⟨(gU aC (l:=x1) (n:=x1.length) rfl)⟩,⟨(rfl:x1.length=x1.length)⟩,⟨(zle x1.length)⟩,⟨c0⟩,⟨(aL aC x1)⟩,⟨rF⟩] (by kernel_rfl)
 rw[if_neg c0] at h;replace c0:=eqf c0
 cases h
end Go.Ws

namespace Go.Ws
open Go.Proofs
set_option linter.unusedSimpArgs false
set_option linter.unusedVariables false
set_option maxRecDepth 1000000
set_option maxHeartbeats 4000000
noncomputable def X32_1002:Ctx:=⟨Try.f32,[],false⟩
theorem vY:Tri Try.prog 32 [.nils] [] (.ref 4 0 0 0 0 .virt) [(.arr 4 (List.map aC []) 0 0 false)]:=by
 obtain⟨r,h⟩:∃r,nZ=r:=⟨_,rfl⟩
 try rw[h]
 unfold nZ at h
 obtain rfl:=h
 exact Tri.of (x:=X32_1002) aF aL8 [dt,.norm 0 ⟨[(2,[])],[⟨.tmp 2,[],some 4⟩],false,[],[]⟩,.n 0,.rows (List.map aC [])] [⟨(gU aC (l:=[]) (n:=0) rfl)⟩,⟨(rfl:0=0)⟩,⟨(zle 0)⟩,⟨rT⟩] (by kernel_rfl)
end Go.Ws

namespace Go.Ws
open Go.Proofs
set_option linter.unusedSimpArgs false
set_option linter.unusedVariables false
set_option maxRecDepth 1000000
set_option maxHeartbeats 4000000
theorem z6 (k:Nat) (x1:aZ) (r:Unit) (h:m8 k x1=some r):Tri Try.prog 32 [(.sl 4 (List.map aC x1))] [] (.ref 4 0 0 0 x1.length .virt) [(.arr 4 (List.map aC x1) 0 0 false)]:=by
 refine Tri.slOf (vS k x1 r h) fun h0=>?_
 have hx:x1=[]:=by simpa using h0
 subst hx
 exact vY
end Go.Ws

namespace Go.Ws
open Go.Proofs
set_option linter.unusedSimpArgs false
set_option linter.unusedVariables false
set_option maxRecDepth 1000000
set_option maxHeartbeats 4000000
noncomputable def X21 (x1:aG) (x2:aJ) (x3:Ty6) (x4:aZ):Ctx:=⟨Try.f21,[(.row [(.sl 2 (List.map aA x1)),(.sl 3 (List.map aD x2)),(.mp 1),(.ref 4 2 0 0 x4.length .virt)]),(.map (bU .i64 (fun y=>AV.agg (aB y)) x3) x3.length),(.arr 4 (List.map aC x4) 0 0 true)],false⟩
theorem rR (k:Nat) (x1:aG) (x2:aJ) (x3:Ty6) (x4:aZ) (r:Unit) (h:jY k x1 x2 x3 x4=some r):Tri Try.prog 21 [(.hp 0 0)] [(.row [(.sl 2 (List.map aA x1)),(.sl 3 (List.map aD x2)),(.mp 1),(.ref 4 2 0 0 x4.length .virt)]),(.map (bU .i64 (fun y=>AV.agg (aB y)) x3) x3.length),(.arr 4 (List.map aC x4) 0 0 true)] (.ref 4 3 0 0 x4.length .virt) [(.row [(.sl 2 (List.map aA x1)),(.sl 3 (List.map aD x2)),(.mp 1),(.ref 4 2 0 0 x4.length .virt)]),(.map (bU .i64 (fun y=>AV.agg (aB y)) x3) x3.length),(.arr 4 (List.map aC x4) 0 0 true),(.arr 4 (List.map aC x4) 0 0 false)]:=by
 unfold jY at h
 obtain⟨x5,e0,h⟩:=bsm h
 obtain rfl:=osi h
 exact Tri.of (x:=(X21 x1 x2 x3 x4)) aF aHN [.call ⟨true,[]⟩ (.bool (!false)) [(.row [(.sl 2 (List.map aA x1)),(.sl 3 (List.map aD x2)),(.mp 1),(.ref 4 2 0 0 x4.length .virt)]),(.map (bU .i64 (fun y=>AV.agg (aB y)) x3) x3.length),(.arr 4 (List.map aC x4) 0 0 true)],df,.call ⟨true,[]⟩ (.ref 4 0 0 0 x4.length .virt) [(.arr 4 (List.map aC x4) 0 0 false)],.rows (List.map aC x4),.norm 0 ⟨[(2,[])],[⟨.tmp 2,[],none⟩],false,[],[]⟩] [⟨(z6 k x4 _ e0)⟩,⟨(bC aC (l:=x4) (n:=x4.length) rfl)⟩,⟨(cY aC (Nat.le_refl x4.length):0+x4.length≤(List.map aC x4).length)⟩,⟨(nF (nT rfl))⟩,⟨(bV x1 x2 x3 x4)⟩] (by kernel_rfl)
end Go.Ws

namespace Go.Ws
open Go.Proofs
set_option linter.unusedSimpArgs false
set_option linter.unusedVariables false
set_option maxRecDepth 1000000
set_option maxHeartbeats 4000000
noncomputable def X12:Ctx:=⟨Try.f12,[],true⟩
noncomputable def L12_0:Code:=at_ Try.f12 [1,1,1,0,1,4,5]
def S12_0 (eU:Int) (fO:aG) (fP:aJ) (eV:Ty6) (eW:aZ):St:=⟨mkT 73 [(1,(.hp 0 0)),(27,(.ref 6 1 0 0 8 .full)),(28,(.int .i64 8)),(29,(.int .i64 eU))],[(.row [(.sl 2 (List.map aA fO)),(.sl 3 (List.map aD fP)),(.mp 2),(.ref 4 3 0 0 eW.length .virt)]),(.arr 6 (List.map iT [(1,1,0,0,0,0),(3,1,3,5,0,0),(1,2,0,0,0,0),(2,2,3,0,0,9),(4,1,0,1,0,0),(5,1,0,0,0,0),(2,2,3,0,5,0),(6,1,0,2,0,0)]) 0 0 true),(.map (bU .i64 (fun y=>AV.agg (aB y)) eV) eV.length),(.arr 4 (List.map aC eW) 0 0 true)]⟩
def yW (v12002_1:aG) (v12002_2:aJ) (aKP:Ty6) (aKQ:aZ):St:=⟨mkT 73 [(1,(.hp 0 0))],[(.row [(.sl 2 (List.map aA v12002_1)),(.sl 3 (List.map aD v12002_2)),(.mp 1),(.ref 4 2 0 0 aKQ.length .virt)]),(.map (bU .i64 (fun y=>AV.agg (aB y)) aKP) aKP.length),(.arr 4 (List.map aC aKQ) 0 0 true)]⟩
def O12_0 (y:(Sum (aG × aJ × Ty6 × aZ) (Bool))):GX:=match y with
 | .inl y=>.st (.exit 0) (yW y.1 y.2.1 y.2.2.1 y.2.2.2)
 | .inr y=>.fin (.bool y) []
def A12_0 (dM:Int × Int × Int × Int × Int × Int):Ans:=.row [(.int .i64 dM.1),(.int .i64 dM.2.1),(.int .u8 dM.2.2.1),(.int .i64 dM.2.2.2.1),(.int .i64 dM.2.2.2.2.1),(.int .i64 dM.2.2.2.2.2)]
def A12_1 (dG:Int × Int × aG × aJ × Ty6 × aZ):Ans:=.call ⟨true,[]⟩ (.tup [(.int .i64 dG.2.1),(.int .i64 dG.1)]) [(.row [(.sl 2 (List.map aA dG.2.2.1)),(.sl 3 (List.map aD dG.2.2.2.1)),(.mp 1),(.ref 4 2 1 0 dG.2.2.2.2.2.length .virt)]),(.map (bU .i64 (fun y=>AV.agg (aB y)) dG.2.2.2.2.1) dG.2.2.2.2.1.length),(.arr 4 (List.map aC dG.2.2.2.2.2) 1 1 true)]
def aIZ:Ans:=.call ⟨true,[]⟩ (.hp 0 0) [(.row [.nils,.nils,(.mp 1),.nils]),(.map (bU .i64 (fun y=>AV.agg (aB y)) ([]:Ty6)) ([]:Ty6).length)]
def aJD:Ans:=.norm 2 ⟨[(1,[]),(27,[]),(28,[]),(29,[])],[⟨.tmp 1,[(0,2),(1,3)],none⟩,⟨.tmp 27,[],none⟩,⟨.cell 0 2,[],none⟩,⟨.cell 0 3,[],some 4⟩],true,[],[]⟩
def A12_4 (x2:aG × aJ × Ty6 × aZ) (x3:Int × Bool × Int × aG × Bool):Ans:=.call ⟨true,[]⟩ (.tup [(.agg [(.int .i64 x3.1),(.ref 2 3 0 0 x3.2.2.2.1.length .virt),(.bool x3.2.1),(.int .i64 x3.2.2.1)]),(.bool x3.2.2.2.2)]) [(.row [(.sl 2 (List.map aA x2.1)),(.sl 3 (List.map aD x2.2.1)),(.mp 1),(.ref 4 2 0 0 x2.2.2.2.length .virt)]),(.map (bU .i64 (fun y=>AV.agg (aB y)) x2.2.2.1) x2.2.2.1.length),(.arr 4 (List.map aC x2.2.2.2) 0 0 true),(.arr 2 (List.map aA x3.2.2.2.1) 0 0 false)]
def A12_5 (x2:aG × aJ × Ty6 × aZ) (x4:Int):Ans:=.call ⟨true,[]⟩ (.int .i64 x4) [(.row [(.sl 2 (List.map aA x2.1)),(.sl 3 (List.map aD x2.2.1)),(.mp 1),(.ref 4 2 0 0 x2.2.2.2.length .virt)]),(.map (bU .i64 (fun y=>AV.agg (aB y)) x2.2.2.1) x2.2.2.1.length),(.arr 4 (List.map aC x2.2.2.2) 0 0 true)]
theorem jF (y:(Sum (aG × aJ × Ty6 × aZ) (Bool))):∀(k:Nat) (eU:Int) (fO:aG) (fP:aJ) (eV:Ty6) (eW:aZ),gN k eU fO fP eV eW=some y→LT Try.prog X12 L12_0 (S12_0 eU fO fP eV eW) (O12_0 y)
 | 0,eU,fO,fP,eV,eW,h=>by cases h
 | k+1,eU,fO,fP,eV,eW,h=>by
  rw[gN] at h
  by_cases cL0:ltI eU 8=true
  · rw[if_pos cL0] at h
    by_cases cL1:inI eU 8=true
    · rw[if_pos cL1] at h
      obtain⟨dM,eL2,h⟩:=bsm h
      obtain⟨dG,eL3,h⟩:=bsm h
      by_cases cL4:eqI dG.2.1 dM.2.2.2.2.1=true
      · rw[if_pos cL4] at h
        by_cases cL5:eqI dG.1 dM.2.2.2.2.2=true
        · rw[if_pos cL5] at h
          exact LT.next aF (hs:=⟨[(1,[]),(27,[]),(28,[]),(29,[])],[⟨.tmp 1,[],none⟩,⟨.tmp 27,[],none⟩,⟨.cell 0 2,[],none⟩,⟨.cell 0 3,[],some 4⟩],true,[],[]⟩) (es:=none) [dt,(A12_0 dM),(A12_1 dG),df,df,df,df,df,df,.n dG.2.2.2.2.2.length,.rows (List.map aC dG.2.2.2.2.2)] [⟨(rfl:(List.map aC dG.2.2.2.2.2)=(List.map aC dG.2.2.2.2.2))⟩,⟨(rfl:dG.2.2.2.2.2.length=dG.2.2.2.2.2.length)⟩,⟨(zle dG.2.2.2.2.2.length)⟩,⟨(nF cL5)⟩,⟨(nF cL4)⟩,⟨(nF cL4)⟩,⟨(nF cL4)⟩,⟨(nF cL4)⟩,⟨(nF cL4)⟩,⟨(b8 k dM.1 dM.2.1 dM.2.2.1 dM.2.2.2.1 fO fP eV eW _ eL3)⟩,⟨(aN (e:=iT) eL2 6 0 6 (by decide))⟩,⟨cL1⟩,⟨cL0⟩] (by kernel_rfl) (jF y k (aI .i64 eU 1) dG.2.2.1 dG.2.2.2.1 dG.2.2.2.2.1 dG.2.2.2.2.2 h)
        rw[if_neg cL5] at h;replace cL5:=eqf cL5
        obtain rfl:=osi h
        show LT _ _ _ _ (.fin (.bool false) [])
        exact LT.done aF (hs:=⟨[],[],false,[],[]⟩) (es:=none) [dt,(A12_0 dM),(A12_1 dG),df,df,df,df,df,dt] [⟨(nT cL5)⟩,⟨(nF cL4)⟩,⟨(nF cL4)⟩,⟨(nF cL4)⟩,⟨(nF cL4)⟩,⟨(nF cL4)⟩,⟨(b8 k dM.1 dM.2.1 dM.2.2.1 dM.2.2.2.1 fO fP eV eW _ eL3)⟩,⟨(aN (e:=iT) eL2 6 0 6 (by decide))⟩,⟨cL1⟩,⟨cL0⟩] (by kernel_rfl) (fun s h=>by cases h)
      rw[if_neg cL4] at h;replace cL4:=eqf cL4
      obtain rfl:=osi h
      show LT _ _ _ _ (.fin (.bool false) [])
      exact LT.done aF (hs:=⟨[],[],false,[],[]⟩) (es:=none) [dt,(A12_0 dM),(A12_1 dG),dt,dt,dt,dt,dt,dt] [⟨rT⟩,⟨(nT cL4)⟩,⟨(nT cL4)⟩,⟨(nT cL4)⟩,⟨(nT cL4)⟩,⟨(nT cL4)⟩,⟨(b8 k dM.1 dM.2.1 dM.2.2.1 dM.2.2.2.1 fO fP eV eW _ eL3)⟩,⟨(aN (e:=iT) eL2 6 0 6 (by decide))⟩,⟨cL1⟩,⟨cL0⟩] (by kernel_rfl) (fun s h=>by cases h)
    rw[if_neg cL1] at h;replace cL1:=eqf cL1
    cases h
  rw[if_neg cL0] at h;replace cL0:=eqf cL0
  obtain rfl:=osi h
  show LT _ _ _ _ (.st (.exit 0) (yW fO fP eV eW))
  exact LT.done aF (hs:=⟨[],[],false,[],[]⟩) (es:=(some ⟨[(1,[])],[⟨.tmp 1,[],none⟩,⟨.cell 0 2,[],none⟩,⟨.cell 0 3,[],none⟩],true,[],[]⟩)) [df] [⟨cL0⟩] (by kernel_rfl) (fun s h=>by cases h)
theorem oD (k:Nat) (r:Bool) (h:p9 k=some r):Tri Try.prog 12 [] [] (.bool r) []:=by
 unfold p9 at h
 obtain⟨x1,e0,h⟩:=bsm h
 cases x1 with
 | inl x2 =>
  simp only[Sum.elim_inl] at h
  obtain⟨x3,e2,h⟩:=bsm h
  obtain⟨x4,e3,h⟩:=bsm h
  by_cases c4:eqI x4 0=true
  · rw[if_pos c4] at h
    by_cases c5:x3.2.2.2.2=true
    · rw[if_pos c5] at h
      by_cases c6:eqI x3.1 3=true
      · rw[if_pos c6] at h
        obtain⟨x5,e7,h⟩:=bsm h
        obtain rfl:=osi h
        exact Tri.of (x:=X12) aF aBU [aIZ,df,aJD,.n 0,.rows (List.map aC []),.out (.st .normal (yW x2.1 x2.2.1 x2.2.2.1 x2.2.2.2)),(A12_4 x2 x3),(A12_5 x2 x4),dt,dt,dt,dt,dt,dt,dt,dt,.call ⟨true,[]⟩ (.ref 4 3 0 0 x2.2.2.2.length .virt) [(.row [(.sl 2 (List.map aA x2.1)),(.sl 3 (List.map aD x2.2.1)),(.mp 1),(.ref 4 2 0 0 x2.2.2.2.length .virt)]),(.map (bU .i64 (fun y=>AV.agg (aB y)) x2.2.2.1) x2.2.2.1.length),(.arr 4 (List.map aC x2.2.2.2) 0 0 true),(.arr 4 (List.map aC x2.2.2.2) 0 0 false)],dt,dt,dt] [⟨c6⟩,⟨c6⟩,⟨c6⟩,⟨(rR k x2.1 x2.2.1 x2.2.2.1 x2.2.2.2 _ e7)⟩,⟨c6⟩,⟨c6⟩,⟨c5⟩,⟨c5⟩,⟨c5⟩,⟨c5⟩,⟨c4⟩,⟨c4⟩,⟨(oJ k 3 x2.1 x2.2.1 x2.2.2.1 x2.2.2.2 _ e3)⟩,⟨(nS k 1 x2.1 x2.2.1 x2.2.2.1 x2.2.2.2 _ e2)⟩,⟨(LT.block (jF _ k 0 [] [] ([]:Ty6) [] e0))⟩,⟨(gU aC (l:=[]) (n:=0) rfl)⟩,⟨(rfl:0=0)⟩,⟨(zle 0)⟩,⟨rF⟩,⟨(p7)⟩] (by kernel_rfl)
      rw[if_neg c6] at h;replace c6:=eqf c6
      obtain rfl:=osi h
      exact Tri.of (x:=X12) aF aBU [aIZ,df,aJD,.n 0,.rows (List.map aC []),.out (.st .normal (yW x2.1 x2.2.1 x2.2.2.1 x2.2.2.2)),(A12_4 x2 x3),(A12_5 x2 x4),dt,dt,dt,dt,dt,dt,df,df,df,df,df] [⟨c6⟩,⟨c6⟩,⟨c6⟩,⟨c6⟩,⟨c6⟩,⟨c5⟩,⟨c5⟩,⟨c5⟩,⟨c5⟩,⟨c4⟩,⟨c4⟩,⟨(oJ k 3 x2.1 x2.2.1 x2.2.2.1 x2.2.2.2 _ e3)⟩,⟨(nS k 1 x2.1 x2.2.1 x2.2.2.1 x2.2.2.2 _ e2)⟩,⟨(LT.block (jF _ k 0 [] [] ([]:Ty6) [] e0))⟩,⟨(gU aC (l:=[]) (n:=0) rfl)⟩,⟨(rfl:0=0)⟩,⟨(zle 0)⟩,⟨rF⟩,⟨(p7)⟩] (by kernel_rfl)
    rw[if_neg c5] at h;replace c5:=eqf c5
    obtain rfl:=osi h
    exact Tri.of (x:=X12) aF aBU [aIZ,df,aJD,.n 0,.rows (List.map aC []),.out (.st .normal (yW x2.1 x2.2.1 x2.2.2.1 x2.2.2.2)),(A12_4 x2 x3),(A12_5 x2 x4),dt,dt,df,df,df,df,df,df,df,df,df] [⟨rF⟩,⟨rF⟩,⟨rF⟩,⟨rF⟩,⟨rF⟩,⟨c5⟩,⟨c5⟩,⟨c5⟩,⟨c5⟩,⟨c4⟩,⟨c4⟩,⟨(oJ k 3 x2.1 x2.2.1 x2.2.2.1 x2.2.2.2 _ e3)⟩,⟨(nS k 1 x2.1 x2.2.1 x2.2.2.1 x2.2.2.2 _ e2)⟩,⟨(LT.block (jF _ k 0 [] [] ([]:Ty6) [] e0))⟩,⟨(gU aC (l:=[]) (n:=0) rfl)⟩,⟨(rfl:0=0)⟩,⟨(zle 0)⟩,⟨rF⟩,⟨(p7)⟩] (by kernel_rfl)
  rw[if_neg c4] at h;replace c4:=eqf c4
  obtain rfl:=osi h
  exact Tri.of (x:=X12) aF aBU [aIZ,df,aJD,.n 0,.rows (List.map aC []),.out (.st .normal (yW x2.1 x2.2.1 x2.2.2.1 x2.2.2.2)),(A12_4 x2 x3),(A12_5 x2 x4),df,df,df,df,df,df,df,df,df,df,df] [⟨rF⟩,⟨rF⟩,⟨rF⟩,⟨rF⟩,⟨rF⟩,⟨rF⟩,⟨rF⟩,⟨rF⟩,⟨rF⟩,⟨c4⟩,⟨c4⟩,⟨(oJ k 3 x2.1 x2.2.1 x2.2.2.1 x2.2.2.2 _ e3)⟩,⟨(nS k 1 x2.1 x2.2.1 x2.2.2.1 x2.2.2.2 _ e2)⟩,⟨(LT.block (jF _ k 0 [] [] ([]:Ty6) [] e0))⟩,⟨(gU aC (l:=[]) (n:=0) rfl)⟩,⟨(rfl:0=0)⟩,⟨(zle 0)⟩,⟨rF⟩,⟨(p7)⟩] (by kernel_rfl)
 | inr x2 =>
  simp only[Sum.elim_inr] at h
  obtain rfl:=osi h
  exact Tri.of (x:=X12) aF aBU [aIZ,df,aJD,.n 0,.rows (List.map aC []),.out (.fin (.bool x2) [])] [⟨(LT.blockFin (id:=0) (jF _ k 0 [] [] ([]:Ty6) [] e0))⟩,⟨(gU aC (l:=[]) (n:=0) rfl)⟩,⟨(rfl:0=0)⟩,⟨(zle 0)⟩,⟨rF⟩,⟨(p7)⟩] (by kernel_rfl)
end Go.Ws

namespace Go.Ws
open Go.Proofs
set_option linter.unusedSimpArgs false
set_option linter.unusedVariables false
set_option maxRecDepth 1000000
set_option maxHeartbeats 4000000
noncomputable def X19:Ctx:=⟨Try.f19,[],false⟩
noncomputable def L19_0:Code:=at_ Try.f19 [1,1,1,0,1,4,5]
def S19_0 (x1:aZ) (cS:Int) (dQ:aG) (dR:aJ) (dN:Ty6) (dO:aZ):St:=⟨mkT 25 [(0,(.sl 4 (List.map aC x1))),(3,(.hp 0 0)),(4,(.int .i64 cS))],[(.row [(.sl 2 (List.map aA dQ)),(.sl 3 (List.map aD dR)),(.mp 1),(.ref 4 2 0 0 dO.length .virt)]),(.map (bU .i64 (fun y=>AV.agg (aB y)) dN) dN.length),(.arr 4 (List.map aC dO) 0 0 true)]⟩
def aDU (v19002_1:aG) (v19002_2:aJ) (aKR:Ty6) (aKS:aZ):St:=⟨mkT 25 [(3,(.hp 0 0))],[(.row [(.sl 2 (List.map aA v19002_1)),(.sl 3 (List.map aD v19002_2)),(.mp 1),(.ref 4 2 0 0 aKS.length .virt)]),(.map (bU .i64 (fun y=>AV.agg (aB y)) aKR) aKR.length),(.arr 4 (List.map aC aKS) 0 0 true)]⟩
def O19_0 (x1:aZ) (y:(aG × aJ × Ty6 × aZ)):GX:=.st (.exit 0) (aDU y.1 y.2.1 y.2.2.1 y.2.2.2)
theorem tY (x1:aZ) (y:(aG × aJ × Ty6 × aZ)):∀(k:Nat) (cS:Int) (dQ:aG) (dR:aJ) (dN:Ty6) (dO:aZ),eB k x1 cS dQ dR dN dO=some y→LT Try.prog X19 L19_0 (S19_0 x1 cS dQ dR dN dO) (O19_0 x1 y)
 | 0,cS,dQ,dR,dN,dO,h=>by cases h
 | k+1,cS,dQ,dR,dN,dO,h=>by
  rw[eB] at h
  by_cases cL0:ltI cS (nI x1.length)=true
  · rw[if_pos cL0] at h
    by_cases cL1:ltI cS 120=true
    · rw[if_pos cL1] at h
      by_cases cL2:inI cS x1.length=true
      · rw[if_pos cL2] at h
        obtain⟨iK,eL3,h⟩:=bsm h
        obtain⟨dZ,eL4,h⟩:=bsm h
        exact LT.next aF (hs:=⟨[(0,[]),(3,[]),(4,[])],[⟨.tmp 3,[],none⟩,⟨.cell 0 2,[],none⟩,⟨.cell 0 3,[],some 4⟩],true,[],[]⟩) (es:=none) [.n x1.length,dt,dt,dt,dt,.n x1.length,.row [(.int .i64 iK.1),(.int .i64 iK.2.1),(.int .u8 iK.2.2.1),(.int .i64 iK.2.2.2)],.call ⟨true,[]⟩ (.tup [(.int .i64 dZ.2.1),(.int .i64 dZ.1)]) [(.row [(.sl 2 (List.map aA dZ.2.2.1)),(.sl 3 (List.map aD dZ.2.2.2.1)),(.mp 1),(.ref 4 2 1 0 dZ.2.2.2.2.2.length .virt)]),(.map (bU .i64 (fun y=>AV.agg (aB y)) dZ.2.2.2.2.1) dZ.2.2.2.2.1.length),(.arr 4 (List.map aC dZ.2.2.2.2.2) 1 1 true)],.n dZ.2.2.2.2.2.length,.rows (List.map aC dZ.2.2.2.2.2)] [⟨(rfl:(List.map aC dZ.2.2.2.2.2)=(List.map aC dZ.2.2.2.2.2))⟩,⟨(rfl:dZ.2.2.2.2.2.length=dZ.2.2.2.2.2.length)⟩,⟨(zle dZ.2.2.2.2.2.length)⟩,⟨(b8 k iK.1 iK.2.1 iK.2.2.1 iK.2.2.2 dQ dR dN dO _ eL4)⟩,⟨(aN (e:=aC) eL3 4 0 4 (by decide))⟩,⟨cL2⟩,⟨(aL aC x1)⟩,⟨cL1⟩,⟨cL0⟩,⟨cL0⟩,⟨cL0⟩,⟨(aL aC x1)⟩] (by kernel_rfl) (tY x1 y k (aI .i64 cS 1) dZ.2.2.1 dZ.2.2.2.1 dZ.2.2.2.2.1 dZ.2.2.2.2.2 h)
      rw[if_neg cL2] at h;replace cL2:=eqf cL2
      cases h
    rw[if_neg cL1] at h;replace cL1:=eqf cL1
    obtain rfl:=osi h
    show LT _ _ _ _ (.st (.exit 0) (aDU dQ dR dN dO))
    exact LT.done aF (hs:=⟨[],[],false,[],[]⟩) (es:=(some ⟨[(3,[])],[⟨.tmp 3,[],none⟩,⟨.cell 0 2,[],none⟩,⟨.cell 0 3,[],none⟩],true,[],[]⟩)) [.n x1.length,dt,dt,dt,df] [⟨cL1⟩,⟨cL0⟩,⟨cL0⟩,⟨cL0⟩,⟨(aL aC x1)⟩] (by kernel_rfl) (fun s h=>by cases h)
  rw[if_neg cL0] at h;replace cL0:=eqf cL0
  obtain rfl:=osi h
  show LT _ _ _ _ (.st (.exit 0) (aDU dQ dR dN dO))
  exact LT.done aF (hs:=⟨[],[],false,[],[]⟩) (es:=(some ⟨[(3,[])],[⟨.tmp 3,[],none⟩,⟨.cell 0 2,[],none⟩,⟨.cell 0 3,[],none⟩],true,[],[]⟩)) [.n x1.length,df,df,df,df] [⟨rF⟩,⟨cL0⟩,⟨cL0⟩,⟨cL0⟩,⟨(aL aC x1)⟩] (by kernel_rfl) (fun s h=>by cases h)
theorem kO (k:Nat) (x1:aZ) (r:aG × aJ × Ty6 × aZ) (h:mW k x1=some r):Tri Try.prog 19 [(.sl 4 (List.map aC x1))] [] (.hp 0 0) [(.row [(.sl 2 (List.map aA r.1)),(.sl 3 (List.map aD r.2.1)),(.mp 1),(.ref 4 2 0 0 r.2.2.2.length .virt)]),(.map (bU .i64 (fun y=>AV.agg (aB y)) r.2.2.1) r.2.2.1.length),(.arr 4 (List.map aC r.2.2.2) 0 0 true)]:=by
 unfold mW at h
 obtain⟨x3,e0,h⟩:=bsm h
 obtain rfl:=osi h
 exact Tri.of (x:=X19) aF facts19 [.call ⟨true,[]⟩ (.hp 0 0) [(.row [.nils,.nils,(.mp 1),.nils]),(.map (bU .i64 (fun y=>AV.agg (aB y)) ([]:Ty6)) ([]:Ty6).length)],df,.norm 2 ⟨[(0,[]),(3,[]),(4,[])],[⟨.tmp 3,[(0,2),(1,3)],none⟩,⟨.cell 0 2,[],none⟩,⟨.cell 0 3,[],some 4⟩],true,[],[]⟩,.n 0,.rows (List.map aC []),.out (.st .normal (aDU x3.1 x3.2.1 x3.2.2.1 x3.2.2.2)),.norm 0 ⟨[(2,[])],[⟨.tmp 2,[],none⟩,⟨.cell 0 2,[],none⟩,⟨.cell 0 3,[],none⟩],false,[],[]⟩] [⟨(LT.block (tY x1 _ k 0 [] [] ([]:Ty6) [] e0))⟩,⟨(gU aC (l:=[]) (n:=0) rfl)⟩,⟨(rfl:0=0)⟩,⟨(zle 0)⟩,⟨rF⟩,⟨(p7)⟩] (by kernel_rfl)
end Go.Ws

namespace Go.Ws
open Go.Proofs
set_option linter.unusedSimpArgs false
set_option linter.unusedVariables false
set_option maxRecDepth 1000000
set_option maxHeartbeats 4000000
noncomputable def X26_4 (x1:aG) (x2:aJ) (x3:Ty6) (x4:aZ):Ctx:=⟨Try.f26,[(.row [(.sl 2 (List.map aA x1)),(.sl 3 (List.map aD x2)),(.mp 1),(.ref 4 2 1 0 x4.length .virt)]),(.map (bU .i64 (fun y=>AV.agg (aB y)) x3) x3.length),(.arr 4 (List.map aC x4) 1 1 true)],false⟩
theorem dP (x1:aG) (x2:aJ) (x3:Ty6) (x4:aZ):Tri Try.prog 26 [(.hp 0 0)] [(.row [(.sl 2 (List.map aA x1)),(.sl 3 (List.map aD x2)),(.mp 1),(.ref 4 2 1 0 x4.length .virt)]),(.map (bU .i64 (fun y=>AV.agg (aB y)) x3) x3.length),(.arr 4 (List.map aC x4) 1 1 true)] (.bool (!false)) [(.row [(.sl 2 (List.map aA x1)),(.sl 3 (List.map aD x2)),(.mp 1),(.ref 4 2 1 0 x4.length .virt)]),(.map (bU .i64 (fun y=>AV.agg (aB y)) x3) x3.length),(.arr 4 (List.map aC x4) 1 1 true)]:=by
 obtain⟨r,h⟩:∃r,rL x1 x2 x3 x4=r:=⟨_,rfl⟩
 try rw[h]
 unfold rL at h
 obtain rfl:=h
 exact Tri.of (x:=(X26_4 x1 x2 x3 x4)) aF aA1 [dt,dt,dt,dt,dt,dt,.norm 0 ⟨[(2,[])],[],false,[],[]⟩] [⟨(nT rfl)⟩,⟨(nT rfl)⟩,⟨(nT rfl)⟩,⟨(nT rfl)⟩,⟨(nT rfl)⟩,⟨(nT rfl)⟩] (by kernel_rfl)
end Go.Ws

namespace Go.Ws
open Go.Proofs
set_option linter.unusedSimpArgs false
set_option linter.unusedVariables false
set_option maxRecDepth 1000000
set_option maxHeartbeats 4000000
noncomputable def aFA (x9:aG) (x10:aJ) (x11:Ty6) (x12:aZ):Ctx:=⟨Try.f37,[(.row [(.sl 2 (List.map aA x9)),(.sl 3 (List.map aD x10)),(.mp 1),(.ref 4 2 1 0 x12.length .virt)]),(.map (bU .i64 (fun y=>AV.agg (aB y)) x11) x11.length),(.arr 4 (List.map aC x12) 1 1 true)],false⟩
noncomputable def L37_4_0:Code:=at_ Try.f37 [1,1,1,1,1,1,1,0,1,4,5]
def S37_4_0 (x2:aG) (x5:Int) (x6:Int) (x7:Int) (x8:Int) (x9:aG) (x11:Ty6) (x12:aZ) (x13:aJ × Int) (d8:Int) (dI:Int):St:=⟨mkT 92 [(5,(.hp 3 0)),(10,(.int .i64 d8)),(75,(.sl 2 (List.map aA x2))),(76,(.int .i64 (nI x2.length))),(77,(.int .i64 dI))],[(.row [(.sl 2 (List.map aA x9)),(.sl 3 (List.map aD x13.1)),(.mp 1),(.ref 4 2 1 0 x12.length .virt)]),(.map (bU .i64 (fun y=>AV.agg (aB y)) x11) x11.length),(.arr 4 (List.map aC x12) 1 1 true),(.row [(.int .i64 x5),(.int .i64 x6),(.int .u8 x7),(.int .i64 x8)])]⟩
def aC3 (x9:aG) (x11:Ty6) (x12:aZ) (x13:aJ × Int) (aOG:Int):St:=⟨mkT 92 [(10,(.int .i64 aOG))],[(.row [(.sl 2 (List.map aA x9)),(.sl 3 (List.map aD x13.1)),(.mp 1),(.ref 4 2 1 0 x12.length .virt)]),(.map (bU .i64 (fun y=>AV.agg (aB y)) x11) x11.length),(.arr 4 (List.map aC x12) 1 1 true)]⟩
def O37_4_0 (x2:aG) (x5:Int) (x6:Int) (x7:Int) (x8:Int) (x9:aG) (x10:aJ) (x11:Ty6) (x12:aZ) (x13:aJ × Int) (y:(Int)):GX:=.st (.exit 0) (aC3 x9 x11 x12 x13 y)
def aB4 (x13:aJ × Int):Ans:=.call ⟨true,[]⟩ (.tup [(.sl 3 (List.map aD x13.1)),(.int .i64 x13.2)]) []
def aIH (x14:Int × aG × Bool × Int × Int):Ans:=.call ⟨true,[]⟩ (.tup [(.agg [(.int .i64 x14.1),(.sl 2 (List.map aA x14.2.1)),(.bool x14.2.2.1),(.int .i64 x14.2.2.2.1)]),(.int .i64 x14.2.2.2.2)]) []
def yR:Ans:=.norm 0 ⟨[(6,[]),(7,[])],[],false,[],[]⟩
theorem lL (x2:aG) (x5:Int) (x6:Int) (x7:Int) (x8:Int) (x9:aG) (x10:aJ) (x11:Ty6) (x12:aZ) (x13:aJ × Int) (y:(Int)):∀(k:Nat) (d8:Int) (dI:Int),cI k x2 x5 x6 x7 x8 x9 x10 x11 x12 x13 d8 dI=some y→LT Try.prog (aFA x9 x10 x11 x12) L37_4_0 (S37_4_0 x2 x5 x6 x7 x8 x9 x11 x12 x13 d8 dI) (O37_4_0 x2 x5 x6 x7 x8 x9 x10 x11 x12 x13 y)
 | 0,d8,dI,h=>by cases h
 | k+1,d8,dI,h=>by
  rw[cI] at h
  by_cases cL0:ltI dI (nI x2.length)=true
  · rw[if_pos cL0] at h
    by_cases cL1:inI dI x2.length=true
    · rw[if_pos cL1] at h
      obtain⟨oT,eL2,h⟩:=bsm h
      by_cases cL3:eqI oT.1 x7=true
      · rw[if_pos cL3] at h
        exact LT.next aF (hs:=⟨[(5,[]),(10,[]),(75,[]),(76,[]),(77,[])],[⟨.tmp 5,[],none⟩],false,[],[]⟩) (es:=none) [dt,.n x2.length,.row [(.int .u8 oT.1),(.int .i64 oT.2)],dt] [⟨cL3⟩,⟨(aN (e:=aA) eL2 2 0 2 (by decide))⟩,⟨cL1⟩,⟨(aL aA x2)⟩,⟨cL0⟩] (by kernel_rfl) (lL x2 x5 x6 x7 x8 x9 x10 x11 x12 x13 y k (aI .i64 d8 oT.2) (aI .i64 dI 1) h)
      rw[if_neg cL3] at h;replace cL3:=eqf cL3
      exact LT.next aF (hs:=⟨[(5,[]),(10,[]),(75,[]),(76,[]),(77,[])],[⟨.tmp 5,[],none⟩],false,[],[]⟩) (es:=none) [dt,.n x2.length,.row [(.int .u8 oT.1),(.int .i64 oT.2)],df] [⟨cL3⟩,⟨(aN (e:=aA) eL2 2 0 2 (by decide))⟩,⟨cL1⟩,⟨(aL aA x2)⟩,⟨cL0⟩] (by kernel_rfl) (lL x2 x5 x6 x7 x8 x9 x10 x11 x12 x13 y k d8 (aI .i64 dI 1) h)
    rw[if_neg cL1] at h;replace cL1:=eqf cL1
    cases h
  rw[if_neg cL0] at h;replace cL0:=eqf cL0
  obtain rfl:=osi h
  show LT _ _ _ _ (.st (.exit 0) (aC3 x9 x11 x12 x13 d8))
  exact LT.done aF (hs:=⟨[],[],false,[],[]⟩) (es:=(some ⟨[(10,[])],[],false,[],[]⟩)) [df] [⟨cL0⟩] (by kernel_rfl) (fun s h=>by cases h)
theorem rI (k:Nat) (x1:Int) (x2:aG) (x3:Bool) (x4:Int) (x5:Int) (x6:Int) (x7:Int) (x8:Int) (x9:aG) (x10:aJ) (x11:Ty6) (x12:aZ) (r:aJ × Ty6 × Int × Int) (h:gQ k x1 x2 x3 x4 x5 x6 x7 x8 x9 x10 x11 x12=some r):Tri Try.prog 37 [(.hp 0 0),(.agg [(.int .i64 x1),(.sl 2 (List.map aA x2)),(.bool x3),(.int .i64 x4)]),(.agg [(.int .i64 x5),(.int .i64 x6),(.int .u8 x7),(.int .i64 x8)])] [(.row [(.sl 2 (List.map aA x9)),(.sl 3 (List.map aD x10)),(.mp 1),(.ref 4 2 1 0 x12.length .virt)]),(.map (bU .i64 (fun y=>AV.agg (aB y)) x11) x11.length),(.arr 4 (List.map aC x12) 1 1 true)] (.tup [(.int .i64 r.2.2.2),(.int .i64 r.2.2.1)]) [(.row [(.sl 2 (List.map aA x9)),(.sl 3 (List.map aD r.1)),(.mp 1),(.ref 4 2 1 0 x12.length .virt)]),(.map (bU .i64 (fun y=>AV.agg (aB y)) r.2.1) r.2.1.length),(.arr 4 (List.map aC x12) 1 1 true)]:=by
 unfold gQ at h
 by_cases c0:eqI x1 0=true
 · rw[if_pos c0] at h
   obtain⟨x13,e1,h⟩:=bsm h
   by_cases c2:eqI x13.2 0=true
   · rw[if_pos c2] at h
     by_cases c3:eqI x5 3=true
     · rw[if_pos c3] at h
       obtain⟨x14,e4,h⟩:=bsm h
       by_cases c5:eqI x14.2.2.2.2 0=true
       · rw[if_pos c5] at h
         by_cases c6:s5 x11 x6=true
         · rw[if_pos c6] at h
           obtain⟨x15,e7,h⟩:=bsm h
           obtain rfl:=osi h
           exact Tri.of (x:=(aFA x9 x10 x11 x12)) aF pP [df,(aB4 x13),df,dt,(aIH x14),df,.opt (some (.agg [(.int .i64 x15.1),(.sl 2 (List.map aA x15.2.1)),(.bool x15.2.2.1),(.int .i64 x15.2.2.2)])),.n (mIx x11 x6),.ents (bU .i64 (fun y=>AV.agg (aB y)) x11) x11.length,.ents (bU .i64 (fun y=>AV.agg (aB y)) (cC x11 x6 (x14.1,x14.2.1,x14.2.2.1,x14.2.2.2.1))) (cC x11 x6 (x14.1,x14.2.1,x14.2.2.1,x14.2.2.2.1)).length,yR] [⟨(aHH .i64 (fun y=>AV.agg (aB y)) e7 (x14.1,x14.2.1,x14.2.2.1,x14.2.2.2.1))⟩,⟨(aI1 .i64 (fun y=>AV.agg (aB y)) e7 (.agg [(.int .i64 0),(.sl 2 (List.map aA [])),(.bool false),(.int .i64 0)]))⟩,⟨(aD1 .i64 (fun y=>AV.agg (aB y)) x11 x6)⟩,⟨(oK .i64 (fun y=>AV.agg (aB y)) e7)⟩,⟨(nF c5)⟩,⟨(qH k x1 x2 x3 x4 x7 x8 _ e4)⟩,⟨c3⟩,⟨(nF c2)⟩,⟨(iV k x10 x6 x7 (eqI x5 3) _ e1)⟩,⟨(nF c0)⟩] (by kernel_rfl)
         rw[if_neg c6] at h;replace c6:=eqf c6
         obtain rfl:=osi h
         exact Tri.of (x:=(aFA x9 x10 x11 x12)) aF pP [df,(aB4 x13),df,dt,(aIH x14),df,.opt none,.n (mIx x11 x6),.ents (bU .i64 (fun y=>AV.agg (aB y)) (cC x11 x6 (0,[],false,0))) (cC x11 x6 (0,[],false,0)).length,.ents (bU .i64 (fun y=>AV.agg (aB y)) (cC x11 x6 (x14.1,x14.2.1,x14.2.2.1,x14.2.2.2.1))) (cC x11 x6 (x14.1,x14.2.1,x14.2.2.1,x14.2.2.2.1)).length,yR] [⟨(aL1 .i64 (fun y=>AV.agg (aB y)) (l:=x11) (q:=x6) (0,[],false,0) (x14.1,x14.2.1,x14.2.2.1,x14.2.2.2.1))⟩,⟨(aJ5 .i64 (fun y=>AV.agg (aB y)) c6 (0,[],false,0))⟩,⟨(aD1 .i64 (fun y=>AV.agg (aB y)) x11 x6)⟩,⟨(oP .i64 (fun y=>AV.agg (aB y)) c6)⟩,⟨(nF c5)⟩,⟨(qH k x1 x2 x3 x4 x7 x8 _ e4)⟩,⟨c3⟩,⟨(nF c2)⟩,⟨(iV k x10 x6 x7 (eqI x5 3) _ e1)⟩,⟨(nF c0)⟩] (by kernel_rfl)
       rw[if_neg c5] at h;replace c5:=eqf c5
       obtain rfl:=osi h
       exact Tri.of (x:=(aFA x9 x10 x11 x12)) aF pP [df,(aB4 x13),df,dt,(aIH x14),dt,yR] [⟨(nT c5)⟩,⟨(qH k x1 x2 x3 x4 x7 x8 _ e4)⟩,⟨c3⟩,⟨(nF c2)⟩,⟨(iV k x10 x6 x7 (eqI x5 3) _ e1)⟩,⟨(nF c0)⟩] (by kernel_rfl)
     rw[if_neg c3] at h;replace c3:=eqf c3
     obtain⟨x14,e4,h⟩:=bsm h
     obtain⟨x16,e5,h⟩:=bsm h
     obtain rfl:=osi h
     exact Tri.of (x:=(aFA x9 x10 x11 x12)) aF pP [df,(aB4 x13),df,df,.call ⟨true,[]⟩ (.int .i64 x14) [],.n x2.length,.norm 2 ⟨[(5,[]),(10,[]),(75,[]),(76,[]),(77,[])],[⟨.tmp 5,[],none⟩],false,[],[]⟩,.out (.st .normal (aC3 x9 x11 x12 x13 x16)),yR] [⟨(LT.block (lL x2 x5 x6 x7 x8 x9 x10 x11 x12 x13 _ k x14 0 e5))⟩,⟨(aL aA x2)⟩,⟨(sD k x9 x7 _ e4)⟩,⟨c3⟩,⟨(nF c2)⟩,⟨(iV k x10 x6 x7 (eqI x5 3) _ e1)⟩,⟨(nF c0)⟩] (by kernel_rfl)
   rw[if_neg c2] at h;replace c2:=eqf c2
   obtain rfl:=osi h
   exact Tri.of (x:=(aFA x9 x10 x11 x12)) aF pP [df,(aB4 x13),dt,yR] [⟨(nT c2)⟩,⟨(iV k x10 x6 x7 (eqI x5 3) _ e1)⟩,⟨(nF c0)⟩] (by kernel_rfl)
 rw[if_neg c0] at h;replace c0:=eqf c0
 obtain rfl:=osi h
 exact Tri.of (x:=(aFA x9 x10 x11 x12)) aF pP [dt,yR] [⟨(nT c0)⟩] (by kernel_rfl)
end Go.Ws

namespace Go.Ws
open Go.Proofs
set_option linter.unusedSimpArgs false
set_option linter.unusedVariables false
set_option maxRecDepth 1000000
set_option maxHeartbeats 4000000
noncomputable def zQ (x9:aG) (x10:aJ) (x11:Ty6) (x12:aZ):Ctx:=⟨Try.f38,[(.row [(.sl 2 (List.map aA x9)),(.sl 3 (List.map aD x10)),(.mp 1),(.ref 4 2 1 0 x12.length .virt)]),(.map (bU .i64 (fun y=>AV.agg (aB y)) x11) x11.length),(.arr 4 (List.map aC x12) 1 1 true)],false⟩
def aH9 (x13:Int × aG × Bool × Int × Int):Ans:=.call ⟨true,[]⟩ (.tup [(.agg [(.int .i64 x13.1),(.sl 2 (List.map aA x13.2.1)),(.bool x13.2.2.1),(.int .i64 x13.2.2.2.1)]),(.int .i64 x13.2.2.2.2)]) []
def aEA (x15:aJ):Ans:=.call ⟨true,[]⟩ (.sl 3 (List.map aD x15)) []
def yN (x13:Int × aG × Bool × Int × aG × Int):Ans:=.call ⟨true,[]⟩ (.tup [(.agg [(.int .i64 x13.1),(.sl 2 (List.map aA x13.2.1)),(.bool x13.2.2.1),(.int .i64 x13.2.2.2.1)]),(.sl 2 (List.map aA x13.2.2.2.2.1)),(.int .i64 x13.2.2.2.2.2)]) []
def aHA (x6:Int) (x11:Ty6) (x13:Int × aG × Bool × Int × aG × Int):Ans:=.ents (bU .i64 (fun y=>AV.agg (aB y)) (cC x11 x6 (x13.1,x13.2.1,x13.2.2.1,x13.2.2.2.1))) (cC x11 x6 (x13.1,x13.2.1,x13.2.2.1,x13.2.2.2.1)).length
def aHV (x14:aG × Int):Ans:=.call ⟨true,[]⟩ (.tup [(.sl 2 (List.map aA x14.1)),(.int .i64 x14.2)]) []
theorem z8 (k:Nat) (x1:Int) (x2:aG) (x3:Bool) (x4:Int) (x5:Int) (x6:Int) (x7:Int) (x8:Int) (x9:aG) (x10:aJ) (x11:Ty6) (x12:aZ) (r:aG × aJ × Ty6 × Int) (h:kT k x1 x2 x3 x4 x5 x6 x7 x8 x9 x10 x11 x12=some r):Tri Try.prog 38 [(.hp 0 0),(.agg [(.int .i64 x1),(.sl 2 (List.map aA x2)),(.bool x3),(.int .i64 x4)]),(.agg [(.int .i64 x5),(.int .i64 x6),(.int .u8 x7),(.int .i64 x8)])] [(.row [(.sl 2 (List.map aA x9)),(.sl 3 (List.map aD x10)),(.mp 1),(.ref 4 2 1 0 x12.length .virt)]),(.map (bU .i64 (fun y=>AV.agg (aB y)) x11) x11.length),(.arr 4 (List.map aC x12) 1 1 true)] (.int .i64 r.2.2.2) [(.row [(.sl 2 (List.map aA r.1)),(.sl 3 (List.map aD r.2.1)),(.mp 1),(.ref 4 2 1 0 x12.length .virt)]),(.map (bU .i64 (fun y=>AV.agg (aB y)) r.2.2.1) r.2.2.1.length),(.arr 4 (List.map aC x12) 1 1 true)]:=by
 unfold kT at h
 by_cases c0:eqI x5 4=true
 · rw[if_pos c0] at h
   obtain⟨x13,e1,h⟩:=bsm h
   by_cases c2:eqI x13.2.2.2.2 0=true
   · rw[if_pos c2] at h
     obtain⟨x14,e3,h⟩:=bsm h
     by_cases c4:eqI x13.1 2=true
     · rw[if_pos c4] at h
       obtain⟨x15,e5,h⟩:=bsm h
       obtain rfl:=osi h
       exact Tri.of (x:=(zQ x9 x10 x11 x12)) aF jA [dt,(aH9 x13),df,.ents (bU .i64 (fun y=>AV.agg (aB y)) (cC x11 x6 (x13.1,x13.2.1,x13.2.2.1,x13.2.2.2.1))) (cC x11 x6 (x13.1,x13.2.1,x13.2.2.1,x13.2.2.2.1)).length,.call ⟨true,[[],[(0,2)]]⟩ (.tup [(.sl 2 (List.map aA x14.1)),(.int .i64 x14.2)]) [],df,df,df,df,dt,(aEA x15),.norm 0 ⟨[(6,[])],[],false,[],[]⟩] [⟨(k9 k x10 x6 _ e5)⟩,⟨c4⟩,⟨(nF c0)⟩,⟨(nF c0)⟩,⟨(nF c0)⟩,⟨(nF c0)⟩,⟨(hH k x9 [] _ e3)⟩,⟨(pR .i64 (fun y=>AV.agg (aB y)) x11 x6 (x13.1,x13.2.1,x13.2.2.1,x13.2.2.2.1))⟩,⟨(nF c2)⟩,⟨(oN k x1 x2 x3 x4 (!eqI x8 0) _ e1)⟩,⟨c0⟩] (by kernel_rfl)
     rw[if_neg c4] at h;replace c4:=eqf c4
     obtain rfl:=osi h
     exact Tri.of (x:=(zQ x9 x10 x11 x12)) aF jA [dt,(aH9 x13),df,.ents (bU .i64 (fun y=>AV.agg (aB y)) (cC x11 x6 (x13.1,x13.2.1,x13.2.2.1,x13.2.2.2.1))) (cC x11 x6 (x13.1,x13.2.1,x13.2.2.1,x13.2.2.2.1)).length,.call ⟨true,[[],[(0,2)]]⟩ (.tup [(.sl 2 (List.map aA x14.1)),(.int .i64 x14.2)]) [],df,df,df,df,df,.norm 0 ⟨[(6,[])],[],false,[],[]⟩] [⟨c4⟩,⟨(nF c0)⟩,⟨(nF c0)⟩,⟨(nF c0)⟩,⟨(nF c0)⟩,⟨(hH k x9 [] _ e3)⟩,⟨(pR .i64 (fun y=>AV.agg (aB y)) x11 x6 (x13.1,x13.2.1,x13.2.2.1,x13.2.2.2.1))⟩,⟨(nF c2)⟩,⟨(oN k x1 x2 x3 x4 (!eqI x8 0) _ e1)⟩,⟨c0⟩] (by kernel_rfl)
   rw[if_neg c2] at h;replace c2:=eqf c2
   obtain rfl:=osi h
   exact Tri.of (x:=(zQ x9 x10 x11 x12)) aF jA [dt,(aH9 x13),dt,.norm 0 ⟨[(6,[])],[],false,[],[]⟩] [⟨(nT c2)⟩,⟨(oN k x1 x2 x3 x4 (!eqI x8 0) _ e1)⟩,⟨c0⟩] (by kernel_rfl)
 rw[if_neg c0] at h;replace c0:=eqf c0
 by_cases c1:eqI x5 5=true
 · rw[if_pos c1] at h
   obtain⟨x13,e2,h⟩:=bsm h
   by_cases c3:eqI x13.2.2.2.2.2 0=true
   · rw[if_pos c3] at h
     obtain⟨x14,e4,h⟩:=bsm h
     obtain⟨x15,e5,h⟩:=bsm h
     obtain rfl:=osi h
     exact Tri.of (x:=(zQ x9 x10 x11 x12)) aF jA [df,dt,(yN x13),df,(aHA x6 x11 x13),(aHV x14),dt,dt,dt,dt,dt,(aEA x15),.norm 0 ⟨[(6,[])],[],false,[],[]⟩] [⟨(k9 k x10 x6 _ e5)⟩,⟨rT⟩,⟨(nT c0)⟩,⟨(nT c0)⟩,⟨(nT c0)⟩,⟨(nT c0)⟩,⟨(hH k x9 x13.2.2.2.2.1 _ e4)⟩,⟨(pR .i64 (fun y=>AV.agg (aB y)) x11 x6 (x13.1,x13.2.1,x13.2.2.1,x13.2.2.2.1))⟩,⟨(nF c3)⟩,⟨(sI k x1 x2 x3 x4 _ e2)⟩,⟨c1⟩,⟨c0⟩] (by kernel_rfl)
   rw[if_neg c3] at h;replace c3:=eqf c3
   obtain rfl:=osi h
   exact Tri.of (x:=(zQ x9 x10 x11 x12)) aF jA [df,dt,(yN x13),dt,.norm 0 ⟨[(6,[])],[],false,[],[]⟩] [⟨(nT c3)⟩,⟨(sI k x1 x2 x3 x4 _ e2)⟩,⟨c1⟩,⟨c0⟩] (by kernel_rfl)
 rw[if_neg c1] at h;replace c1:=eqf c1
 by_cases c2:eqI x8 1=true
 · rw[if_pos c2] at h
   obtain⟨x13,e3,h⟩:=bsm h
   by_cases c4:eqI x13.2.2.2.2.2 0=true
   · rw[if_pos c4] at h
     obtain⟨x14,e5,h⟩:=bsm h
     obtain⟨x15,e6,h⟩:=bsm h
     obtain rfl:=osi h
     exact Tri.of (x:=(zQ x9 x10 x11 x12)) aF jA [df,df,dt,dt,dt,dt,dt,(yN x13),df,(aHA x6 x11 x13),(aHV x14),dt,dt,dt,dt,dt,(aEA x15),.norm 0 ⟨[(6,[])],[],false,[],[]⟩] [⟨(k9 k x10 x6 _ e6)⟩,⟨rT⟩,⟨(nT c0)⟩,⟨(nT c0)⟩,⟨(nT c0)⟩,⟨(nT c0)⟩,⟨(hH k x9 x13.2.2.2.2.1 _ e5)⟩,⟨(pR .i64 (fun y=>AV.agg (aB y)) x11 x6 (x13.1,x13.2.1,x13.2.2.1,x13.2.2.2.1))⟩,⟨(nF c4)⟩,⟨(iZ k x1 x2 x3 x4 x8 _ e3)⟩,⟨rT⟩,⟨c2⟩,⟨c2⟩,⟨c2⟩,⟨c2⟩,⟨c1⟩,⟨c0⟩] (by kernel_rfl)
   rw[if_neg c4] at h;replace c4:=eqf c4
   obtain rfl:=osi h
   exact Tri.of (x:=(zQ x9 x10 x11 x12)) aF jA [df,df,dt,dt,dt,dt,dt,(yN x13),dt,.norm 0 ⟨[(6,[])],[],false,[],[]⟩] [⟨(nT c4)⟩,⟨(iZ k x1 x2 x3 x4 x8 _ e3)⟩,⟨rT⟩,⟨c2⟩,⟨c2⟩,⟨c2⟩,⟨c2⟩,⟨c1⟩,⟨c0⟩] (by kernel_rfl)
 rw[if_neg c2] at h;replace c2:=eqf c2
 by_cases c3:eqI x8 2=true
 · rw[if_pos c3] at h
   obtain⟨x13,e4,h⟩:=bsm h
   by_cases c5:eqI x13.2.2.2.2.2 0=true
   · rw[if_pos c5] at h
     obtain⟨x14,e6,h⟩:=bsm h
     obtain⟨x15,e7,h⟩:=bsm h
     obtain rfl:=osi h
     exact Tri.of (x:=(zQ x9 x10 x11 x12)) aF jA [df,df,df,df,df,df,dt,(yN x13),df,(aHA x6 x11 x13),(aHV x14),dt,dt,dt,dt,dt,(aEA x15),.norm 0 ⟨[(6,[])],[],false,[],[]⟩] [⟨(k9 k x10 x6 _ e7)⟩,⟨rT⟩,⟨(nT c0)⟩,⟨(nT c0)⟩,⟨(nT c0)⟩,⟨(nT c0)⟩,⟨(hH k x9 x13.2.2.2.2.1 _ e6)⟩,⟨(pR .i64 (fun y=>AV.agg (aB y)) x11 x6 (x13.1,x13.2.1,x13.2.2.1,x13.2.2.2.1))⟩,⟨(nF c5)⟩,⟨(iZ k x1 x2 x3 x4 x8 _ e4)⟩,⟨c3⟩,⟨c2⟩,⟨c2⟩,⟨c2⟩,⟨c2⟩,⟨c1⟩,⟨c0⟩] (by kernel_rfl)
   rw[if_neg c5] at h;replace c5:=eqf c5
   obtain rfl:=osi h
   exact Tri.of (x:=(zQ x9 x10 x11 x12)) aF jA [df,df,df,df,df,df,dt,(yN x13),dt,.norm 0 ⟨[(6,[])],[],false,[],[]⟩] [⟨(nT c5)⟩,⟨(iZ k x1 x2 x3 x4 x8 _ e4)⟩,⟨c3⟩,⟨c2⟩,⟨c2⟩,⟨c2⟩,⟨c2⟩,⟨c1⟩,⟨c0⟩] (by kernel_rfl)
 rw[if_neg c3] at h;replace c3:=eqf c3
 obtain rfl:=osi h
 exact Tri.of (x:=(zQ x9 x10 x11 x12)) aF jA [df,df,df,df,df,df,df,dt,.norm 0 ⟨[(6,[])],[],false,[],[]⟩] [⟨(nT (rfl:eqI 2 0=false))⟩,⟨c3⟩,⟨c2⟩,⟨c2⟩,⟨c2⟩,⟨c2⟩,⟨c1⟩,⟨c0⟩] (by kernel_rfl)
end Go.Ws

namespace Go.Ws
open Go.Proofs
set_option linter.unusedSimpArgs false
set_option linter.unusedVariables false
set_option maxRecDepth 1000000
set_option maxHeartbeats 4000000
noncomputable def X27_4 (x9:aG) (x10:aJ) (x11:Ty6) (x12:aZ):Ctx:=⟨Try.f27,[(.row [(.sl 2 (List.map aA x9)),(.sl 3 (List.map aD x10)),(.mp 1),(.ref 4 2 1 0 x12.length .virt)]),(.map (bU .i64 (fun y=>AV.agg (aB y)) x11) x11.length),(.arr 4 (List.map aC x12) 1 1 true)],false⟩
def aDZ:Ans:=.norm 0 ⟨[(6,[]),(7,[])],[],false,[],[]⟩
def aMY (x9:aG) (x12:aZ) (x13:aJ × Ty6 × Int × Int):Ans:=.call ⟨true,[]⟩ (.tup [(.int .i64 x13.2.2.2),(.int .i64 x13.2.2.1)]) [(.row [(.sl 2 (List.map aA x9)),(.sl 3 (List.map aD x13.1)),(.mp 1),(.ref 4 2 1 0 x12.length .virt)]),(.map (bU .i64 (fun y=>AV.agg (aB y)) x13.2.1) x13.2.1.length),(.arr 4 (List.map aC x12) 1 1 true)]
theorem lP (k:Nat) (x1:Int) (x2:aG) (x3:Bool) (x4:Int) (x5:Int) (x6:Int) (x7:Int) (x8:Int) (x9:aG) (x10:aJ) (x11:Ty6) (x12:aZ) (r:Int × Int × aJ × Ty6 × aG) (h:iR k x1 x2 x3 x4 x5 x6 x7 x8 x9 x10 x11 x12=some r):Tri Try.prog 27 [(.hp 0 0),(.agg [(.int .i64 x1),(.sl 2 (List.map aA x2)),(.bool x3),(.int .i64 x4)]),(.agg [(.int .i64 x5),(.int .i64 x6),(.int .u8 x7),(.int .i64 x8)])] [(.row [(.sl 2 (List.map aA x9)),(.sl 3 (List.map aD x10)),(.mp 1),(.ref 4 2 1 0 x12.length .virt)]),(.map (bU .i64 (fun y=>AV.agg (aB y)) x11) x11.length),(.arr 4 (List.map aC x12) 1 1 true)] (.tup [(.int .i64 r.1),(.int .i64 r.2.1)]) [(.row [(.sl 2 (List.map aA r.2.2.2.2)),(.sl 3 (List.map aD r.2.2.1)),(.mp 1),(.ref 4 2 1 0 x12.length .virt)]),(.map (bU .i64 (fun y=>AV.agg (aB y)) r.2.2.2.1) r.2.2.2.1.length),(.arr 4 (List.map aC x12) 1 1 true)]:=by
 unfold iR at h
 by_cases c0:eqI x5 1=true
 · rw[if_pos c0] at h
   obtain rfl:=osi h
   exact Tri.of (x:=(X27_4 x9 x10 x11 x12)) aF u7 [dt,.ents (bU .i64 (fun y=>AV.agg (aB y)) (cC x11 x6 (x1,x2,x3,x4))) (cC x11 x6 (x1,x2,x3,x4)).length,aDZ] [⟨(pR .i64 (fun y=>AV.agg (aB y)) x11 x6 (x1,x2,x3,x4))⟩,⟨c0⟩] (by kernel_rfl)
 rw[if_neg c0] at h;replace c0:=eqf c0
 by_cases c1:eqI x5 2=true
 · rw[if_pos c1] at h
   obtain⟨x13,e2,h⟩:=bsm h
   obtain rfl:=osi h
   exact Tri.of (x:=(X27_4 x9 x10 x11 x12)) aF u7 [df,dt,dt,(aMY x9 x12 x13),aDZ] [⟨(rI k x1 x2 x3 x4 x5 x6 x7 x8 x9 x10 x11 x12 _ e2)⟩,⟨c1⟩,⟨c1⟩,⟨c0⟩] (by kernel_rfl)
 rw[if_neg c1] at h;replace c1:=eqf c1
 by_cases c2:eqI x5 3=true
 · rw[if_pos c2] at h
   obtain⟨x13,e3,h⟩:=bsm h
   obtain rfl:=osi h
   exact Tri.of (x:=(X27_4 x9 x10 x11 x12)) aF u7 [df,df,dt,(aMY x9 x12 x13),aDZ] [⟨(rI k x1 x2 x3 x4 x5 x6 x7 x8 x9 x10 x11 x12 _ e3)⟩,⟨c2⟩,⟨c1⟩,⟨c0⟩] (by kernel_rfl)
 rw[if_neg c2] at h;replace c2:=eqf c2
 obtain⟨x13,e3,h⟩:=bsm h
 obtain rfl:=osi h
 exact Tri.of (x:=(X27_4 x9 x10 x11 x12)) aF u7 [df,df,df,.call ⟨true,[]⟩ (.int .i64 x13.2.2.2) [(.row [(.sl 2 (List.map aA x13.1)),(.sl 3 (List.map aD x13.2.1)),(.mp 1),(.ref 4 2 1 0 x12.length .virt)]),(.map (bU .i64 (fun y=>AV.agg (aB y)) x13.2.2.1) x13.2.2.1.length),(.arr 4 (List.map aC x12) 1 1 true)],aDZ] [⟨(z8 k x1 x2 x3 x4 x5 x6 x7 x8 x9 x10 x11 x12 _ e3)⟩,⟨c2⟩,⟨c1⟩,⟨c0⟩] (by kernel_rfl)
end Go.Ws
