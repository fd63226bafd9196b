/-
  Walks, merged.
  Conditions: none.
-/
import Derived.Test.YtojldadifhneeaaZPre
import Derived.Test.YtojldadifhneeaaZPure
import Derived.Test.YtojldadifhneeaaZIns67
import Derived.Test.YtojldadifhneeaaZDel74
import Derived.Test.YtojldadifhneeaaZIns73
import Derived.Test.YtojldadifhneeaaZOppI
set_option linter.unusedVariables false
set_option linter.unusedSimpArgs false
namespace Go.Ws
open Go.Proofs
set_option linter.unusedSimpArgs false
set_option linter.unusedVariables false
set_option maxRecDepth 1000000
set_option maxHeartbeats 4000000
noncomputable def X62_1001:Ctx:=⟨Try.f62,[],false⟩
theorem aBU (k:Nat) (x1:aN) (r:Unit) (h:kH k x1=some r):Tri Try.prog 62 [(.inl 3 (List.map aA x1))] [] (.ref 3 0 0 0 x1.length .virt) [(.arr 3 (List.map aA x1) 0 0 false)]:=by
 unfold kH at h
 by_cases c0:bJ (x1.length*24)=true
 · rw[if_pos c0] at h
   obtain rfl:=osi h
   exact Tri.of (x:=X62_1001) aK aSE [df,.n x1.length,.norm 0 ⟨[(2,[])],[⟨.tmp 2,[],some 3⟩],false,[],[]⟩,.n x1.length,.rows (List.map aA x1)] [⟨(bU aA (l:=x1) (n:=x1.length) rfl)⟩,⟨(rfl:x1.length=x1.length)⟩,⟨(zle x1.length)⟩,⟨c0⟩,⟨(aG aA x1)⟩,⟨rF⟩] (by kernel_rfl)
 rw[if_neg c0] at h;replace c0:=eqf c0
 cases h
end Go.Ws

namespace Go.Ws
open Go.Proofs
set_option linter.unusedSimpArgs false
set_option linter.unusedVariables false
set_option maxRecDepth 1000000
set_option maxHeartbeats 4000000
noncomputable def X62_1002:Ctx:=⟨Try.f62,[],false⟩
theorem aBH:Tri Try.prog 62 [.nils] [] (.ref 3 0 0 0 0 .virt) [(.arr 3 (List.map aA []) 0 0 false)]:=by
 obtain⟨r,h⟩:∃r,sP=r:=⟨_,rfl⟩
 try rw[h]
 unfold sP at h
 obtain rfl:=h
 exact Tri.of (x:=X62_1002) aK aSE [dt,.norm 0 ⟨[(2,[])],[⟨.tmp 2,[],some 3⟩],false,[],[]⟩,.n 0,.rows (List.map aA [])] [⟨(bU aA (l:=[]) (n:=0) rfl)⟩,⟨(rfl:0=0)⟩,⟨(zle 0)⟩,⟨rT⟩] (by kernel_rfl)
end Go.Ws

namespace Go.Ws
open Go.Proofs
set_option linter.unusedSimpArgs false
set_option linter.unusedVariables false
set_option maxRecDepth 1000000
set_option maxHeartbeats 4000000
theorem kM (k:Nat) (x1:aN) (r:Unit) (h:qB k x1=some r):Tri Try.prog 62 [(.sl 3 (List.map aA x1))] [] (.ref 3 0 0 0 x1.length .virt) [(.arr 3 (List.map aA x1) 0 0 false)]:=by
 refine Tri.slOf (aBU k x1 r h) fun h0=>?_
 have hx:x1=[]:=by simpa using h0
 subst hx
 exact aBH
end Go.Ws

namespace Go.Ws
open Go.Proofs
set_option linter.unusedSimpArgs false
set_option linter.unusedVariables false
set_option maxRecDepth 1000000
set_option maxHeartbeats 4000000
noncomputable def X64:Ctx:=⟨Try.f64,[],true⟩
theorem jQ (x1:Int) (x2:Int):Tri Try.prog 64 [(.int .i64 x1),(.int .u8 x2)] [] (.bool (jD x1 x2)) []:=by
 obtain⟨r,h⟩:∃r,jD x1 x2=r:=⟨_,rfl⟩
 try rw[h]
 unfold jD at h
 by_cases c0:ltI x2 64=true
 · rw[if_pos c0] at h
   by_cases c1:ltI x1 0=true
   · rw[if_pos c1] at h
     obtain rfl:=h
     exact Tri.of (x:=X64) aK aNZ [dt,dt,dt,df,df,df] [⟨(nF c1)⟩,⟨(nF c1)⟩,⟨(nF c1)⟩,⟨c0⟩,⟨c0⟩,⟨c0⟩] (by kernel_rfl)
   rw[if_neg c1] at h;replace c1:=eqf c1
   obtain rfl:=h
   exact Tri.of (x:=X64) aK aNZ [dt,dt,dt,dt,dt,dt] [⟨(nT c1)⟩,⟨(nT c1)⟩,⟨(nT c1)⟩,⟨c0⟩,⟨c0⟩,⟨c0⟩] (by kernel_rfl)
 rw[if_neg c0] at h;replace c0:=eqf c0
 obtain rfl:=h
 exact Tri.of (x:=X64) aK aNZ [df,df,df,df,df,df] [⟨rF⟩,⟨rF⟩,⟨rF⟩,⟨c0⟩,⟨c0⟩,⟨c0⟩] (by kernel_rfl)
end Go.Ws

namespace Go.Ws
open Go.Proofs
set_option linter.unusedSimpArgs false
set_option linter.unusedVariables false
set_option maxRecDepth 1000000
set_option maxHeartbeats 4000000
noncomputable def X95:Ctx:=⟨Try.f95,[],true⟩
theorem iN (x1:Int):Tri Try.prog 95 [(.int .u8 x1)] [] (.bool (jL x1)) []:=by
 obtain⟨r,h⟩:∃r,jL x1=r:=⟨_,rfl⟩
 try rw[h]
 unfold jL at h
 obtain rfl:=h
 exact Tri.of (x:=X95) aK facts95 [] [] (by kernel_rfl)
end Go.Ws

namespace Go.Ws
open Go.Proofs
set_option linter.unusedSimpArgs false
set_option linter.unusedVariables false
set_option maxRecDepth 1000000
set_option maxHeartbeats 4000000
noncomputable def X85:Ctx:=⟨Try.f85,[],true⟩
def aK6 (x1:Int):Ans:=.call ⟨true,[]⟩ (.bool (jL x1)) []
def aLK (x2:Int):Ans:=.call ⟨true,[]⟩ (.bool (jL x2)) []
theorem aB5 (x1:Int) (x2:Int):Tri Try.prog 85 [(.int .u8 x1),(.int .u8 x2)] [] (.int .i64 (bM x1 x2)) []:=by
 obtain⟨r,h⟩:∃r,bM x1 x2=r:=⟨_,rfl⟩
 try rw[h]
 unfold bM at h
 by_cases c0:(jL x1)=true
 · rw[if_pos c0] at h
   by_cases c1:(jL x2)=true
   · rw[if_pos c1] at h
     obtain rfl:=h
     exact Tri.of (x:=X85) aK aCJ [(aK6 x1),(aLK x2),dt,dt] [⟨c1⟩,⟨c0⟩,⟨(iN x2)⟩,⟨(iN x1)⟩] (by kernel_rfl)
   rw[if_neg c1] at h;replace c1:=eqf c1
   obtain rfl:=h
   exact Tri.of (x:=X85) aK aCJ [(aK6 x1),(aLK x2),dt,df] [⟨c1⟩,⟨c0⟩,⟨(iN x2)⟩,⟨(iN x1)⟩] (by kernel_rfl)
 rw[if_neg c0] at h;replace c0:=eqf c0
 by_cases c1:(jL x2)=true
 · rw[if_pos c1] at h
   obtain rfl:=h
   exact Tri.of (x:=X85) aK aCJ [(aK6 x1),(aLK x2),df,dt] [⟨c1⟩,⟨c0⟩,⟨(iN x2)⟩,⟨(iN x1)⟩] (by kernel_rfl)
 rw[if_neg c1] at h;replace c1:=eqf c1
 by_cases c2:ltI x1 x2=true
 · rw[if_pos c2] at h
   obtain rfl:=h
   exact Tri.of (x:=X85) aK aCJ [(aK6 x1),(aLK x2),df,df,dt] [⟨c2⟩,⟨c1⟩,⟨c0⟩,⟨(iN x2)⟩,⟨(iN x1)⟩] (by kernel_rfl)
 rw[if_neg c2] at h;replace c2:=eqf c2
 by_cases c3:ltI x2 x1=true
 · rw[if_pos c3] at h
   obtain rfl:=h
   exact Tri.of (x:=X85) aK aCJ [(aK6 x1),(aLK x2),df,df,df,dt] [⟨c3⟩,⟨c2⟩,⟨c1⟩,⟨c0⟩,⟨(iN x2)⟩,⟨(iN x1)⟩] (by kernel_rfl)
 rw[if_neg c3] at h;replace c3:=eqf c3
 obtain rfl:=h
 exact Tri.of (x:=X85) aK aCJ [(aK6 x1),(aLK x2),df,df,df,df] [⟨c3⟩,⟨c2⟩,⟨c1⟩,⟨c0⟩,⟨(iN x2)⟩,⟨(iN x1)⟩] (by kernel_rfl)
end Go.Ws

namespace Go.Ws
open Go.Proofs
set_option linter.unusedSimpArgs false
set_option linter.unusedVariables false
set_option maxRecDepth 1000000
set_option maxHeartbeats 4000000
noncomputable def X96:Ctx:=⟨Try.f96,[],true⟩
theorem fB (x1:Int):Tri Try.prog 96 [(.int .i64 x1)] [] (.bool (gG x1)) []:=by
 obtain⟨r,h⟩:∃r,gG x1=r:=⟨_,rfl⟩
 try rw[h]
 unfold gG at h
 obtain rfl:=h
 exact Tri.of (x:=X96) aK facts96 [] [] (by kernel_rfl)
end Go.Ws

namespace Go.Ws
open Go.Proofs
set_option linter.unusedSimpArgs false
set_option linter.unusedVariables false
set_option maxRecDepth 1000000
set_option maxHeartbeats 4000000
noncomputable def X86:Ctx:=⟨Try.f86,[],true⟩
def aKU (x1:Int):Ans:=.call ⟨true,[]⟩ (.bool (gG x1)) []
def aLJ (x2:Int):Ans:=.call ⟨true,[]⟩ (.bool (gG x2)) []
theorem aFC (x1:Int) (x2:Int):Tri Try.prog 86 [(.int .i64 x1),(.int .i64 x2)] [] (.int .i64 (eC x1 x2)) []:=by
 obtain⟨r,h⟩:∃r,eC x1 x2=r:=⟨_,rfl⟩
 try rw[h]
 unfold eC at h
 by_cases c0:(gG x1)=true
 · rw[if_pos c0] at h
   by_cases c1:(gG x2)=true
   · rw[if_pos c1] at h
     obtain rfl:=h
     exact Tri.of (x:=X86) aK aCU [(aKU x1),(aLJ x2),dt,dt] [⟨c1⟩,⟨c0⟩,⟨(fB x2)⟩,⟨(fB x1)⟩] (by kernel_rfl)
   rw[if_neg c1] at h;replace c1:=eqf c1
   obtain rfl:=h
   exact Tri.of (x:=X86) aK aCU [(aKU x1),(aLJ x2),dt,df] [⟨c1⟩,⟨c0⟩,⟨(fB x2)⟩,⟨(fB x1)⟩] (by kernel_rfl)
 rw[if_neg c0] at h;replace c0:=eqf c0
 by_cases c1:(gG x2)=true
 · rw[if_pos c1] at h
   obtain rfl:=h
   exact Tri.of (x:=X86) aK aCU [(aKU x1),(aLJ x2),df,dt] [⟨c1⟩,⟨c0⟩,⟨(fB x2)⟩,⟨(fB x1)⟩] (by kernel_rfl)
 rw[if_neg c1] at h;replace c1:=eqf c1
 by_cases c2:ltI x1 x2=true
 · rw[if_pos c2] at h
   obtain rfl:=h
   exact Tri.of (x:=X86) aK aCU [(aKU x1),(aLJ x2),df,df,dt] [⟨c2⟩,⟨c1⟩,⟨c0⟩,⟨(fB x2)⟩,⟨(fB x1)⟩] (by kernel_rfl)
 rw[if_neg c2] at h;replace c2:=eqf c2
 by_cases c3:ltI x2 x1=true
 · rw[if_pos c3] at h
   obtain rfl:=h
   exact Tri.of (x:=X86) aK aCU [(aKU x1),(aLJ x2),df,df,df,dt] [⟨c3⟩,⟨c2⟩,⟨c1⟩,⟨c0⟩,⟨(fB x2)⟩,⟨(fB x1)⟩] (by kernel_rfl)
 rw[if_neg c3] at h;replace c3:=eqf c3
 obtain rfl:=h
 exact Tri.of (x:=X86) aK aCU [(aKU x1),(aLJ x2),df,df,df,df] [⟨c3⟩,⟨c2⟩,⟨c1⟩,⟨c0⟩,⟨(fB x2)⟩,⟨(fB x1)⟩] (by kernel_rfl)
end Go.Ws

namespace Go.Ws
open Go.Proofs
set_option linter.unusedSimpArgs false
set_option linter.unusedVariables false
set_option maxRecDepth 1000000
set_option maxHeartbeats 4000000
noncomputable def X84:Ctx:=⟨Try.f84,[],true⟩
noncomputable def L84_0:Code:=at_ Try.f84 [1,1,0,1,4,5]
def S84_0 (x1:List Int) (dV:Int):St:=⟨mkT 18 [(3,(.int .i64 0)),(6,(.sl 1 (List.map rY x1))),(7,(.int .i64 (nI x1.length))),(8,(.int .i64 dV))],[]⟩
def aNU:St:=⟨mkT 18 [(3,(.int .i64 0))],[]⟩
def O84_0 (x1:List Int) (y:(Sum (Unit) (Int))):GX:=match y with
 | .inl y=>.st (.exit 0) (aNU)
 | .inr y=>.fin (.int .i64 y) []
theorem aAZ (x1:List Int) (y:(Sum (Unit) (Int))):∀(k:Nat) (dV:Int),mB k x1 dV=some y→LT Try.prog X84 L84_0 (S84_0 x1 dV) (O84_0 x1 y)
 | 0,dV,h=>by cases h
 | k+1,dV,h=>by
  rw[mB] at h
  by_cases cL0:ltI dV (nI x1.length)=true
  · rw[if_pos cL0] at h
    by_cases cL1:inI dV x1.length=true
    · rw[if_pos cL1] at h
      obtain⟨rB,eL2,h⟩:=bsm h
      by_cases cL3:eqI rB 0=true
      · rw[if_pos cL3] at h
        exact LT.next aK (hs:=⟨[(3,[]),(6,[]),(7,[]),(8,[])],[],false,[],[]⟩) (es:=none) [dt,.n x1.length,.row [(.int .i64 rB)],df] [⟨(nF cL3)⟩,⟨(aI (e:=rY) eL2 1 0 1 (by decide))⟩,⟨cL1⟩,⟨(aG rY x1)⟩,⟨cL0⟩] (by kernel_rfl) (aAZ x1 y k (aO .i64 dV 1) h)
      rw[if_neg cL3] at h;replace cL3:=eqf cL3
      obtain rfl:=osi h
      show LT _ _ _ _ (.fin (.int .i64 rB) [])
      exact LT.done aK (hs:=⟨[],[],false,[],[]⟩) (es:=none) [dt,.n x1.length,.row [(.int .i64 rB)],dt] [⟨(nT cL3)⟩,⟨(aI (e:=rY) eL2 1 0 1 (by decide))⟩,⟨cL1⟩,⟨(aG rY x1)⟩,⟨cL0⟩] (by kernel_rfl) (fun s h=>by cases h)
    rw[if_neg cL1] at h;replace cL1:=eqf cL1
    cases h
  rw[if_neg cL0] at h;replace cL0:=eqf cL0
  obtain rfl:=osi h
  show LT _ _ _ _ (.st (.exit 0) (aNU))
  exact LT.done aK (hs:=⟨[],[],false,[],[]⟩) (es:=(some ⟨[(3,[])],[],false,[],[]⟩)) [df] [⟨cL0⟩] (by kernel_rfl) (fun s h=>by cases h)
theorem aSY (k:Nat) (x1:List Int) (r:Int) (h:aGM k x1=some r):Tri Try.prog 84 [(.sl 1 (List.map rY x1))] [] (.int .i64 r) []:=by
 unfold aGM at h
 obtain⟨x2,e0,h⟩:=bsm h
 cases x2 with
 | inl x3 =>
  simp only[Sum.elim_inl] at h
  obtain rfl:=osi h
  exact Tri.of (x:=X84) aK aR3 [.n x1.length,.norm 2 ⟨[(3,[]),(6,[]),(7,[]),(8,[])],[],false,[],[]⟩,.out (.st .normal (aNU))] [⟨(LT.block (aAZ x1 _ k 0 e0))⟩,⟨(aG rY x1)⟩] (by kernel_rfl)
 | inr x3 =>
  simp only[Sum.elim_inr] at h
  obtain rfl:=osi h
  exact Tri.of (x:=X84) aK aR3 [.n x1.length,.norm 2 ⟨[(3,[]),(6,[]),(7,[]),(8,[])],[],false,[],[]⟩,.out (.fin (.int .i64 x3) [])] [⟨(LT.blockFin (id:=0) (aAZ x1 _ k 0 e0))⟩,⟨(aG rY x1)⟩] (by kernel_rfl)
end Go.Ws

namespace Go.Ws
open Go.Proofs
set_option linter.unusedSimpArgs false
set_option linter.unusedVariables false
set_option maxRecDepth 1000000
set_option maxHeartbeats 4000000
noncomputable def X66:Ctx:=⟨Try.f66,[],true⟩
theorem lC (k:Nat) (x1:Int) (x2:Int) (x3:Bool) (x4:Int) (x5:Int) (x6:Bool) (r:Int) (h:pU k x1 x2 x3 x4 x5 x6=some r):Tri Try.prog 66 [(.agg [(.int .u8 x1),(.int .i64 x2),(.bool x3)]),(.agg [(.int .u8 x4),(.int .i64 x5),(.bool x6)])] [] (.int .i64 r) []:=by
 unfold pU at h
 obtain⟨x7,e0,h⟩:=bsm h
 obtain rfl:=osi h
 exact Tri.of (x:=X66) aK facts66 [.call ⟨true,[]⟩ (.int .i64 (bM x1 x4)) [],.call ⟨true,[]⟩ (.int .i64 (eC x2 x5)) [],.call ⟨true,[]⟩ (.int .i64 x7) [],.rows (List.map rY [(bM x1 x4),(eC x2 x5)])] [⟨(aSY k [(bM x1 x4),(eC x2 x5)] _ e0)⟩,⟨(aS rY (l:=[(bM x1 x4),(eC x2 x5)]) (n:=2) rfl)⟩,⟨(bB rY (Nat.le_refl 2):0+2≤(List.map rY [(bM x1 x4),(eC x2 x5)]).length)⟩,⟨(aFC x2 x5)⟩,⟨(aB5 x1 x4)⟩] (by kernel_rfl)
end Go.Ws

namespace Go.Ws
open Go.Proofs
set_option linter.unusedSimpArgs false
set_option linter.unusedVariables false
set_option maxRecDepth 1000000
set_option maxHeartbeats 4000000
noncomputable def X63:Ctx:=⟨Try.f63,[],true⟩
noncomputable def L63_0:Code:=at_ Try.f63 [1,0,1,4,5]
def S63_0 (x1:aN) (bW:Int):St:=⟨mkT 46 [(0,(.sl 3 (List.map aA x1))),(6,(.sl 3 (List.map aA x1))),(7,(.int .i64 (nI x1.length))),(8,(.int .i64 bW))],[]⟩
def aNQ:St:=⟨mkT 46 [],[]⟩
def O63_0 (x1:aN) (y:lZ):GX:=match y with
 | .inl y=>.st (.exit 0) (aNQ)
 | .inr y=>.fin (.bool y) []
def aI5 (aZ:Int × Int × Bool):Ans:=.row [(.int .u8 aZ.1),(.int .i64 aZ.2.1),(.bool aZ.2.2)]
def aI3 (aZ:Int × Int × Bool):Ans:=.call ⟨true,[]⟩ (.bool (jD aZ.2.1 aZ.1)) []
def aPD (cQ:Int × Int × Bool):Ans:=.row [(.int .u8 cQ.1),(.int .i64 cQ.2.1),(.bool cQ.2.2)]
def aO7 (oO:Int):Ans:=.call ⟨true,[]⟩ (.int .i64 oO) []
theorem nK (x1:aN) (y:lZ):∀(k:Nat) (bW:Int),fN k x1 bW=some y→LT Try.prog X63 L63_0 (S63_0 x1 bW) (O63_0 x1 y)
 | 0,bW,h=>by cases h
 | k+1,bW,h=>by
  rw[fN] at h
  by_cases cL0:ltI bW (nI x1.length)=true
  · rw[if_pos cL0] at h
    by_cases cL1:inI bW x1.length=true
    · rw[if_pos cL1] at h
      obtain⟨aZ,eL2,h⟩:=bsm h
      by_cases cL3:(jD aZ.2.1 aZ.1)=true
      · rw[if_pos cL3] at h
        by_cases cL4:eqI bW 0=true
        · rw[if_pos cL4] at h
          exact LT.next aK (hs:=⟨[(0,[]),(6,[]),(7,[]),(8,[])],[],false,[],[]⟩) (es:=none) [dt,.n x1.length,(aI5 aZ),(aI3 aZ),df,dt] [⟨cL4⟩,⟨(nF cL3)⟩,⟨(jQ aZ.2.1 aZ.1)⟩,⟨(aI (e:=aA) eL2 3 0 3 (by decide))⟩,⟨cL1⟩,⟨(aG aA x1)⟩,⟨cL0⟩] (by kernel_rfl) (nK x1 y k (aO .i64 bW 1) h)
        rw[if_neg cL4] at h;replace cL4:=eqf cL4
        by_cases cL5:inI (o6 .i64 bW 1) x1.length=true
        · rw[if_pos cL5] at h
          obtain⟨cQ,eL6,h⟩:=bsm h
          obtain⟨oO,eL7,h⟩:=bsm h
          by_cases cL8:ltI oO 0=true
          · rw[if_pos cL8] at h
            by_cases cL9:eqI cQ.1 aZ.1=true
            · rw[if_pos cL9] at h
              by_cases cL10:cQ.2.2=true
              · rw[if_pos cL10] at h
                obtain rfl:=osi h
                show LT _ _ _ _ (.fin (.bool false) [])
                exact LT.done aK (hs:=⟨[],[],false,[],[]⟩) (es:=none) [dt,.n x1.length,(aI5 aZ),(aI3 aZ),df,df,.n x1.length,(aPD cQ),(aO7 oO),df,df,df,df,df,df,dt,dt,dt,dt,dt,dt,dt,df,dt,df,dt] [⟨rT⟩,⟨(nF cL8)⟩,⟨cL9⟩,⟨(nF cL8)⟩,⟨cL10⟩,⟨cL9⟩,⟨cL10⟩,⟨cL10⟩,⟨cL9⟩,⟨cL9⟩,⟨cL9⟩,⟨(nF cL8)⟩,⟨(nF cL8)⟩,⟨(nF cL8)⟩,⟨(nF cL8)⟩,⟨(nF cL8)⟩,⟨(nF cL8)⟩,⟨(lC k cQ.1 cQ.2.1 cQ.2.2 aZ.1 aZ.2.1 aZ.2.2 _ eL7)⟩,⟨(aI (e:=aA) eL6 3 0 3 (by decide))⟩,⟨cL5⟩,⟨(aG aA x1)⟩,⟨cL4⟩,⟨(nF cL3)⟩,⟨(jQ aZ.2.1 aZ.1)⟩,⟨(aI (e:=aA) eL2 3 0 3 (by decide))⟩,⟨cL1⟩,⟨(aG aA x1)⟩,⟨cL0⟩] (by kernel_rfl) (fun s h=>by cases h)
              rw[if_neg cL10] at h;replace cL10:=eqf cL10
              by_cases cL11:aZ.2.2=true
              · rw[if_pos cL11] at h
                obtain rfl:=osi h
                show LT _ _ _ _ (.fin (.bool false) [])
                exact LT.done aK (hs:=⟨[],[],false,[],[]⟩) (es:=none) [dt,.n x1.length,(aI5 aZ),(aI3 aZ),df,df,.n x1.length,(aPD cQ),(aO7 oO),df,df,df,df,df,df,dt,dt,dt,df,df,dt,df,df,dt,df,dt] [⟨cL11⟩,⟨(nF cL8)⟩,⟨cL9⟩,⟨(nF cL8)⟩,⟨cL10⟩,⟨cL9⟩,⟨cL10⟩,⟨cL10⟩,⟨cL9⟩,⟨cL9⟩,⟨cL9⟩,⟨(nF cL8)⟩,⟨(nF cL8)⟩,⟨(nF cL8)⟩,⟨(nF cL8)⟩,⟨(nF cL8)⟩,⟨(nF cL8)⟩,⟨(lC k cQ.1 cQ.2.1 cQ.2.2 aZ.1 aZ.2.1 aZ.2.2 _ eL7)⟩,⟨(aI (e:=aA) eL6 3 0 3 (by decide))⟩,⟨cL5⟩,⟨(aG aA x1)⟩,⟨cL4⟩,⟨(nF cL3)⟩,⟨(jQ aZ.2.1 aZ.1)⟩,⟨(aI (e:=aA) eL2 3 0 3 (by decide))⟩,⟨cL1⟩,⟨(aG aA x1)⟩,⟨cL0⟩] (by kernel_rfl) (fun s h=>by cases h)
              rw[if_neg cL11] at h;replace cL11:=eqf cL11
              exact LT.next aK (hs:=⟨[(0,[]),(6,[]),(7,[]),(8,[])],[],false,[],[]⟩) (es:=none) [dt,.n x1.length,(aI5 aZ),(aI3 aZ),df,df,.n x1.length,(aPD cQ),(aO7 oO),df,df,df,df,df,df,dt,dt,dt,df,df,dt,df,df,dt,df,df] [⟨cL11⟩,⟨(nF cL8)⟩,⟨cL9⟩,⟨(nF cL8)⟩,⟨cL10⟩,⟨cL9⟩,⟨cL10⟩,⟨cL10⟩,⟨cL9⟩,⟨cL9⟩,⟨cL9⟩,⟨(nF cL8)⟩,⟨(nF cL8)⟩,⟨(nF cL8)⟩,⟨(nF cL8)⟩,⟨(nF cL8)⟩,⟨(nF cL8)⟩,⟨(lC k cQ.1 cQ.2.1 cQ.2.2 aZ.1 aZ.2.1 aZ.2.2 _ eL7)⟩,⟨(aI (e:=aA) eL6 3 0 3 (by decide))⟩,⟨cL5⟩,⟨(aG aA x1)⟩,⟨cL4⟩,⟨(nF cL3)⟩,⟨(jQ aZ.2.1 aZ.1)⟩,⟨(aI (e:=aA) eL2 3 0 3 (by decide))⟩,⟨cL1⟩,⟨(aG aA x1)⟩,⟨cL0⟩] (by kernel_rfl) (nK x1 y k (aO .i64 bW 1) h)
            rw[if_neg cL9] at h;replace cL9:=eqf cL9
            exact LT.next aK (hs:=⟨[(0,[]),(6,[]),(7,[]),(8,[])],[],false,[],[]⟩) (es:=none) [dt,.n x1.length,(aI5 aZ),(aI3 aZ),df,df,.n x1.length,(aPD cQ),(aO7 oO),df,df,df,df,df,df,df,df,df,df,df,df,df,df] [⟨rF⟩,⟨(nF cL8)⟩,⟨cL9⟩,⟨(nF cL8)⟩,⟨cL9⟩,⟨cL9⟩,⟨cL9⟩,⟨cL9⟩,⟨(nF cL8)⟩,⟨(nF cL8)⟩,⟨(nF cL8)⟩,⟨(nF cL8)⟩,⟨(nF cL8)⟩,⟨(nF cL8)⟩,⟨(lC k cQ.1 cQ.2.1 cQ.2.2 aZ.1 aZ.2.1 aZ.2.2 _ eL7)⟩,⟨(aI (e:=aA) eL6 3 0 3 (by decide))⟩,⟨cL5⟩,⟨(aG aA x1)⟩,⟨cL4⟩,⟨(nF cL3)⟩,⟨(jQ aZ.2.1 aZ.1)⟩,⟨(aI (e:=aA) eL2 3 0 3 (by decide))⟩,⟨cL1⟩,⟨(aG aA x1)⟩,⟨cL0⟩] (by kernel_rfl) (nK x1 y k (aO .i64 bW 1) h)
          rw[if_neg cL8] at h;replace cL8:=eqf cL8
          obtain rfl:=osi h
          show LT _ _ _ _ (.fin (.bool false) [])
          exact LT.done aK (hs:=⟨[],[],false,[],[]⟩) (es:=none) [dt,.n x1.length,(aI5 aZ),(aI3 aZ),df,df,.n x1.length,(aPD cQ),(aO7 oO),dt,dt,dt,dt,dt,dt,dt,dt,dt] [⟨rT⟩,⟨(nT cL8)⟩,⟨(nT cL8)⟩,⟨(nT cL8)⟩,⟨(nT cL8)⟩,⟨(nT cL8)⟩,⟨(nT cL8)⟩,⟨(nT cL8)⟩,⟨(nT cL8)⟩,⟨(lC k cQ.1 cQ.2.1 cQ.2.2 aZ.1 aZ.2.1 aZ.2.2 _ eL7)⟩,⟨(aI (e:=aA) eL6 3 0 3 (by decide))⟩,⟨cL5⟩,⟨(aG aA x1)⟩,⟨cL4⟩,⟨(nF cL3)⟩,⟨(jQ aZ.2.1 aZ.1)⟩,⟨(aI (e:=aA) eL2 3 0 3 (by decide))⟩,⟨cL1⟩,⟨(aG aA x1)⟩,⟨cL0⟩] (by kernel_rfl) (fun s h=>by cases h)
        rw[if_neg cL5] at h;replace cL5:=eqf cL5
        cases h
      rw[if_neg cL3] at h;replace cL3:=eqf cL3
      obtain rfl:=osi h
      show LT _ _ _ _ (.fin (.bool false) [])
      exact LT.done aK (hs:=⟨[],[],false,[],[]⟩) (es:=none) [dt,.n x1.length,(aI5 aZ),(aI3 aZ),dt] [⟨(nT cL3)⟩,⟨(jQ aZ.2.1 aZ.1)⟩,⟨(aI (e:=aA) eL2 3 0 3 (by decide))⟩,⟨cL1⟩,⟨(aG aA x1)⟩,⟨cL0⟩] (by kernel_rfl) (fun s h=>by cases h)
    rw[if_neg cL1] at h;replace cL1:=eqf cL1
    cases h
  rw[if_neg cL0] at h;replace cL0:=eqf cL0
  obtain rfl:=osi h
  show LT _ _ _ _ (.st (.exit 0) (aNQ))
  exact LT.done aK (hs:=⟨[],[],false,[],[]⟩) (es:=(some ⟨[],[],false,[],[]⟩)) [df] [⟨cL0⟩] (by kernel_rfl) (fun s h=>by cases h)
theorem oT (k:Nat) (x1:aN) (r:Bool) (h:t4 k x1=some r):Tri Try.prog 63 [(.sl 3 (List.map aA x1))] [] (.bool r) []:=by
 unfold t4 at h
 obtain⟨x2,e0,h⟩:=bsm h
 cases x2 with
 | inl x3 =>
  simp only[Sum.elim_inl] at h
  obtain rfl:=osi h
  exact Tri.of (x:=X63) aK aSJ [.n x1.length,.norm 2 ⟨[(0,[]),(6,[]),(7,[]),(8,[])],[],false,[],[]⟩,.out (.st .normal (aNQ))] [⟨(LT.block (nK x1 _ k 0 e0))⟩,⟨(aG aA x1)⟩] (by kernel_rfl)
 | inr x3 =>
  simp only[Sum.elim_inr] at h
  obtain rfl:=osi h
  exact Tri.of (x:=X63) aK aSJ [.n x1.length,.norm 2 ⟨[(0,[]),(6,[]),(7,[]),(8,[])],[],false,[],[]⟩,.out (.fin (.bool x3) [])] [⟨(LT.blockFin (id:=0) (nK x1 _ k 0 e0))⟩,⟨(aG aA x1)⟩] (by kernel_rfl)
end Go.Ws

namespace Go.Ws
open Go.Proofs
set_option linter.unusedSimpArgs false
set_option linter.unusedVariables false
set_option maxRecDepth 1000000
set_option maxHeartbeats 4000000
noncomputable def X65:Ctx:=⟨Try.f65,[],true⟩
noncomputable def L65_0:Code:=at_ Try.f65 [1,1,1,0,4,5]
def S65_0 (x1:aN) (x2:Int) (x3:Int) (x4:Bool) (cG:Int) (cR:Int):St:=⟨mkT 49 [(0,(.sl 3 (List.map aA x1))),(2,(.fn 66 [])),(4,(.hp 0 0)),(8,(.int .i64 (nI x1.length))),(9,(.int .i64 cG)),(10,(.int .i64 cR))],[(.row [(.int .u8 x2),(.int .i64 x3),(.bool x4)])]⟩
def aIE (x1:aN) (x2:Int) (x3:Int) (x4:Bool) (v65002_1:Int):St:=⟨mkT 49 [(0,(.sl 3 (List.map aA x1))),(2,(.fn 66 [])),(4,(.hp 0 0)),(8,(.int .i64 (nI x1.length))),(9,(.int .i64 v65002_1))],[(.row [(.int .u8 x2),(.int .i64 x3),(.bool x4)])]⟩
def O65_0 (x1:aN) (x2:Int) (x3:Int) (x4:Bool) (y:(Int)):GX:=.st (.exit 0) (aIE x1 x2 x3 x4 y)
def A65_0:Ans:=.norm 2 ⟨[(0,[]),(2,[]),(4,[]),(8,[]),(9,[]),(10,[])],[⟨.tmp 4,[],none⟩],false,[],[]⟩
theorem iF (x1:aN) (x2:Int) (x3:Int) (x4:Bool) (y:(Int)):∀(k:Nat) (cG:Int) (cR:Int),bG k x1 x2 x3 x4 cG cR=some y→LT Try.prog X65 L65_0 (S65_0 x1 x2 x3 x4 cG cR) (O65_0 x1 x2 x3 x4 y)
 | 0,cG,cR,h=>by cases h
 | k+1,cG,cR,h=>by
  rw[bG] at h
  by_cases cL0:ltI cG cR=true
  · rw[if_pos cL0] at h
    by_cases cL1:inI (conv .i64 (uT .u64 (conv .u64 (aO .i64 cG cR)) 1)) x1.length=true
    · rw[if_pos cL1] at h
      obtain⟨i7,eL2,h⟩:=bsm h
      obtain⟨xP,eL3,h⟩:=bsm h
      by_cases cL4:ltI xP 0=true
      · rw[if_pos cL4] at h
        exact LT.next aK (hs:=⟨[(0,[]),(2,[]),(4,[]),(8,[]),(9,[]),(10,[])],[⟨.tmp 4,[],none⟩],false,[],[]⟩) (es:=none) [dt,.n x1.length,.row [(.int .u8 i7.1),(.int .i64 i7.2.1),(.bool i7.2.2)],.call ⟨true,[]⟩ (.int .i64 xP) [],dt] [⟨cL4⟩,⟨(lC k i7.1 i7.2.1 i7.2.2 x2 x3 x4 _ eL3)⟩,⟨(aI (e:=aA) eL2 3 0 3 (by decide))⟩,⟨cL1⟩,⟨(aG aA x1)⟩,⟨cL0⟩] (by kernel_rfl) (iF x1 x2 x3 x4 y k (aO .i64 (conv .i64 (uT .u64 (conv .u64 (aO .i64 cG cR)) 1)) 1) cR h)
      rw[if_neg cL4] at h;replace cL4:=eqf cL4
      exact LT.next aK (hs:=⟨[(0,[]),(2,[]),(4,[]),(8,[]),(9,[]),(10,[])],[⟨.tmp 4,[],none⟩],false,[],[]⟩) (es:=none) [dt,.n x1.length,.row [(.int .u8 i7.1),(.int .i64 i7.2.1),(.bool i7.2.2)],.call ⟨true,[]⟩ (.int .i64 xP) [],df] [⟨cL4⟩,⟨(lC k i7.1 i7.2.1 i7.2.2 x2 x3 x4 _ eL3)⟩,⟨(aI (e:=aA) eL2 3 0 3 (by decide))⟩,⟨cL1⟩,⟨(aG aA x1)⟩,⟨cL0⟩] (by kernel_rfl) (iF x1 x2 x3 x4 y k cG (conv .i64 (uT .u64 (conv .u64 (aO .i64 cG cR)) 1)) h)
    rw[if_neg cL1] at h;replace cL1:=eqf cL1
    cases h
  rw[if_neg cL0] at h;replace cL0:=eqf cL0
  obtain rfl:=osi h
  show LT _ _ _ _ (.st (.exit 0) (aIE x1 x2 x3 x4 cG))
  exact LT.done aK (hs:=⟨[],[],false,[],[]⟩) (es:=(some ⟨[(0,[]),(2,[]),(4,[]),(8,[]),(9,[])],[⟨.tmp 4,[],none⟩],false,[],[]⟩)) [df] [⟨cL0⟩] (by kernel_rfl) (fun s h=>by cases h)
theorem lI (k:Nat) (x1:aN) (x2:Int) (x3:Int) (x4:Bool) (r:Int × Bool) (h:gO k x1 x2 x3 x4=some r):Tri Try.prog 65 [(.sl 3 (List.map aA x1)),(.agg [(.int .u8 x2),(.int .i64 x3),(.bool x4)]),(.fn 66 [])] [] (.tup [(.int .i64 r.1),(.bool r.2)]) []:=by
 unfold gO at h
 obtain⟨x6,e0,h⟩:=bsm h
 by_cases c2:ltI x6 (nI x1.length)=true
 · rw[if_pos c2] at h
   by_cases c3:inI x6 x1.length=true
   · rw[if_pos c3] at h
     obtain⟨x7,e4,h⟩:=bsm h
     obtain⟨x8,e5,h⟩:=bsm h
     obtain rfl:=osi h
     exact Tri.of (x:=X65) aK aRB [.n x1.length,A65_0,.out (.st .normal (aIE x1 x2 x3 x4 x6)),dt,dt,dt,dt,.n x1.length,dt,.row [(.int .u8 x7.1),(.int .i64 x7.2.1),(.bool x7.2.2)],dt,dt,.call ⟨true,[]⟩ (.int .i64 x8) [],dt,dt] [⟨c2⟩,⟨c2⟩,⟨(lC k x7.1 x7.2.1 x7.2.2 x2 x3 x4 _ e5)⟩,⟨c2⟩,⟨c2⟩,⟨(aI (e:=aA) e4 3 0 3 (by decide))⟩,⟨c2⟩,⟨c3⟩,⟨(aG aA x1)⟩,⟨c2⟩,⟨c2⟩,⟨c2⟩,⟨c2⟩,⟨(LT.block (iF x1 x2 x3 x4 _ k 0 (nI x1.length) e0))⟩,⟨(aG aA x1)⟩] (by kernel_rfl)
   rw[if_neg c3] at h;replace c3:=eqf c3
   cases h
 rw[if_neg c2] at h;replace c2:=eqf c2
 obtain rfl:=osi h
 exact Tri.of (x:=X65) aK aRB [.n x1.length,A65_0,.out (.st .normal (aIE x1 x2 x3 x4 x6)),df,df,df,df,df,df,df,df,df] [⟨c2⟩,⟨c2⟩,⟨c2⟩,⟨c2⟩,⟨c2⟩,⟨c2⟩,⟨c2⟩,⟨c2⟩,⟨c2⟩,⟨(LT.block (iF x1 x2 x3 x4 _ k 0 (nI x1.length) e0))⟩,⟨(aG aA x1)⟩] (by kernel_rfl)
end Go.Ws

namespace Go.Ws
open Go.Proofs
set_option linter.unusedSimpArgs false
set_option linter.unusedVariables false
set_option maxRecDepth 1000000
set_option maxHeartbeats 4000000
theorem aGL (k:Nat) (x1:Int) (x2:aN) (x3:aN) (r:aN) (h:qT k x1 x2 x3=some r):Tri Try.prog 67 [(.ref 3 0 0 0 x2.length .virt),(.int .i64 x1),(.ref 3 1 0 0 x3.length .full)] [(.arr 3 (List.map aA x2) 0 0 false),(.arr 3 (List.map aA x3) 0 0 false)] (.ref 3 0 1 0 r.length .full) [(.arr 3 (List.map aA r) 1 1 false),(.arr 3 (List.map aA x3) 0 0 false)]:=ins_ok67 _ h rfl
end Go.Ws

namespace Go.Ws
open Go.Proofs
set_option linter.unusedSimpArgs false
set_option linter.unusedVariables false
set_option maxRecDepth 1000000
set_option maxHeartbeats 4000000
noncomputable def X46:Ctx:=⟨Try.f46,[],true⟩
noncomputable def L46_0:Code:=at_ Try.f46 [1,1,1,0,1,4,5]
def S46_0 (x1:aN) (x2:Int) (x3:Int) (x4:Bool) (cS:Int):St:=⟨mkT 82 [(0,(.ref 3 0 0 0 x1.length .virt)),(1,(.int .i64 x2)),(2,(.int .u8 x3)),(3,(.bool x4)),(27,(.ref 3 0 0 0 x1.length .virt)),(28,(.int .i64 (nI x1.length))),(29,(.int .i64 cS))],[(.arr 3 (List.map aA x1) 0 0 false)]⟩
def aEK (x1:aN) (x2:Int) (x3:Int) (x4:Bool):St:=⟨mkT 82 [(0,(.ref 3 0 0 0 x1.length .virt)),(1,(.int .i64 x2)),(2,(.int .u8 x3)),(3,(.bool x4))],[(.arr 3 (List.map aA x1) 0 0 false)]⟩
def O46_0 (x1:aN) (x2:Int) (x3:Int) (x4:Bool) (y:(Sum (Unit) (aN × Int))):GX:=match y with
 | .inl y=>.st (.exit 0) (aEK x1 x2 x3 x4)
 | .inr y=>.fin (.tup [(.sl 3 (List.map aA y.1)),(.int .i64 y.2)]) []
def aOW (i8:Int × Int × Bool):Ans:=.row [(.int .u8 i8.1),(.int .i64 i8.2.1),(.bool i8.2.2)]
def aLO (x1:aN):Ans:=.call ⟨true,[]⟩ (.ref 3 0 0 0 x1.length .virt) [(.arr 3 (List.map aA x1) 0 0 false)]
def aN6 (x2:Int) (x3:Int):Ans:=.call ⟨true,[]⟩ (.bool (jD x2 x3)) []
def A46_3:Ans:=.norm 2 ⟨[(0,[]),(1,[]),(2,[]),(3,[]),(27,[]),(28,[]),(29,[])],[⟨.tmp 0,[],none⟩],false,[],[]⟩
def A46_4 (x9:Int × Bool):Ans:=.call ⟨true,[]⟩ (.tup [(.int .i64 x9.1),(.bool x9.2)]) []
theorem kN (x1:aN) (x2:Int) (x3:Int) (x4:Bool) (y:(Sum (Unit) (aN × Int))):∀(k:Nat) (cS:Int),gD k x1 x2 x3 x4 cS=some y→LT Try.prog X46 L46_0 (S46_0 x1 x2 x3 x4 cS) (O46_0 x1 x2 x3 x4 y)
 | 0,cS,h=>by cases h
 | k+1,cS,h=>by
  rw[gD] at h
  by_cases cL0:ltI cS (nI x1.length)=true
  · rw[if_pos cL0] at h
    by_cases cL1:inI cS x1.length=true
    · rw[if_pos cL1] at h
      obtain⟨i8,eL2,h⟩:=bsm h
      by_cases cL3:eqI i8.1 x3=true
      · rw[if_pos cL3] at h
        by_cases cL4:eqI i8.2.1 x2=true
        · rw[if_pos cL4] at h
          exact LT.next aK (hs:=⟨[(0,[]),(1,[]),(2,[]),(3,[]),(27,[]),(28,[]),(29,[])],[⟨.tmp 0,[],none⟩],false,[],[]⟩) (es:=none) [dt,(aOW i8),dt,dt,dt,dt,dt,df,df,df,df,df] [⟨rF⟩,⟨(nF cL4)⟩,⟨(nF cL4)⟩,⟨(nF cL4)⟩,⟨(nF cL4)⟩,⟨cL3⟩,⟨cL3⟩,⟨cL3⟩,⟨cL3⟩,⟨cL3⟩,⟨(aI (e:=aA) eL2 3 0 3 (by decide))⟩,⟨cL1⟩,⟨cL0⟩] (by kernel_rfl) (kN x1 x2 x3 x4 y k (aO .i64 cS 1) h)
        rw[if_neg cL4] at h;replace cL4:=eqf cL4
        by_cases cL5:x4=true
        · rw[if_pos cL5] at h
          obtain rfl:=osi h
          show LT _ _ _ _ (.fin (.tup [(.sl 3 (List.map aA ((x1,9).1))),(.int .i64 ((x1,9).2))]) [])
          exact LT.done aK (hs:=⟨[],[],false,[],[]⟩) (es:=none) [dt,(aOW i8),dt,dt,dt,dt,dt,dt,dt,dt,dt,dt,dt,dt,dt,.rows (List.map aA x1)] [⟨(aS aA (l:=x1) (n:=x1.length) rfl)⟩,⟨(bB aA (Nat.le_refl x1.length):0+x1.length≤(List.map aA x1).length)⟩,⟨rT⟩,⟨(nT cL4)⟩,⟨cL5⟩,⟨(nT cL4)⟩,⟨cL5⟩,⟨cL5⟩,⟨(nT cL4)⟩,⟨(nT cL4)⟩,⟨cL3⟩,⟨cL3⟩,⟨cL3⟩,⟨cL3⟩,⟨cL3⟩,⟨(aI (e:=aA) eL2 3 0 3 (by decide))⟩,⟨cL1⟩,⟨cL0⟩] (by kernel_rfl) (fun s h=>by cases h)
        rw[if_neg cL5] at h;replace cL5:=eqf cL5
        by_cases cL6:i8.2.2=true
        · rw[if_pos cL6] at h
          obtain rfl:=osi h
          show LT _ _ _ _ (.fin (.tup [(.sl 3 (List.map aA ((x1,9).1))),(.int .i64 ((x1,9).2))]) [])
          exact LT.done aK (hs:=⟨[],[],false,[],[]⟩) (es:=none) [dt,(aOW i8),dt,dt,dt,dt,dt,dt,dt,df,df,dt,df,dt,dt,.rows (List.map aA x1)] [⟨(aS aA (l:=x1) (n:=x1.length) rfl)⟩,⟨(bB aA (Nat.le_refl x1.length):0+x1.length≤(List.map aA x1).length)⟩,⟨cL6⟩,⟨(nT cL4)⟩,⟨cL5⟩,⟨(nT cL4)⟩,⟨cL5⟩,⟨cL5⟩,⟨(nT cL4)⟩,⟨(nT cL4)⟩,⟨cL3⟩,⟨cL3⟩,⟨cL3⟩,⟨cL3⟩,⟨cL3⟩,⟨(aI (e:=aA) eL2 3 0 3 (by decide))⟩,⟨cL1⟩,⟨cL0⟩] (by kernel_rfl) (fun s h=>by cases h)
        rw[if_neg cL6] at h;replace cL6:=eqf cL6
        exact LT.next aK (hs:=⟨[(0,[]),(1,[]),(2,[]),(3,[]),(27,[]),(28,[]),(29,[])],[⟨.tmp 0,[],none⟩],false,[],[]⟩) (es:=none) [dt,(aOW i8),dt,dt,dt,dt,dt,dt,dt,df,df,dt,df,dt,df] [⟨cL6⟩,⟨(nT cL4)⟩,⟨cL5⟩,⟨(nT cL4)⟩,⟨cL5⟩,⟨cL5⟩,⟨(nT cL4)⟩,⟨(nT cL4)⟩,⟨cL3⟩,⟨cL3⟩,⟨cL3⟩,⟨cL3⟩,⟨cL3⟩,⟨(aI (e:=aA) eL2 3 0 3 (by decide))⟩,⟨cL1⟩,⟨cL0⟩] (by kernel_rfl) (kN x1 x2 x3 x4 y k (aO .i64 cS 1) h)
      rw[if_neg cL3] at h;replace cL3:=eqf cL3
      exact LT.next aK (hs:=⟨[(0,[]),(1,[]),(2,[]),(3,[]),(27,[]),(28,[]),(29,[])],[⟨.tmp 0,[],none⟩],false,[],[]⟩) (es:=none) [dt,(aOW i8),df,df,df,df,df,df,df,df,df,df] [⟨rF⟩,⟨rF⟩,⟨rF⟩,⟨rF⟩,⟨rF⟩,⟨cL3⟩,⟨cL3⟩,⟨cL3⟩,⟨cL3⟩,⟨cL3⟩,⟨(aI (e:=aA) eL2 3 0 3 (by decide))⟩,⟨cL1⟩,⟨cL0⟩] (by kernel_rfl) (kN x1 x2 x3 x4 y k (aO .i64 cS 1) h)
    rw[if_neg cL1] at h;replace cL1:=eqf cL1
    cases h
  rw[if_neg cL0] at h;replace cL0:=eqf cL0
  obtain rfl:=osi h
  show LT _ _ _ _ (.st (.exit 0) (aEK x1 x2 x3 x4))
  exact LT.done aK (hs:=⟨[],[],false,[],[]⟩) (es:=(some ⟨[(0,[]),(1,[]),(2,[]),(3,[])],[⟨.tmp 0,[],none⟩],false,[],[]⟩)) [df] [⟨cL0⟩] (by kernel_rfl) (fun s h=>by cases h)
theorem sR (k:Nat) (x1:aN) (x2:Int) (x3:Int) (x4:Bool) (r:aN × Int) (h:wB k x1 x2 x3 x4=some r):Tri Try.prog 46 [(.sl 3 (List.map aA x1)),(.int .i64 x2),(.int .u8 x3),(.bool x4)] [] (.tup [(.sl 3 (List.map aA r.1)),(.int .i64 r.2)]) []:=by
 unfold wB at h
 obtain⟨x5,e0,h⟩:=bsm h
 obtain⟨x6,e1,h⟩:=bsm h
 by_cases c2:x6=true
 · rw[if_pos c2] at h
   by_cases c3:(jD x2 x3)=true
   · rw[if_pos c3] at h
     obtain⟨x7,e4,h⟩:=bsm h
     cases x7 with
     | inl x8 =>
      simp only[Sum.elim_inl] at h
      obtain⟨x9,e6,h⟩:=bsm h
      by_cases c7:x9.2=true
      · rw[if_pos c7] at h
        by_cases c8:inI x9.1 x1.length=true
        · rw[if_pos c8] at h
          obtain⟨x10,e9,h⟩:=bsm h
          by_cases c10:x10.2.2=true
          · rw[if_pos c10] at h
            obtain rfl:=osi h
            exact Tri.of (x:=X46) aK aCM [(aLO x1),.call ⟨true,[]⟩ (.bool x6) [],.rows (List.map aA x1),df,df,df,(aN6 x2 x3),df,df,df,A46_3,.out (.st .normal (aEK x1 x2 x3 x4)),(A46_4 x9),.rows (List.map aA x1),df,.row [(.bool x10.2.2)],dt,dt,.rows (List.map aA (List.set x1 (tN x9.1) (x10.1,x10.2.1,true))),.rows (List.map aA (List.set x1 (tN x9.1) (x10.1,x10.2.1,true)))] [⟨(aS aA (l:=(List.set x1 (tN x9.1) (x10.1,x10.2.1,true))) (n:=x1.length) (by simp:x1.length=List.length (α:=Int × Int × Bool) (List.set x1 (tN x9.1) (x10.1,x10.2.1,true))))⟩,⟨(bB aA (Nat.le_of_eq (by simp:x1.length=List.length (α:=Int × Int × Bool) (List.set x1 (tN x9.1) (x10.1,x10.2.1,true)))))⟩,⟨(rX (e:=aA) e9 2 [(.bool true)] (x10.1,x10.2.1,true) rfl)⟩,⟨c8⟩,⟨c10⟩,⟨c10⟩,⟨(aI (e:=aA) e9 3 2 1 (by decide))⟩,⟨c8⟩,⟨(nF c7)⟩,⟨(lI k x1 x3 x2 x4 _ e6)⟩,⟨(aS aA (l:=x1) (n:=x1.length) rfl)⟩,⟨(bB aA (Nat.le_refl x1.length):0+x1.length≤(List.map aA x1).length)⟩,⟨(LT.block (kN x1 x2 x3 x4 _ k 0 e4))⟩,⟨(nF c3)⟩,⟨(nF c2)⟩,⟨(nF c2)⟩,⟨(jQ x2 x3)⟩,⟨(nF c2)⟩,⟨(nF c2)⟩,⟨(nF c2)⟩,⟨(oT k x1 _ e1)⟩,⟨(aS aA (l:=x1) (n:=x1.length) rfl)⟩,⟨(bB aA (Nat.le_refl x1.length):0+x1.length≤(List.map aA x1).length)⟩,⟨(kM k x1 _ e0)⟩] (by kernel_rfl)
          rw[if_neg c10] at h;replace c10:=eqf c10
          obtain rfl:=osi h
          exact Tri.of (x:=X46) aK aCM [(aLO x1),.call ⟨true,[]⟩ (.bool x6) [],.rows (List.map aA x1),df,df,df,(aN6 x2 x3),df,df,df,A46_3,.out (.st .normal (aEK x1 x2 x3 x4)),(A46_4 x9),.rows (List.map aA x1),df,.row [(.bool x10.2.2)],df,df,.rows (List.map aA (List.set x1 (tN x9.1) (x10.1,x10.2.1,x4))),.rows (List.map aA (List.set x1 (tN x9.1) (x10.1,x10.2.1,x4)))] [⟨(aS aA (l:=(List.set x1 (tN x9.1) (x10.1,x10.2.1,x4))) (n:=x1.length) (by simp:x1.length=List.length (α:=Int × Int × Bool) (List.set x1 (tN x9.1) (x10.1,x10.2.1,x4))))⟩,⟨(bB aA (Nat.le_of_eq (by simp:x1.length=List.length (α:=Int × Int × Bool) (List.set x1 (tN x9.1) (x10.1,x10.2.1,x4)))))⟩,⟨(rX (e:=aA) e9 2 [(.bool x4)] (x10.1,x10.2.1,x4) rfl)⟩,⟨c8⟩,⟨c10⟩,⟨c10⟩,⟨(aI (e:=aA) e9 3 2 1 (by decide))⟩,⟨c8⟩,⟨(nF c7)⟩,⟨(lI k x1 x3 x2 x4 _ e6)⟩,⟨(aS aA (l:=x1) (n:=x1.length) rfl)⟩,⟨(bB aA (Nat.le_refl x1.length):0+x1.length≤(List.map aA x1).length)⟩,⟨(LT.block (kN x1 x2 x3 x4 _ k 0 e4))⟩,⟨(nF c3)⟩,⟨(nF c2)⟩,⟨(nF c2)⟩,⟨(jQ x2 x3)⟩,⟨(nF c2)⟩,⟨(nF c2)⟩,⟨(nF c2)⟩,⟨(oT k x1 _ e1)⟩,⟨(aS aA (l:=x1) (n:=x1.length) rfl)⟩,⟨(bB aA (Nat.le_refl x1.length):0+x1.length≤(List.map aA x1).length)⟩,⟨(kM k x1 _ e0)⟩] (by kernel_rfl)
        rw[if_neg c8] at h;replace c8:=eqf c8
        cases h
      rw[if_neg c7] at h;replace c7:=eqf c7
      obtain⟨x10,e8,h⟩:=bsm h
      obtain rfl:=osi h
      exact Tri.of (x:=X46) aK aCM [(aLO x1),.call ⟨true,[]⟩ (.bool x6) [],.rows (List.map aA x1),df,df,df,(aN6 x2 x3),df,df,df,A46_3,.out (.st .normal (aEK x1 x2 x3 x4)),(A46_4 x9),.rows (List.map aA x1),dt,.call ⟨false,[]⟩ (.ref 3 0 1 0 x10.length .full) [(.arr 3 (List.map aA x10) 1 1 false),(.arr 3 (List.map aA [(x3,x2,x4)]) 0 0 false)],.rows (List.map aA x10)] [⟨(aS aA (l:=x10) (n:=x10.length) rfl)⟩,⟨(bB aA (Nat.le_refl x10.length):0+x10.length≤(List.map aA x10).length)⟩,⟨(aGL k x9.1 x1 [(x3,x2,x4)] _ e8)⟩,⟨(nT c7)⟩,⟨(lI k x1 x3 x2 x4 _ e6)⟩,⟨(aS aA (l:=x1) (n:=x1.length) rfl)⟩,⟨(bB aA (Nat.le_refl x1.length):0+x1.length≤(List.map aA x1).length)⟩,⟨(LT.block (kN x1 x2 x3 x4 _ k 0 e4))⟩,⟨(nF c3)⟩,⟨(nF c2)⟩,⟨(nF c2)⟩,⟨(jQ x2 x3)⟩,⟨(nF c2)⟩,⟨(nF c2)⟩,⟨(nF c2)⟩,⟨(oT k x1 _ e1)⟩,⟨(aS aA (l:=x1) (n:=x1.length) rfl)⟩,⟨(bB aA (Nat.le_refl x1.length):0+x1.length≤(List.map aA x1).length)⟩,⟨(kM k x1 _ e0)⟩] (by kernel_rfl)
     | inr x8 =>
      simp only[Sum.elim_inr] at h
      obtain rfl:=osi h
      exact Tri.of (x:=X46) aK aCM [(aLO x1),.call ⟨true,[]⟩ (.bool x6) [],.rows (List.map aA x1),df,df,df,(aN6 x2 x3),df,df,df,A46_3,.out (.fin (.tup [(.sl 3 (List.map aA x8.1)),(.int .i64 x8.2)]) [])] [⟨(LT.blockFin (id:=0) (kN x1 x2 x3 x4 _ k 0 e4))⟩,⟨(nF c3)⟩,⟨(nF c2)⟩,⟨(nF c2)⟩,⟨(jQ x2 x3)⟩,⟨(nF c2)⟩,⟨(nF c2)⟩,⟨(nF c2)⟩,⟨(oT k x1 _ e1)⟩,⟨(aS aA (l:=x1) (n:=x1.length) rfl)⟩,⟨(bB aA (Nat.le_refl x1.length):0+x1.length≤(List.map aA x1).length)⟩,⟨(kM k x1 _ e0)⟩] (by kernel_rfl)
   rw[if_neg c3] at h;replace c3:=eqf c3
   obtain rfl:=osi h
   exact Tri.of (x:=X46) aK aCM [(aLO x1),.call ⟨true,[]⟩ (.bool x6) [],.rows (List.map aA x1),df,df,df,(aN6 x2 x3),df,df,dt,.rows (List.map aA x1)] [⟨(aS aA (l:=x1) (n:=x1.length) rfl)⟩,⟨(bB aA (Nat.le_refl x1.length):0+x1.length≤(List.map aA x1).length)⟩,⟨(nT c3)⟩,⟨(nF c2)⟩,⟨(nF c2)⟩,⟨(jQ x2 x3)⟩,⟨(nF c2)⟩,⟨(nF c2)⟩,⟨(nF c2)⟩,⟨(oT k x1 _ e1)⟩,⟨(aS aA (l:=x1) (n:=x1.length) rfl)⟩,⟨(bB aA (Nat.le_refl x1.length):0+x1.length≤(List.map aA x1).length)⟩,⟨(kM k x1 _ e0)⟩] (by kernel_rfl)
 rw[if_neg c2] at h;replace c2:=eqf c2
 obtain rfl:=osi h
 exact Tri.of (x:=X46) aK aCM [(aLO x1),.call ⟨true,[]⟩ (.bool x6) [],.rows (List.map aA x1),dt,dt,dt,dt,dt,dt,.rows (List.map aA x1)] [⟨(aS aA (l:=x1) (n:=x1.length) rfl)⟩,⟨(bB aA (Nat.le_refl x1.length):0+x1.length≤(List.map aA x1).length)⟩,⟨rT⟩,⟨(nT c2)⟩,⟨(nT c2)⟩,⟨(nT c2)⟩,⟨(nT c2)⟩,⟨(nT c2)⟩,⟨(oT k x1 _ e1)⟩,⟨(aS aA (l:=x1) (n:=x1.length) rfl)⟩,⟨(bB aA (Nat.le_refl x1.length):0+x1.length≤(List.map aA x1).length)⟩,⟨(kM k x1 _ e0)⟩] (by kernel_rfl)
end Go.Ws

namespace Go.Ws
open Go.Proofs
set_option linter.unusedSimpArgs false
set_option linter.unusedVariables false
set_option maxRecDepth 1000000
set_option maxHeartbeats 4000000
noncomputable def X76 (x4:Int):Ctx:=⟨Try.f76,[(.row [(.int .i64 x4)])],false⟩
theorem tH (x1:Int) (x2:Int) (x3:Bool) (x4:Int):Tri Try.prog 76 [(.agg [(.int .u8 x1),(.int .i64 x2),(.bool x3)]),(.hp 0 0)] [(.row [(.int .i64 x4)])] (.bool (eqI x2 x4)) [(.row [(.int .i64 x4)])]:=by
 obtain⟨r,h⟩:∃r,aBS x1 x2 x3 x4=r:=⟨_,rfl⟩
 try rw[h]
 unfold aBS at h
 obtain rfl:=h
 exact Tri.of (x:=(X76 x4)) aK facts76 [.norm 0 ⟨[(3,[])],[],false,[],[]⟩] [] (by kernel_rfl)
end Go.Ws

namespace Go.Ws
open Go.Proofs
set_option linter.unusedSimpArgs false
set_option linter.unusedVariables false
set_option maxRecDepth 1000000
set_option maxHeartbeats 4000000
noncomputable def X93 (x1:aN) (x2:Int):Ctx:=⟨Try.f93,[(.arr 3 (List.map aA x1) 0 0 false),(.row [(.int .i64 x2)])],false⟩
noncomputable def L93_0:Code:=at_ Try.f93 [1,0,1,4,5]
def S93_0 (x1:aN) (x2:Int) (dB:Int):St:=⟨mkT 19 [(0,(.ref 3 0 0 0 x1.length .virt)),(1,(.fn 76 [(.hp 1 0)])),(7,(.int .i64 (nI x1.length))),(8,(.int .i64 dB))],[(.arr 3 (List.map aA x1) 0 0 false),(.row [(.int .i64 x2)])]⟩
def aM7 (x1:aN) (x2:Int):St:=⟨mkT 19 [],[(.arr 3 (List.map aA x1) 0 0 false),(.row [(.int .i64 x2)])]⟩
def O93_0 (x1:aN) (x2:Int) (y:(Sum (Unit) (Int))):GX:=match y with
 | .inl y=>.st (.exit 0) (aM7 x1 x2)
 | .inr y=>.fin (.int .i64 y) [(.arr 3 (List.map aA x1) 0 0 false),(.row [(.int .i64 x2)])]
theorem nX (x1:aN) (x2:Int) (y:(Sum (Unit) (Int))):∀(k:Nat) (dB:Int),cY k x1 x2 dB=some y→LT Try.prog (X93 x1 x2) L93_0 (S93_0 x1 x2 dB) (O93_0 x1 x2 y)
 | 0,dB,h=>by cases h
 | k+1,dB,h=>by
  rw[cY] at h
  by_cases cL0:ltI dB (nI x1.length)=true
  · rw[if_pos cL0] at h
    by_cases cL1:inI dB x1.length=true
    · rw[if_pos cL1] at h
      obtain⟨jH,eL2,h⟩:=bsm h
      by_cases cL3:eqI jH.2.1 x2=true
      · rw[if_pos cL3] at h
        obtain rfl:=osi h
        show LT _ _ _ _ (.fin (.int .i64 dB) [(.arr 3 (List.map aA x1) 0 0 false),(.row [(.int .i64 x2)])])
        exact LT.done aK (hs:=⟨[],[],false,[],[]⟩) (es:=none) [dt,.row [(.int .u8 jH.1),(.int .i64 jH.2.1),(.bool jH.2.2)],.call ⟨false,[]⟩ (.bool (eqI jH.2.1 x2)) [(.row [(.int .i64 x2)])],dt,.norm 0 ⟨[(4,[])],[],false,[],[]⟩] [⟨cL3⟩,⟨(tH jH.1 jH.2.1 jH.2.2 x2)⟩,⟨(aI (e:=aA) eL2 3 0 3 (by decide))⟩,⟨cL1⟩,⟨cL0⟩] (by kernel_rfl) (fun s h=>by cases h)
      rw[if_neg cL3] at h;replace cL3:=eqf cL3
      exact LT.next aK (hs:=⟨[(0,[]),(1,[]),(7,[]),(8,[])],[],false,[],[]⟩) (es:=none) [dt,.row [(.int .u8 jH.1),(.int .i64 jH.2.1),(.bool jH.2.2)],.call ⟨false,[]⟩ (.bool (eqI jH.2.1 x2)) [(.row [(.int .i64 x2)])],df] [⟨cL3⟩,⟨(tH jH.1 jH.2.1 jH.2.2 x2)⟩,⟨(aI (e:=aA) eL2 3 0 3 (by decide))⟩,⟨cL1⟩,⟨cL0⟩] (by kernel_rfl) (nX x1 x2 y k (aO .i64 dB 1) h)
    rw[if_neg cL1] at h;replace cL1:=eqf cL1
    cases h
  rw[if_neg cL0] at h;replace cL0:=eqf cL0
  obtain rfl:=osi h
  show LT _ _ _ _ (.st (.exit 0) (aM7 x1 x2))
  exact LT.done aK (hs:=⟨[],[],false,[],[]⟩) (es:=(some ⟨[],[],false,[],[]⟩)) [df] [⟨cL0⟩] (by kernel_rfl) (fun s h=>by cases h)
theorem qP (k:Nat) (x1:aN) (x2:Int) (r:Int) (h:lH k x1 x2=some r):Tri Try.prog 93 [(.ref 3 0 0 0 x1.length .virt),(.fn 76 [(.hp 1 0)])] [(.arr 3 (List.map aA x1) 0 0 false),(.row [(.int .i64 x2)])] (.int .i64 r) [(.arr 3 (List.map aA x1) 0 0 false),(.row [(.int .i64 x2)])]:=by
 unfold lH at h
 obtain⟨x3,e0,h⟩:=bsm h
 cases x3 with
 | inl x4 =>
  simp only[Sum.elim_inl] at h
  obtain rfl:=osi h
  exact Tri.of (x:=(X93 x1 x2)) aK aQ4 [.norm 2 ⟨[(0,[]),(1,[]),(7,[]),(8,[])],[],false,[],[]⟩,.out (.st .normal (aM7 x1 x2)),.norm 0 ⟨[(4,[])],[],false,[],[]⟩] [⟨(LT.block (nX x1 x2 _ k 0 e0))⟩] (by kernel_rfl)
 | inr x4 =>
  simp only[Sum.elim_inr] at h
  obtain rfl:=osi h
  exact Tri.of (x:=(X93 x1 x2)) aK aQ4 [.norm 2 ⟨[(0,[]),(1,[]),(7,[]),(8,[])],[],false,[],[]⟩,.out (.fin (.int .i64 x4) [(.arr 3 (List.map aA x1) 0 0 false),(.row [(.int .i64 x2)])])] [⟨(LT.blockFin (id:=0) (nX x1 x2 _ k 0 e0))⟩] (by kernel_rfl)
end Go.Ws

namespace Go.Ws
open Go.Proofs
set_option linter.unusedSimpArgs false
set_option linter.unusedVariables false
set_option maxRecDepth 1000000
set_option maxHeartbeats 4000000
noncomputable def X75 (x1:aN) (x2:Int):Ctx:=⟨Try.f75,[(.arr 3 (List.map aA x1) 0 0 false),(.row [(.int .i64 x2)])],false⟩
noncomputable def L75_0:Code:=at_ Try.f75 [1,1,1,0,1,4,5]
def S75_0 (x1:aN) (x2:Int) (dC:Int) (cN:Int) (dD:aN):St:=⟨mkT 42 [(0,(.ref 3 0 0 0 x1.length .virt)),(1,(.fn 76 [(.hp 1 0)])),(5,(.int .i64 cN)),(6,(.int .i64 dC))],[(.arr 3 (List.map aA dD) 0 0 false),(.row [(.int .i64 x2)])]⟩
def aIF (x1:aN) (x2:Int) (v75002_1:Int) (v75002_2:aN):St:=⟨mkT 42 [(0,(.ref 3 0 0 0 x1.length .virt)),(5,(.int .i64 v75002_1))],[(.arr 3 (List.map aA v75002_2) 0 0 false),(.row [(.int .i64 x2)])]⟩
def O75_0 (x1:aN) (x2:Int) (y:(Int × aN)):GX:=.st (.exit 0) (aIF x1 x2 y.1 y.2)
def A75_0 (x1:aN) (x2:Int) (x3:Int):Ans:=.call ⟨false,[]⟩ (.int .i64 x3) [(.arr 3 (List.map aA x1) 0 0 false),(.row [(.int .i64 x2)])]
theorem kI (x1:aN) (x2:Int) (y:(Int × aN)):∀(k:Nat) (dC:Int) (cN:Int) (dD:aN),cF k x1 x2 dC cN dD=some y→LT Try.prog (X75 x1 x2) L75_0 (S75_0 x1 x2 dC cN dD) (O75_0 x1 x2 y)
 | 0,dC,cN,dD,h=>by cases h
 | k+1,dC,cN,dD,h=>by
  rw[cF] at h
  by_cases cL0:ltI dC (nI x1.length)=true
  · rw[if_pos cL0] at h
    by_cases cL1:inI dC x1.length=true
    · rw[if_pos cL1] at h
      obtain⟨fK,eL2,h⟩:=bsm h
      by_cases cL3:eqI fK.2.1 x2=true
      · rw[if_pos cL3] at h
        exact LT.next aK (hs:=⟨[(0,[]),(1,[]),(5,[]),(6,[])],[],false,[],[]⟩) (es:=none) [dt,.row [(.int .u8 fK.1),(.int .i64 fK.2.1),(.bool fK.2.2)],.call ⟨false,[]⟩ (.bool (eqI fK.2.1 x2)) [(.row [(.int .i64 x2)])],df] [⟨(nF cL3)⟩,⟨(tH fK.1 fK.2.1 fK.2.2 x2)⟩,⟨(aI (e:=aA) eL2 3 0 3 (by decide))⟩,⟨cL1⟩,⟨cL0⟩] (by kernel_rfl) (kI x1 x2 y k (aO .i64 dC 1) cN dD h)
      rw[if_neg cL3] at h;replace cL3:=eqf cL3
      by_cases cL4:inI cN x1.length=true
      · rw[if_pos cL4] at h
        obtain⟨aPS,eL5,h⟩:=bsm h
        exact LT.next aK (hs:=⟨[(0,[]),(1,[]),(5,[]),(6,[])],[],false,[],[]⟩) (es:=none) [dt,.row [(.int .u8 fK.1),(.int .i64 fK.2.1),(.bool fK.2.2)],.call ⟨false,[]⟩ (.bool (eqI fK.2.1 x2)) [(.row [(.int .i64 x2)])],dt,.rows (List.map aA (List.set dD (tN cN) fK))] [⟨(rX (e:=aA) eL5 0 [(.int .u8 fK.1),(.int .i64 fK.2.1),(.bool fK.2.2)] fK rfl)⟩,⟨cL4⟩,⟨(nT cL3)⟩,⟨(tH fK.1 fK.2.1 fK.2.2 x2)⟩,⟨(aI (e:=aA) eL2 3 0 3 (by decide))⟩,⟨cL1⟩,⟨cL0⟩] (by kernel_rfl) (kI x1 x2 y k (aO .i64 dC 1) (aO .i64 cN 1) (List.set dD (tN cN) fK) h)
      rw[if_neg cL4] at h;replace cL4:=eqf cL4
      cases h
    rw[if_neg cL1] at h;replace cL1:=eqf cL1
    cases h
  rw[if_neg cL0] at h;replace cL0:=eqf cL0
  obtain rfl:=osi h
  show LT _ _ _ _ (.st (.exit 0) (aIF x1 x2 cN dD))
  exact LT.done aK (hs:=⟨[],[],false,[],[]⟩) (es:=(some ⟨[(0,[]),(5,[])],[],false,[],[]⟩)) [df] [⟨cL0⟩] (by kernel_rfl) (fun s h=>by cases h)
theorem aB6 (k:Nat) (x1:aN) (x2:Int) (r:Nat × aN) (h:kK k x1 x2=some r):Tri Try.prog 75 [(.ref 3 0 0 0 x1.length .virt),(.fn 76 [(.hp 1 0)])] [(.arr 3 (List.map aA x1) 0 0 false),(.row [(.int .i64 x2)])] (.ref 3 0 0 0 r.1 .virt) [(.arr 3 (List.map aA r.2) 0 0 false),(.row [(.int .i64 x2)])]:=by
 unfold kK at h
 obtain⟨x3,e0,h⟩:=bsm h
 by_cases c1:eqI x3 (-1)=true
 · rw[if_pos c1] at h
   obtain rfl:=osi h
   exact Tri.of (x:=(X75 x1 x2)) aK aMB [(A75_0 x1 x2 x3),dt,.norm 0 ⟨[(4,[])],[],false,[],[]⟩] [⟨c1⟩,⟨(qP k x1 x2 _ e0)⟩] (by kernel_rfl)
 rw[if_neg c1] at h;replace c1:=eqf c1
 obtain⟨x5,e2,h⟩:=bsm h
 by_cases c4:isZ x1.length=true
 · rw[if_pos c4] at h
   cases h
 rw[if_neg c4] at h;replace c4:=eqf c4
 by_cases c5:vF x1.length x5.2.length=true
 · rw[if_pos c5] at h
   by_cases c6:leI x5.1 x1.length=true
   · rw[if_pos c6] at h
     by_cases c7:isZ (x1.length - (tN x5.1))=true
     · rw[if_pos c7] at h
       by_cases c8:leI x5.1 x5.2.length=true
       · rw[if_pos c8] at h
         obtain rfl:=osi h
         exact Tri.of (x:=(X75 x1 x2)) aK aMB [(A75_0 x1 x2 x3),df,.norm 2 ⟨[(0,[]),(1,[]),(5,[]),(6,[])],[],false,[],[]⟩,.out (.st .normal (aIF x1 x2 x5.1 x5.2)),df,.n x5.2.length,.n x5.2.length,.n (tN x5.1),.n (x1.length - (tN x5.1)),dt,df,.n x5.2.length,.n x5.2.length,.n 0,.n (tN x5.1),.norm 0 ⟨[(4,[])],[],false,[],[]⟩] [⟨(rfl:(tN x5.1) - 0=tN x5.1)⟩,⟨((Nat.zero_add _):0+0=0)⟩,⟨c8⟩,⟨(rfl:x5.2.length - 0=x5.2.length)⟩,⟨(aH1 ((aGO c5):x1.length≤x5.2.length))⟩,⟨(aG aA x5.2)⟩,⟨c4⟩,⟨c7⟩,⟨(rfl:x1.length - (tN x5.1)=x1.length - (tN x5.1))⟩,⟨((Nat.zero_add _):0+(tN x5.1)=tN x5.1)⟩,⟨c6⟩,⟨(rfl:x5.2.length - 0=x5.2.length)⟩,⟨(aH1 ((aGO c5):x1.length≤x5.2.length))⟩,⟨(aG aA x5.2)⟩,⟨c4⟩,⟨(LT.block (kI x1 x2 _ k (aO .i64 x3 1) x3 x1 e2))⟩,⟨c1⟩,⟨(qP k x1 x2 _ e0)⟩] (by kernel_rfl)
       rw[if_neg c8] at h;replace c8:=eqf c8
       cases h
     rw[if_neg c7] at h;replace c7:=eqf c7
     by_cases c8:vF (tN x5.1+(x1.length - (tN x5.1))) x5.2.length=true
     · rw[if_pos c8] at h
       by_cases c9:vF (tN x5.1) x5.2.length=true
       · rw[if_pos c9] at h
         by_cases c10:vF x1.length ((((List.take (tN x5.1) x5.2)++(List.replicate (x1.length - (tN x5.1)) (0,0,false)))++(List.drop (tN x5.1+(x1.length - (tN x5.1))) x5.2)).length)=true
         · rw[if_pos c10] at h
           by_cases c11:leI x5.1 ((((List.take (tN x5.1) x5.2)++(List.replicate (x1.length - (tN x5.1)) (0,0,false)))++(List.drop (tN x5.1+(x1.length - (tN x5.1))) x5.2)).length)=true
           · rw[if_pos c11] at h
             obtain rfl:=osi h
             exact Tri.of (x:=(X75 x1 x2)) aK aMB [(A75_0 x1 x2 x3),df,.norm 2 ⟨[(0,[]),(1,[]),(5,[]),(6,[])],[],false,[],[]⟩,.out (.st .normal (aIF x1 x2 x5.1 x5.2)),df,.n x5.2.length,.n x5.2.length,.n (tN x5.1),.n (x1.length - (tN x5.1)),df,.rows (List.map aA (((List.take (tN x5.1) x5.2)++(List.replicate (x1.length - (tN x5.1)) (0,0,false)))++(List.drop (tN x5.1+(x1.length - (tN x5.1))) x5.2))),df,.n ((((List.take (tN x5.1) x5.2)++(List.replicate (x1.length - (tN x5.1)) (0,0,false)))++(List.drop (tN x5.1+(x1.length - (tN x5.1))) x5.2)).length),.n ((((List.take (tN x5.1) x5.2)++(List.replicate (x1.length - (tN x5.1)) (0,0,false)))++(List.drop (tN x5.1+(x1.length - (tN x5.1))) x5.2)).length),.n 0,.n (tN x5.1),.norm 0 ⟨[(4,[])],[],false,[],[]⟩] [⟨(rfl:(tN x5.1) - 0=tN x5.1)⟩,⟨((Nat.zero_add _):0+0=0)⟩,⟨c11⟩,⟨(rfl:((((List.take (tN x5.1) x5.2)++(List.replicate (x1.length - (tN x5.1)) (0,0,false)))++(List.drop (tN x5.1+(x1.length - (tN x5.1))) x5.2)).length) - 0=(((List.take (tN x5.1) x5.2)++(List.replicate (x1.length - (tN x5.1)) (0,0,false)))++(List.drop (tN x5.1+(x1.length - (tN x5.1))) x5.2)).length)⟩,⟨(aH1 ((aGO c10):x1.length≤(((List.take (tN x5.1) x5.2)++(List.replicate (x1.length - (tN x5.1)) (0,0,false)))++(List.drop (tN x5.1+(x1.length - (tN x5.1))) x5.2)).length))⟩,⟨(aG aA (((List.take (tN x5.1) x5.2)++(List.replicate (x1.length - (tN x5.1)) (0,0,false)))++(List.drop (tN x5.1+(x1.length - (tN x5.1))) x5.2)))⟩,⟨c4⟩,⟨(aS7 aA x5.2 (tN x5.1) (x1.length - (tN x5.1)) (0,0,false))⟩,⟨(le_mapI aA (aGO c8))⟩,⟨c7⟩,⟨(rfl:x1.length - (tN x5.1)=x1.length - (tN x5.1))⟩,⟨((Nat.zero_add _):0+(tN x5.1)=tN x5.1)⟩,⟨c6⟩,⟨(rfl:x5.2.length - 0=x5.2.length)⟩,⟨(aH1 ((aGO c5):x1.length≤x5.2.length))⟩,⟨(aG aA x5.2)⟩,⟨c4⟩,⟨(LT.block (kI x1 x2 _ k (aO .i64 x3 1) x3 x1 e2))⟩,⟨c1⟩,⟨(qP k x1 x2 _ e0)⟩] (by kernel_rfl)
           rw[if_neg c11] at h;replace c11:=eqf c11
           cases h
         rw[if_neg c10] at h;replace c10:=eqf c10
         cases h
       rw[if_neg c9] at h;replace c9:=eqf c9
       cases h
     rw[if_neg c8] at h;replace c8:=eqf c8
     cases h
   rw[if_neg c6] at h;replace c6:=eqf c6
   cases h
 rw[if_neg c5] at h;replace c5:=eqf c5
 cases h
end Go.Ws

namespace Go.Ws
open Go.Proofs
set_option linter.unusedSimpArgs false
set_option linter.unusedVariables false
set_option maxRecDepth 1000000
set_option maxHeartbeats 4000000
noncomputable def X52:Ctx:=⟨Try.f52,[],true⟩
theorem vY (k:Nat) (x1:aN) (x2:Int) (r:aN) (h:qH k x1 x2=some r):Tri Try.prog 52 [(.sl 3 (List.map aA x1)),(.int .i64 x2)] [] (.sl 3 (List.map aA r)) []:=by
 unfold qH at h
 obtain⟨x3,e0,h⟩:=bsm h
 obtain⟨x4,e1,h⟩:=bsm h
 by_cases c2:vF x4.1 x4.2.length=true
 · rw[if_pos c2] at h
   obtain rfl:=osi h
   exact Tri.of (x:=X52) aK facts52 [.call ⟨true,[]⟩ (.ref 3 0 0 0 x1.length .virt) [(.arr 3 (List.map aA x1) 0 0 false)],.call ⟨false,[]⟩ (.ref 3 0 0 0 x4.1 .virt) [(.arr 3 (List.map aA x4.2) 0 0 false),(.row [(.int .i64 x2)])],.rows (List.map aA (List.take x4.1 x4.2))] [⟨(aTO aA x4.2 x4.1)⟩,⟨(bB aA (aGO c2))⟩,⟨(aB6 k x1 x2 _ e1)⟩,⟨(kM k x1 _ e0)⟩] (by kernel_rfl)
 rw[if_neg c2] at h;replace c2:=eqf c2
 cases h
end Go.Ws

namespace Go.Ws
open Go.Proofs
set_option linter.unusedSimpArgs false
set_option linter.unusedVariables false
set_option maxRecDepth 1000000
set_option maxHeartbeats 4000000
noncomputable def X70_1001:Ctx:=⟨Try.f70,[],false⟩
theorem zL (k:Nat) (x1:aL) (r:Unit) (h:iZ k x1=some r):Tri Try.prog 70 [(.inl 2 (List.map aB x1))] [] (.ref 2 0 0 0 x1.length .virt) [(.arr 2 (List.map aB x1) 0 0 false)]:=by
 unfold iZ at h
 by_cases c0:bJ (x1.length*16)=true
 · rw[if_pos c0] at h
   obtain rfl:=osi h
   exact Tri.of (x:=X70_1001) aK aSN [df,.n x1.length,.norm 0 ⟨[(2,[])],[⟨.tmp 2,[],some 2⟩],false,[],[]⟩,.n x1.length,.rows (List.map aB x1)] [⟨(bU aB (l:=x1) (n:=x1.length) rfl)⟩,⟨(rfl:x1.length=x1.length)⟩,⟨(zle x1.length)⟩,⟨c0⟩,⟨(aG aB x1)⟩,⟨rF⟩] (by kernel_rfl)
 rw[if_neg c0] at h;replace c0:=eqf c0
 cases h
end Go.Ws

namespace Go.Ws
open Go.Proofs
set_option linter.unusedSimpArgs false
set_option linter.unusedVariables false
set_option maxRecDepth 1000000
set_option maxHeartbeats 4000000
noncomputable def X70_1002:Ctx:=⟨Try.f70,[],false⟩
theorem zJ:Tri Try.prog 70 [.nils] [] (.ref 2 0 0 0 0 .virt) [(.arr 2 (List.map aB []) 0 0 false)]:=by
 obtain⟨r,h⟩:∃r,pE=r:=⟨_,rfl⟩
 try rw[h]
 unfold pE at h
 obtain rfl:=h
 exact Tri.of (x:=X70_1002) aK aSN [dt,.norm 0 ⟨[(2,[])],[⟨.tmp 2,[],some 2⟩],false,[],[]⟩,.n 0,.rows (List.map aB [])] [⟨(bU aB (l:=[]) (n:=0) rfl)⟩,⟨(rfl:0=0)⟩,⟨(zle 0)⟩,⟨rT⟩] (by kernel_rfl)
end Go.Ws

namespace Go.Ws
open Go.Proofs
set_option linter.unusedSimpArgs false
set_option linter.unusedVariables false
set_option maxRecDepth 1000000
set_option maxHeartbeats 4000000
theorem rJ (k:Nat) (x1:aL) (r:Unit) (h:oH k x1=some r):Tri Try.prog 70 [(.sl 2 (List.map aB x1))] [] (.ref 2 0 0 0 x1.length .virt) [(.arr 2 (List.map aB x1) 0 0 false)]:=by
 refine Tri.slOf (zL k x1 r h) fun h0=>?_
 have hx:x1=[]:=by simpa using h0
 subst hx
 exact zJ
end Go.Ws

namespace Go.Ws
open Go.Proofs
set_option linter.unusedSimpArgs false
set_option linter.unusedVariables false
set_option maxRecDepth 1000000
set_option maxHeartbeats 4000000
noncomputable def X71:Ctx:=⟨Try.f71,[],true⟩
noncomputable def L71_0:Code:=at_ Try.f71 [1,0,1,4,5]
def S71_0 (x1:aL) (b9:Int):St:=⟨mkT 36 [(0,(.sl 2 (List.map aB x1))),(5,(.sl 2 (List.map aB x1))),(6,(.int .i64 (nI x1.length))),(7,(.int .i64 b9))],[]⟩
def aLY:St:=⟨mkT 36 [],[]⟩
def O71_0 (x1:aL) (y:lZ):GX:=match y with
 | .inl y=>.st (.exit 0) (aLY)
 | .inr y=>.fin (.bool y) []
def aO4 (jI:Int × Int):Ans:=.row [(.int .u8 jI.1),(.int .i64 jI.2)]
theorem nW (x1:aL) (y:lZ):∀(k:Nat) (b9:Int),eL k x1 b9=some y→LT Try.prog X71 L71_0 (S71_0 x1 b9) (O71_0 x1 y)
 | 0,b9,h=>by cases h
 | k+1,b9,h=>by
  rw[eL] at h
  by_cases cL0:ltI b9 (nI x1.length)=true
  · rw[if_pos cL0] at h
    by_cases cL1:inI b9 x1.length=true
    · rw[if_pos cL1] at h
      obtain⟨jI,eL2,h⟩:=bsm h
      by_cases cL3:ltI jI.1 64=true
      · rw[if_pos cL3] at h
        by_cases cL4:eqI jI.2 0=true
        · rw[if_pos cL4] at h
          obtain rfl:=osi h
          show LT _ _ _ _ (.fin (.bool false) [])
          exact LT.done aK (hs:=⟨[],[],false,[],[]⟩) (es:=none) [dt,.n x1.length,(aO4 jI),df,df,df,df,dt,dt,dt,dt,dt,dt] [⟨rT⟩,⟨cL4⟩,⟨cL4⟩,⟨cL4⟩,⟨cL4⟩,⟨cL4⟩,⟨(nF cL3)⟩,⟨(nF cL3)⟩,⟨(nF cL3)⟩,⟨(nF cL3)⟩,⟨(aI (e:=aB) eL2 2 0 2 (by decide))⟩,⟨cL1⟩,⟨(aG aB x1)⟩,⟨cL0⟩] (by kernel_rfl) (fun s h=>by cases h)
        rw[if_neg cL4] at h;replace cL4:=eqf cL4
        by_cases cL5:ltI 0 b9=true
        · rw[if_pos cL5] at h
          by_cases cL6:inI (o6 .i64 b9 1) x1.length=true
          · rw[if_pos cL6] at h
            obtain⟨xQ,eL7,h⟩:=bsm h
            by_cases cL8:ltI xQ.1 jI.1=true
            · rw[if_pos cL8] at h
              exact LT.next aK (hs:=⟨[(0,[]),(5,[]),(6,[]),(7,[])],[],false,[],[]⟩) (es:=none) [dt,.n x1.length,(aO4 jI),df,df,df,df,df,df,df,dt,dt,dt,dt,.n x1.length,dt,dt,.row [(.int .u8 xQ.1)],dt,dt,dt,df,dt,df,df] [⟨(nF cL8)⟩,⟨cL4⟩,⟨cL5⟩,⟨cL4⟩,⟨cL5⟩,⟨cL5⟩,⟨cL5⟩,⟨(aI (e:=aB) eL7 2 0 1 (by decide))⟩,⟨cL5⟩,⟨cL5⟩,⟨cL6⟩,⟨(aG aB x1)⟩,⟨cL5⟩,⟨cL5⟩,⟨cL5⟩,⟨cL5⟩,⟨cL4⟩,⟨cL4⟩,⟨cL4⟩,⟨(nF cL3)⟩,⟨(nF cL3)⟩,⟨(nF cL3)⟩,⟨(nF cL3)⟩,⟨(aI (e:=aB) eL2 2 0 2 (by decide))⟩,⟨cL1⟩,⟨(aG aB x1)⟩,⟨cL0⟩] (by kernel_rfl) (nW x1 y k (aO .i64 b9 1) h)
            rw[if_neg cL8] at h;replace cL8:=eqf cL8
            obtain rfl:=osi h
            show LT _ _ _ _ (.fin (.bool false) [])
            exact LT.done aK (hs:=⟨[],[],false,[],[]⟩) (es:=none) [dt,.n x1.length,(aO4 jI),df,df,df,df,df,df,df,dt,dt,dt,dt,.n x1.length,dt,dt,.row [(.int .u8 xQ.1)],dt,dt,dt,df,dt,df,dt] [⟨(nT cL8)⟩,⟨cL4⟩,⟨cL5⟩,⟨cL4⟩,⟨cL5⟩,⟨cL5⟩,⟨cL5⟩,⟨(aI (e:=aB) eL7 2 0 1 (by decide))⟩,⟨cL5⟩,⟨cL5⟩,⟨cL6⟩,⟨(aG aB x1)⟩,⟨cL5⟩,⟨cL5⟩,⟨cL5⟩,⟨cL5⟩,⟨cL4⟩,⟨cL4⟩,⟨cL4⟩,⟨(nF cL3)⟩,⟨(nF cL3)⟩,⟨(nF cL3)⟩,⟨(nF cL3)⟩,⟨(aI (e:=aB) eL2 2 0 2 (by decide))⟩,⟨cL1⟩,⟨(aG aB x1)⟩,⟨cL0⟩] (by kernel_rfl) (fun s h=>by cases h)
          rw[if_neg cL6] at h;replace cL6:=eqf cL6
          cases h
        rw[if_neg cL5] at h;replace cL5:=eqf cL5
        exact LT.next aK (hs:=⟨[(0,[]),(5,[]),(6,[]),(7,[])],[],false,[],[]⟩) (es:=none) [dt,.n x1.length,(aO4 jI),df,df,df,df,df,df,df,df,df,df,df,df,df,df,df,df,df,df,df,df] [⟨rF⟩,⟨cL4⟩,⟨cL5⟩,⟨cL4⟩,⟨cL5⟩,⟨cL5⟩,⟨cL5⟩,⟨cL5⟩,⟨cL5⟩,⟨cL5⟩,⟨cL5⟩,⟨cL5⟩,⟨cL5⟩,⟨cL4⟩,⟨cL4⟩,⟨cL4⟩,⟨(nF cL3)⟩,⟨(nF cL3)⟩,⟨(nF cL3)⟩,⟨(nF cL3)⟩,⟨(aI (e:=aB) eL2 2 0 2 (by decide))⟩,⟨cL1⟩,⟨(aG aB x1)⟩,⟨cL0⟩] (by kernel_rfl) (nW x1 y k (aO .i64 b9 1) h)
      rw[if_neg cL3] at h;replace cL3:=eqf cL3
      obtain rfl:=osi h
      show LT _ _ _ _ (.fin (.bool false) [])
      exact LT.done aK (hs:=⟨[],[],false,[],[]⟩) (es:=none) [dt,.n x1.length,(aO4 jI),dt,dt,dt,dt,dt,dt,dt,dt,dt,dt] [⟨rT⟩,⟨rT⟩,⟨rT⟩,⟨rT⟩,⟨rT⟩,⟨rT⟩,⟨(nT cL3)⟩,⟨(nT cL3)⟩,⟨(nT cL3)⟩,⟨(nT cL3)⟩,⟨(aI (e:=aB) eL2 2 0 2 (by decide))⟩,⟨cL1⟩,⟨(aG aB x1)⟩,⟨cL0⟩] (by kernel_rfl) (fun s h=>by cases h)
    rw[if_neg cL1] at h;replace cL1:=eqf cL1
    cases h
  rw[if_neg cL0] at h;replace cL0:=eqf cL0
  obtain rfl:=osi h
  show LT _ _ _ _ (.st (.exit 0) (aLY))
  exact LT.done aK (hs:=⟨[],[],false,[],[]⟩) (es:=(some ⟨[],[],false,[],[]⟩)) [df] [⟨cL0⟩] (by kernel_rfl) (fun s h=>by cases h)
theorem vL (k:Nat) (x1:aL) (r:Bool) (h:p7 k x1=some r):Tri Try.prog 71 [(.sl 2 (List.map aB x1))] [] (.bool r) []:=by
 unfold p7 at h
 obtain⟨x2,e0,h⟩:=bsm h
 cases x2 with
 | inl x3 =>
  simp only[Sum.elim_inl] at h
  obtain rfl:=osi h
  exact Tri.of (x:=X71) aK aR5 [.n x1.length,.norm 2 ⟨[(0,[]),(5,[]),(6,[]),(7,[])],[],false,[],[]⟩,.out (.st .normal (aLY))] [⟨(LT.block (nW x1 _ k 0 e0))⟩,⟨(aG aB x1)⟩] (by kernel_rfl)
 | inr x3 =>
  simp only[Sum.elim_inr] at h
  obtain rfl:=osi h
  exact Tri.of (x:=X71) aK aR5 [.n x1.length,.norm 2 ⟨[(0,[]),(5,[]),(6,[]),(7,[])],[],false,[],[]⟩,.out (.fin (.bool x3) [])] [⟨(LT.blockFin (id:=0) (nW x1 _ k 0 e0))⟩,⟨(aG aB x1)⟩] (by kernel_rfl)
end Go.Ws

namespace Go.Ws
open Go.Proofs
set_option linter.unusedSimpArgs false
set_option linter.unusedVariables false
set_option maxRecDepth 1000000
set_option maxHeartbeats 4000000
noncomputable def X69:Ctx:=⟨Try.f69,[],false⟩
theorem aBB (x1:Int) (x2:Int):Tri Try.prog 69 [(.agg [(.int .u8 x1),(.int .i64 x2)])] [] (.bool (!ltI x1 64)) []:=by
 obtain⟨r,h⟩:∃r,aAK x1 x2=r:=⟨_,rfl⟩
 try rw[h]
 unfold aAK at h
 obtain rfl:=h
 exact Tri.of (x:=X69) aK facts69 [.norm 0 ⟨[(2,[])],[],false,[],[]⟩] [] (by kernel_rfl)
end Go.Ws

namespace Go.Ws
open Go.Proofs
set_option linter.unusedSimpArgs false
set_option linter.unusedVariables false
set_option maxRecDepth 1000000
set_option maxHeartbeats 4000000
noncomputable def X60:Ctx:=⟨Try.f60,[],true⟩
noncomputable def L60_0:Code:=at_ Try.f60 [1,0,1,4,5]
def S60_0 (x1:aL) (dE:Int):St:=⟨mkT 19 [(0,(.sl 2 (List.map aB x1))),(1,(.fn 69 [])),(7,(.int .i64 (nI x1.length))),(8,(.int .i64 dE))],[]⟩
def aLW:St:=⟨mkT 19 [],[]⟩
def O60_0 (x1:aL) (y:(Sum (Unit) (Int))):GX:=match y with
 | .inl y=>.st (.exit 0) (aLW)
 | .inr y=>.fin (.int .i64 y) []
theorem l6 (x1:aL) (y:(Sum (Unit) (Int))):∀(k:Nat) (dE:Int),cB k x1 dE=some y→LT Try.prog X60 L60_0 (S60_0 x1 dE) (O60_0 x1 y)
 | 0,dE,h=>by cases h
 | k+1,dE,h=>by
  rw[cB] at h
  by_cases cL0:ltI dE (nI x1.length)=true
  · rw[if_pos cL0] at h
    by_cases cL1:inI dE x1.length=true
    · rw[if_pos cL1] at h
      obtain⟨lU,eL2,h⟩:=bsm h
      by_cases cL3:ltI lU.1 64=true
      · rw[if_pos cL3] at h
        exact LT.next aK (hs:=⟨[(0,[]),(1,[]),(7,[]),(8,[])],[],false,[],[]⟩) (es:=none) [dt,.n x1.length,.row [(.int .u8 lU.1),(.int .i64 lU.2)],.call ⟨false,[]⟩ (.bool (!ltI lU.1 64)) [],df] [⟨(nF cL3)⟩,⟨(aBB lU.1 lU.2)⟩,⟨(aI (e:=aB) eL2 2 0 2 (by decide))⟩,⟨cL1⟩,⟨(aG aB x1)⟩,⟨cL0⟩] (by kernel_rfl) (l6 x1 y k (aO .i64 dE 1) h)
      rw[if_neg cL3] at h;replace cL3:=eqf cL3
      obtain rfl:=osi h
      show LT _ _ _ _ (.fin (.int .i64 dE) [])
      exact LT.done aK (hs:=⟨[],[],false,[],[]⟩) (es:=none) [dt,.n x1.length,.row [(.int .u8 lU.1),(.int .i64 lU.2)],.call ⟨false,[]⟩ (.bool (!ltI lU.1 64)) [],dt] [⟨(nT cL3)⟩,⟨(aBB lU.1 lU.2)⟩,⟨(aI (e:=aB) eL2 2 0 2 (by decide))⟩,⟨cL1⟩,⟨(aG aB x1)⟩,⟨cL0⟩] (by kernel_rfl) (fun s h=>by cases h)
    rw[if_neg cL1] at h;replace cL1:=eqf cL1
    cases h
  rw[if_neg cL0] at h;replace cL0:=eqf cL0
  obtain rfl:=osi h
  show LT _ _ _ _ (.st (.exit 0) (aLW))
  exact LT.done aK (hs:=⟨[],[],false,[],[]⟩) (es:=(some ⟨[],[],false,[],[]⟩)) [df] [⟨cL0⟩] (by kernel_rfl) (fun s h=>by cases h)
theorem aAU (k:Nat) (x1:aL) (r:Int) (h:jM k x1=some r):Tri Try.prog 60 [(.sl 2 (List.map aB x1)),(.fn 69 [])] [] (.int .i64 r) []:=by
 unfold jM at h
 obtain⟨x2,e0,h⟩:=bsm h
 cases x2 with
 | inl x3 =>
  simp only[Sum.elim_inl] at h
  obtain rfl:=osi h
  exact Tri.of (x:=X60) aK aH7 [.n x1.length,.norm 2 ⟨[(0,[]),(1,[]),(7,[]),(8,[])],[],false,[],[]⟩,.out (.st .normal (aLW))] [⟨(LT.block (l6 x1 _ k 0 e0))⟩,⟨(aG aB x1)⟩] (by kernel_rfl)
 | inr x3 =>
  simp only[Sum.elim_inr] at h
  obtain rfl:=osi h
  exact Tri.of (x:=X60) aK aH7 [.n x1.length,.norm 2 ⟨[(0,[]),(1,[]),(7,[]),(8,[])],[],false,[],[]⟩,.out (.fin (.int .i64 x3) [])] [⟨(LT.blockFin (id:=0) (l6 x1 _ k 0 e0))⟩,⟨(aG aB x1)⟩] (by kernel_rfl)
end Go.Ws

namespace Go.Ws
open Go.Proofs
set_option linter.unusedSimpArgs false
set_option linter.unusedVariables false
set_option maxRecDepth 1000000
set_option maxHeartbeats 4000000
noncomputable def X42:Ctx:=⟨Try.f42,[],true⟩
theorem s4 (k:Nat) (x1:aL) (r:Bool) (h:jK k x1=some r):Tri Try.prog 42 [(.sl 2 (List.map aB x1)),(.fn 69 [])] [] (.bool r) []:=by
 unfold jK at h
 obtain⟨x2,e0,h⟩:=bsm h
 obtain rfl:=osi h
 exact Tri.of (x:=X42) aK aRO [.call ⟨true,[]⟩ (.int .i64 x2) []] [⟨(aAU k x1 _ e0)⟩] (by kernel_rfl)
end Go.Ws

namespace Go.Ws
open Go.Proofs
set_option linter.unusedSimpArgs false
set_option linter.unusedVariables false
set_option maxRecDepth 1000000
set_option maxHeartbeats 4000000
noncomputable def X90:Ctx:=⟨Try.f90,[],false⟩
theorem uB (x1:Int) (x2:Int) (x3:Int):Tri Try.prog 90 [(.agg [(.int .u8 x1),(.int .i64 x2)]),(.int .u8 x3)] [] (.int .i64 (bM x1 x3)) []:=by
 obtain⟨r,h⟩:∃r,yW x1 x2 x3=r:=⟨_,rfl⟩
 try rw[h]
 unfold yW at h
 obtain rfl:=h
 exact Tri.of (x:=X90) aK facts90 [.call ⟨true,[]⟩ (.int .i64 (bM x1 x3)) [],.norm 0 ⟨[(4,[])],[],false,[],[]⟩] [⟨(aB5 x1 x3)⟩] (by kernel_rfl)
end Go.Ws

namespace Go.Ws
open Go.Proofs
set_option linter.unusedSimpArgs false
set_option linter.unusedVariables false
set_option maxRecDepth 1000000
set_option maxHeartbeats 4000000
noncomputable def X89:Ctx:=⟨Try.f89,[],true⟩
noncomputable def L89_0:Code:=at_ Try.f89 [1,1,1,0,4,5]
def S89_0 (x1:aL) (x2:Int) (cH:Int) (cT:Int):St:=⟨mkT 49 [(0,(.sl 2 (List.map aB x1))),(1,(.int .u8 x2)),(2,(.fn 90 [])),(8,(.int .i64 (nI x1.length))),(9,(.int .i64 cH)),(10,(.int .i64 cT))],[]⟩
def aIC (x1:aL) (x2:Int) (v89002_1:Int):St:=⟨mkT 49 [(0,(.sl 2 (List.map aB x1))),(1,(.int .u8 x2)),(2,(.fn 90 [])),(8,(.int .i64 (nI x1.length))),(9,(.int .i64 v89002_1))],[]⟩
def O89_0 (x1:aL) (x2:Int) (y:(Int)):GX:=.st (.exit 0) (aIC x1 x2 y)
def A89_0:Ans:=.norm 2 ⟨[(0,[]),(1,[]),(2,[]),(8,[]),(9,[]),(10,[])],[],false,[],[]⟩
theorem gI (x1:aL) (x2:Int) (y:(Int)):∀(k:Nat) (cH:Int) (cT:Int),a9 k x1 x2 cH cT=some y→LT Try.prog X89 L89_0 (S89_0 x1 x2 cH cT) (O89_0 x1 x2 y)
 | 0,cH,cT,h=>by cases h
 | k+1,cH,cT,h=>by
  rw[a9] at h
  by_cases cL0:ltI cH cT=true
  · rw[if_pos cL0] at h
    by_cases cL1:inI (conv .i64 (uT .u64 (conv .u64 (aO .i64 cH cT)) 1)) x1.length=true
    · rw[if_pos cL1] at h
      obtain⟨lV,eL2,h⟩:=bsm h
      by_cases cL3:ltI (bM lV.1 x2) 0=true
      · rw[if_pos cL3] at h
        exact LT.next aK (hs:=⟨[(0,[]),(1,[]),(2,[]),(8,[]),(9,[]),(10,[])],[],false,[],[]⟩) (es:=none) [dt,.n x1.length,.row [(.int .u8 lV.1),(.int .i64 lV.2)],.call ⟨false,[]⟩ (.int .i64 (bM lV.1 x2)) [],dt] [⟨cL3⟩,⟨(uB lV.1 lV.2 x2)⟩,⟨(aI (e:=aB) eL2 2 0 2 (by decide))⟩,⟨cL1⟩,⟨(aG aB x1)⟩,⟨cL0⟩] (by kernel_rfl) (gI x1 x2 y k (aO .i64 (conv .i64 (uT .u64 (conv .u64 (aO .i64 cH cT)) 1)) 1) cT h)
      rw[if_neg cL3] at h;replace cL3:=eqf cL3
      exact LT.next aK (hs:=⟨[(0,[]),(1,[]),(2,[]),(8,[]),(9,[]),(10,[])],[],false,[],[]⟩) (es:=none) [dt,.n x1.length,.row [(.int .u8 lV.1),(.int .i64 lV.2)],.call ⟨false,[]⟩ (.int .i64 (bM lV.1 x2)) [],df] [⟨cL3⟩,⟨(uB lV.1 lV.2 x2)⟩,⟨(aI (e:=aB) eL2 2 0 2 (by decide))⟩,⟨cL1⟩,⟨(aG aB x1)⟩,⟨cL0⟩] (by kernel_rfl) (gI x1 x2 y k cH (conv .i64 (uT .u64 (conv .u64 (aO .i64 cH cT)) 1)) h)
    rw[if_neg cL1] at h;replace cL1:=eqf cL1
    cases h
  rw[if_neg cL0] at h;replace cL0:=eqf cL0
  obtain rfl:=osi h
  show LT _ _ _ _ (.st (.exit 0) (aIC x1 x2 cH))
  exact LT.done aK (hs:=⟨[],[],false,[],[]⟩) (es:=(some ⟨[(0,[]),(1,[]),(2,[]),(8,[]),(9,[])],[],false,[],[]⟩)) [df] [⟨cL0⟩] (by kernel_rfl) (fun s h=>by cases h)
theorem vB (k:Nat) (x1:aL) (x2:Int) (r:Int × Bool) (h:fH k x1 x2=some r):Tri Try.prog 89 [(.sl 2 (List.map aB x1)),(.int .u8 x2),(.fn 90 [])] [] (.tup [(.int .i64 r.1),(.bool r.2)]) []:=by
 unfold fH at h
 obtain⟨x4,e0,h⟩:=bsm h
 by_cases c2:ltI x4 (nI x1.length)=true
 · rw[if_pos c2] at h
   by_cases c3:inI x4 x1.length=true
   · rw[if_pos c3] at h
     obtain⟨x5,e4,h⟩:=bsm h
     obtain rfl:=osi h
     exact Tri.of (x:=X89) aK aSA [.n x1.length,A89_0,.out (.st .normal (aIC x1 x2 x4)),dt,dt,dt,dt,.n x1.length,dt,.row [(.int .u8 x5.1),(.int .i64 x5.2)],dt,dt,.call ⟨false,[]⟩ (.int .i64 (bM x5.1 x2)) [],dt,dt] [⟨c2⟩,⟨c2⟩,⟨(uB x5.1 x5.2 x2)⟩,⟨c2⟩,⟨c2⟩,⟨(aI (e:=aB) e4 2 0 2 (by decide))⟩,⟨c2⟩,⟨c3⟩,⟨(aG aB x1)⟩,⟨c2⟩,⟨c2⟩,⟨c2⟩,⟨c2⟩,⟨(LT.block (gI x1 x2 _ k 0 (nI x1.length) e0))⟩,⟨(aG aB x1)⟩] (by kernel_rfl)
   rw[if_neg c3] at h;replace c3:=eqf c3
   cases h
 rw[if_neg c2] at h;replace c2:=eqf c2
 obtain rfl:=osi h
 exact Tri.of (x:=X89) aK aSA [.n x1.length,A89_0,.out (.st .normal (aIC x1 x2 x4)),df,df,df,df,df,df,df,df,df] [⟨c2⟩,⟨c2⟩,⟨c2⟩,⟨c2⟩,⟨c2⟩,⟨c2⟩,⟨c2⟩,⟨c2⟩,⟨c2⟩,⟨(LT.block (gI x1 x2 _ k 0 (nI x1.length) e0))⟩,⟨(aG aB x1)⟩] (by kernel_rfl)
end Go.Ws

namespace Go.Ws
open Go.Proofs
set_option linter.unusedSimpArgs false
set_option linter.unusedVariables false
set_option maxRecDepth 1000000
set_option maxHeartbeats 4000000
noncomputable def X72:Ctx:=⟨Try.f72,[],true⟩
theorem sO (k:Nat) (x1:aL) (x2:Int) (r:Int × Bool) (h:sA k x1 x2=some r):Tri Try.prog 72 [(.sl 2 (List.map aB x1)),(.int .u8 x2)] [] (.tup [(.int .i64 r.1),(.bool r.2)]) []:=by
 unfold sA at h
 obtain⟨x3,e0,h⟩:=bsm h
 obtain rfl:=osi h
 exact Tri.of (x:=X72) aK facts72 [.call ⟨true,[]⟩ (.tup [(.int .i64 x3.1),(.bool x3.2)]) []] [⟨(vB k x1 x2 _ e0)⟩] (by kernel_rfl)
end Go.Ws

namespace Go.Ws
open Go.Proofs
set_option linter.unusedSimpArgs false
set_option linter.unusedVariables false
set_option maxRecDepth 1000000
set_option maxHeartbeats 4000000
theorem aF5 (k:Nat) (x1:Int) (x2:Int) (x3:aL) (r:aL) (h:q7 k x1 x2 x3=some r):Tri Try.prog 74 [(.ref 2 0 0 0 x3.length .virt),(.int .i64 x1),(.int .i64 x2)] [(.arr 2 (List.map aB x3) 0 0 false)] (.ref 2 0 1 0 r.length .full) [(.arr 2 (List.map aB r) 1 1 false)]:=aN2 _ h
end Go.Ws

namespace Go.Ws
open Go.Proofs
set_option linter.unusedSimpArgs false
set_option linter.unusedVariables false
set_option maxRecDepth 1000000
set_option maxHeartbeats 4000000
theorem vV (k:Nat) (x1:Int) (x2:aL) (x3:aL) (r:aL) (h:nL k x1 x2 x3=some r):Tri Try.prog 73 [(.ref 2 0 0 0 x2.length .virt),(.int .i64 x1),(.ref 2 1 0 0 x3.length .full)] [(.arr 2 (List.map aB x2) 0 0 false),(.arr 2 (List.map aB x3) 0 0 false)] (.ref 2 0 1 0 r.length .full) [(.arr 2 (List.map aB r) 1 1 false),(.arr 2 (List.map aB x3) 0 0 false)]:=ins_ok73 _ h rfl
end Go.Ws

namespace Go.Ws
open Go.Proofs
set_option linter.unusedSimpArgs false
set_option linter.unusedVariables false
set_option maxRecDepth 1000000
set_option maxHeartbeats 4000000
theorem aD4 (k:Nat) (x1:Int) (x2:Int) (x3:aL) (r:aL) (h:oN k x1 x2 x3=some r):Tri Try.prog 74 [(.ref 2 0 1 0 x3.length .full),(.int .i64 x1),(.int .i64 x2)] [(.arr 2 (List.map aB x3) 1 1 false)] (.ref 2 0 2 0 r.length .full) [(.arr 2 (List.map aB r) 2 2 false)]:=aN2 _ h
end Go.Ws

namespace Go.Ws
open Go.Proofs
set_option linter.unusedSimpArgs false
set_option linter.unusedVariables false
set_option maxRecDepth 1000000
set_option maxHeartbeats 4000000
noncomputable def X51:Ctx:=⟨Try.f51,[],true⟩
noncomputable def L51_0:Code:=at_ Try.f51 [1,1,1,1,0,1,4,5]
def S51_0 (x2:aL) (cI:Int) (aU:aL):St:=⟨mkT 67 [(0,(.ref 2 0 0 0 aU.length .virt)),(22,(.sl 2 (List.map aB x2))),(23,(.int .i64 (nI x2.length))),(24,(.int .i64 cI))],[(.arr 2 (List.map aB aU) 0 0 false)]⟩
def aL7 (aPT:aL):St:=⟨mkT 67 [(0,(.ref 2 0 0 0 aPT.length .virt))],[(.arr 2 (List.map aB aPT) 0 0 false)]⟩
def O51_0 (x2:aL) (y:(aL)):GX:=.st (.exit 0) (aL7 y)
def A51_0 (bA:Int × Int):Ans:=.row [(.int .u8 bA.1),(.int .i64 bA.2)]
def A51_1 (aY:Int × Bool):Ans:=.call ⟨true,[]⟩ (.tup [(.int .i64 aY.1),(.bool aY.2)]) []
def A51_2 (x1:aL):Ans:=.call ⟨true,[]⟩ (.ref 2 0 0 0 x1.length .virt) [(.arr 2 (List.map aB x1) 0 0 false)]
theorem nH (x2:aL) (y:(aL)):∀(k:Nat) (cI:Int) (aU:aL),eW k x2 cI aU=some y→LT Try.prog X51 L51_0 (S51_0 x2 cI aU) (O51_0 x2 y)
 | 0,cI,aU,h=>by cases h
 | k+1,cI,aU,h=>by
  rw[eW] at h
  by_cases cL0:ltI cI (nI x2.length)=true
  · rw[if_pos cL0] at h
    by_cases cL1:inI cI x2.length=true
    · rw[if_pos cL1] at h
      obtain⟨bA,eL2,h⟩:=bsm h
      obtain⟨aY,eL3,h⟩:=bsm h
      by_cases cL4:aY.2=true
      · rw[if_pos cL4] at h
        by_cases cL5:inI aY.1 aU.length=true
        · rw[if_pos cL5] at h
          obtain⟨aX,eL6,h⟩:=bsm h
          obtain⟨bQ,eL7,h⟩:=bsm h
          by_cases cL8:eqI bQ.2 0=true
          · rw[if_pos cL8] at h
            obtain⟨hX,eL9,h⟩:=bsm h
            exact LT.next aK (hs:=⟨[(0,[]),(22,[]),(23,[]),(24,[])],[⟨.tmp 0,[],some 2⟩],false,[],[]⟩) (es:=none) [dt,.n x2.length,(A51_0 bA),(A51_1 aY),.rows (List.map aB aU),df,.row [(.int .i64 aX.2)],.rows (List.map aB (List.set aU (tN aY.1) (aX.1,aO .i64 aX.2 bA.2))),.row [(.int .i64 bQ.2)],dt,.call ⟨false,[]⟩ (.ref 2 0 1 0 hX.length .full) [(.arr 2 (List.map aB hX) 1 1 false)],.n hX.length,.rows (List.map aB hX)] [⟨(bU aB (l:=hX) (n:=hX.length) rfl)⟩,⟨(rfl:hX.length=hX.length)⟩,⟨(zle hX.length)⟩,⟨(by have hh:=(aF5 k aY.1 (aO .i64 aY.1 1) (List.set aU (tN aY.1) (aX.1,aO .i64 aX.2 bA.2)) _ eL9);simp only[List.length_set] at hh;exact hh)⟩,⟨cL8⟩,⟨(aI (e:=aB) eL7 2 1 1 (by decide))⟩,⟨cL5⟩,⟨(rX (e:=aB) eL6 1 [(.int .i64 (aO .i64 aX.2 bA.2))] (aX.1,aO .i64 aX.2 bA.2) rfl)⟩,⟨cL5⟩,⟨(aI (e:=aB) eL6 2 1 1 (by decide))⟩,⟨cL5⟩,⟨(nF cL4)⟩,⟨(sO k aU bA.1 _ eL3)⟩,⟨(aS aB (l:=aU) (n:=aU.length) rfl)⟩,⟨(bB aB (Nat.le_refl aU.length):0+aU.length≤(List.map aB aU).length)⟩,⟨(aI (e:=aB) eL2 2 0 2 (by decide))⟩,⟨cL1⟩,⟨(aG aB x2)⟩,⟨cL0⟩] (by kernel_rfl) (nH x2 y k (aO .i64 cI 1) hX h)
          rw[if_neg cL8] at h;replace cL8:=eqf cL8
          exact LT.next aK (hs:=⟨[(0,[]),(22,[]),(23,[]),(24,[])],[⟨.tmp 0,[],some 2⟩],false,[],[]⟩) (es:=none) [dt,.n x2.length,(A51_0 bA),(A51_1 aY),.rows (List.map aB aU),df,.row [(.int .i64 aX.2)],.rows (List.map aB (List.set aU (tN aY.1) (aX.1,aO .i64 aX.2 bA.2))),.row [(.int .i64 bQ.2)],df,.n ((List.set aU (tN aY.1) (aX.1,aO .i64 aX.2 bA.2)).length),.rows (List.map aB (List.set aU (tN aY.1) (aX.1,aO .i64 aX.2 bA.2)))] [⟨(bU aB (l:=(List.set aU (tN aY.1) (aX.1,aO .i64 aX.2 bA.2))) (n:=aU.length) (by simp:aU.length=(List.set aU (tN aY.1) (aX.1,aO .i64 aX.2 bA.2)).length))⟩,⟨((by simp:aU.length=List.length (α:=Int × Int) (List.set aU (tN aY.1) (aX.1,aO .i64 aX.2 bA.2))):aU.length=(List.set aU (tN aY.1) (aX.1,aO .i64 aX.2 bA.2)).length)⟩,⟨(zle aU.length)⟩,⟨cL8⟩,⟨(aI (e:=aB) eL7 2 1 1 (by decide))⟩,⟨cL5⟩,⟨(rX (e:=aB) eL6 1 [(.int .i64 (aO .i64 aX.2 bA.2))] (aX.1,aO .i64 aX.2 bA.2) rfl)⟩,⟨cL5⟩,⟨(aI (e:=aB) eL6 2 1 1 (by decide))⟩,⟨cL5⟩,⟨(nF cL4)⟩,⟨(sO k aU bA.1 _ eL3)⟩,⟨(aS aB (l:=aU) (n:=aU.length) rfl)⟩,⟨(bB aB (Nat.le_refl aU.length):0+aU.length≤(List.map aB aU).length)⟩,⟨(aI (e:=aB) eL2 2 0 2 (by decide))⟩,⟨cL1⟩,⟨(aG aB x2)⟩,⟨cL0⟩] (by kernel_rfl) (nH x2 y k (aO .i64 cI 1) (List.set aU (tN aY.1) (aX.1,aO .i64 aX.2 bA.2)) h)
        rw[if_neg cL5] at h;replace cL5:=eqf cL5
        cases h
      rw[if_neg cL4] at h;replace cL4:=eqf cL4
      obtain⟨aX,eL5,h⟩:=bsm h
      by_cases cL6:inI aY.1 aX.length=true
      · rw[if_pos cL6] at h
        obtain⟨bQ,eL7,h⟩:=bsm h
        obtain⟨hX,eL8,h⟩:=bsm h
        by_cases cL9:eqI hX.2 0=true
        · rw[if_pos cL9] at h
          obtain⟨mQ,eL10,h⟩:=bsm h
          exact LT.next aK (hs:=⟨[(0,[]),(22,[]),(23,[]),(24,[])],[⟨.tmp 0,[],some 2⟩],false,[],[]⟩) (es:=none) [dt,.n x2.length,(A51_0 bA),(A51_1 aY),.rows (List.map aB aU),dt,.call ⟨false,[]⟩ (.ref 2 0 1 0 aX.length .full) [(.arr 2 (List.map aB aX) 1 1 false),(.arr 2 (List.map aB [(bA.1,0)]) 0 0 false)],.row [(.int .i64 bQ.2)],.rows (List.map aB (List.set aX (tN aY.1) (bQ.1,aO .i64 bQ.2 bA.2))),.row [(.int .i64 hX.2)],dt,.call ⟨false,[]⟩ (.ref 2 0 2 0 mQ.length .full) [(.arr 2 (List.map aB mQ) 2 2 false)],.n mQ.length,.rows (List.map aB mQ)] [⟨(bU aB (l:=mQ) (n:=mQ.length) rfl)⟩,⟨(rfl:mQ.length=mQ.length)⟩,⟨(zle mQ.length)⟩,⟨(by have hh:=(aD4 k aY.1 (aO .i64 aY.1 1) (List.set aX (tN aY.1) (bQ.1,aO .i64 bQ.2 bA.2)) _ eL10);simp only[List.length_set] at hh;exact hh)⟩,⟨cL9⟩,⟨(aI (e:=aB) eL8 2 1 1 (by decide))⟩,⟨cL6⟩,⟨(rX (e:=aB) eL7 1 [(.int .i64 (aO .i64 bQ.2 bA.2))] (bQ.1,aO .i64 bQ.2 bA.2) rfl)⟩,⟨cL6⟩,⟨(aI (e:=aB) eL7 2 1 1 (by decide))⟩,⟨cL6⟩,⟨(vV k aY.1 aU [(bA.1,0)] _ eL5)⟩,⟨(nT cL4)⟩,⟨(sO k aU bA.1 _ eL3)⟩,⟨(aS aB (l:=aU) (n:=aU.length) rfl)⟩,⟨(bB aB (Nat.le_refl aU.length):0+aU.length≤(List.map aB aU).length)⟩,⟨(aI (e:=aB) eL2 2 0 2 (by decide))⟩,⟨cL1⟩,⟨(aG aB x2)⟩,⟨cL0⟩] (by kernel_rfl) (nH x2 y k (aO .i64 cI 1) mQ h)
        rw[if_neg cL9] at h;replace cL9:=eqf cL9
        exact LT.next aK (hs:=⟨[(0,[]),(22,[]),(23,[]),(24,[])],[⟨.tmp 0,[],some 2⟩],false,[],[]⟩) (es:=none) [dt,.n x2.length,(A51_0 bA),(A51_1 aY),.rows (List.map aB aU),dt,.call ⟨false,[]⟩ (.ref 2 0 1 0 aX.length .full) [(.arr 2 (List.map aB aX) 1 1 false),(.arr 2 (List.map aB [(bA.1,0)]) 0 0 false)],.row [(.int .i64 bQ.2)],.rows (List.map aB (List.set aX (tN aY.1) (bQ.1,aO .i64 bQ.2 bA.2))),.row [(.int .i64 hX.2)],df,.n ((List.set aX (tN aY.1) (bQ.1,aO .i64 bQ.2 bA.2)).length),.rows (List.map aB (List.set aX (tN aY.1) (bQ.1,aO .i64 bQ.2 bA.2)))] [⟨(bU aB (l:=(List.set aX (tN aY.1) (bQ.1,aO .i64 bQ.2 bA.2))) (n:=aX.length) (by simp:aX.length=(List.set aX (tN aY.1) (bQ.1,aO .i64 bQ.2 bA.2)).length))⟩,⟨((by simp:aX.length=List.length (α:=Int × Int) (List.set aX (tN aY.1) (bQ.1,aO .i64 bQ.2 bA.2))):aX.length=(List.set aX (tN aY.1) (bQ.1,aO .i64 bQ.2 bA.2)).length)⟩,⟨(zle aX.length)⟩,⟨cL9⟩,⟨(aI (e:=aB) eL8 2 1 1 (by decide))⟩,⟨cL6⟩,⟨(rX (e:=aB) eL7 1 [(.int .i64 (aO .i64 bQ.2 bA.2))] (bQ.1,aO .i64 bQ.2 bA.2) rfl)⟩,⟨cL6⟩,⟨(aI (e:=aB) eL7 2 1 1 (by decide))⟩,⟨cL6⟩,⟨(vV k aY.1 aU [(bA.1,0)] _ eL5)⟩,⟨(nT cL4)⟩,⟨(sO k aU bA.1 _ eL3)⟩,⟨(aS aB (l:=aU) (n:=aU.length) rfl)⟩,⟨(bB aB (Nat.le_refl aU.length):0+aU.length≤(List.map aB aU).length)⟩,⟨(aI (e:=aB) eL2 2 0 2 (by decide))⟩,⟨cL1⟩,⟨(aG aB x2)⟩,⟨cL0⟩] (by kernel_rfl) (nH x2 y k (aO .i64 cI 1) (List.set aX (tN aY.1) (bQ.1,aO .i64 bQ.2 bA.2)) h)
      rw[if_neg cL6] at h;replace cL6:=eqf cL6
      cases h
    rw[if_neg cL1] at h;replace cL1:=eqf cL1
    cases h
  rw[if_neg cL0] at h;replace cL0:=eqf cL0
  obtain rfl:=osi h
  show LT _ _ _ _ (.st (.exit 0) (aL7 aU))
  exact LT.done aK (hs:=⟨[],[],false,[],[]⟩) (es:=(some ⟨[(0,[])],[⟨.tmp 0,[],none⟩],false,[],[]⟩)) [df] [⟨cL0⟩] (by kernel_rfl) (fun s h=>by cases h)
theorem qZ (k:Nat) (x1:aL) (x2:aL) (r:aL × Int) (h:nU k x1 x2=some r):Tri Try.prog 51 [(.sl 2 (List.map aB x1)),(.sl 2 (List.map aB x2))] [] (.tup [(.sl 2 (List.map aB r.1)),(.int .i64 r.2)]) []:=by
 unfold nU at h
 obtain⟨x3,e0,h⟩:=bsm h
 obtain⟨x4,e1,h⟩:=bsm h
 by_cases c2:x4=true
 · rw[if_pos c2] at h
   obtain⟨x5,e3,h⟩:=bsm h
   by_cases c4:x5=true
   · rw[if_pos c4] at h
     obtain rfl:=osi h
     exact Tri.of (x:=X51) aK aMD [(A51_2 x1),.call ⟨true,[]⟩ (.bool x4) [],.rows (List.map aB x1),df,df,df,.call ⟨true,[]⟩ (.bool x5) [],df,dt,.rows (List.map aB x1)] [⟨(aS aB (l:=x1) (n:=x1.length) rfl)⟩,⟨(bB aB (Nat.le_refl x1.length):0+x1.length≤(List.map aB x1).length)⟩,⟨c4⟩,⟨(nF c2)⟩,⟨(s4 k x2 _ e3)⟩,⟨(nF c2)⟩,⟨(nF c2)⟩,⟨(nF c2)⟩,⟨(vL k x1 _ e1)⟩,⟨(aS aB (l:=x1) (n:=x1.length) rfl)⟩,⟨(bB aB (Nat.le_refl x1.length):0+x1.length≤(List.map aB x1).length)⟩,⟨(rJ k x1 _ e0)⟩] (by kernel_rfl)
   rw[if_neg c4] at h;replace c4:=eqf c4
   obtain⟨x7,e5,h⟩:=bsm h
   obtain rfl:=osi h
   exact Tri.of (x:=X51) aK aMD [(A51_2 x1),.call ⟨true,[]⟩ (.bool x4) [],.rows (List.map aB x1),df,df,df,.call ⟨true,[]⟩ (.bool x5) [],df,df,.n x2.length,.norm 2 ⟨[(0,[]),(22,[]),(23,[]),(24,[])],[⟨.tmp 0,[],some 2⟩],false,[],[]⟩,.n x1.length,.rows (List.map aB x1),.out (.st .normal (aL7 x7)),.rows (List.map aB x7)] [⟨(aS aB (l:=x7) (n:=x7.length) rfl)⟩,⟨(bB aB (Nat.le_refl x7.length):0+x7.length≤(List.map aB x7).length)⟩,⟨(LT.block (nH x2 _ k 0 x1 e5))⟩,⟨(bU aB (l:=x1) (n:=x1.length) rfl)⟩,⟨(rfl:x1.length=x1.length)⟩,⟨(zle x1.length)⟩,⟨(aG aB x2)⟩,⟨c4⟩,⟨(nF c2)⟩,⟨(s4 k x2 _ e3)⟩,⟨(nF c2)⟩,⟨(nF c2)⟩,⟨(nF c2)⟩,⟨(vL k x1 _ e1)⟩,⟨(aS aB (l:=x1) (n:=x1.length) rfl)⟩,⟨(bB aB (Nat.le_refl x1.length):0+x1.length≤(List.map aB x1).length)⟩,⟨(rJ k x1 _ e0)⟩] (by kernel_rfl)
 rw[if_neg c2] at h;replace c2:=eqf c2
 obtain rfl:=osi h
 exact Tri.of (x:=X51) aK aMD [(A51_2 x1),.call ⟨true,[]⟩ (.bool x4) [],.rows (List.map aB x1),dt,dt,dt,dt,dt,.rows (List.map aB x1)] [⟨(aS aB (l:=x1) (n:=x1.length) rfl)⟩,⟨(bB aB (Nat.le_refl x1.length):0+x1.length≤(List.map aB x1).length)⟩,⟨rT⟩,⟨(nT c2)⟩,⟨(nT c2)⟩,⟨(nT c2)⟩,⟨(nT c2)⟩,⟨(vL k x1 _ e1)⟩,⟨(aS aB (l:=x1) (n:=x1.length) rfl)⟩,⟨(bB aB (Nat.le_refl x1.length):0+x1.length≤(List.map aB x1).length)⟩,⟨(rJ k x1 _ e0)⟩] (by kernel_rfl)
end Go.Ws

namespace Go.Ws
open Go.Proofs
set_option linter.unusedSimpArgs false
set_option linter.unusedVariables false
set_option maxRecDepth 1000000
set_option maxHeartbeats 4000000
noncomputable def X31:Ctx:=⟨Try.f31,[],true⟩
noncomputable def L31_0:Code:=at_ Try.f31 [1,0,1,4,5]
def S31_0 (x1:aL) (x2:Int) (dW:Int):St:=⟨mkT 20 [(1,(.int .u8 x2)),(7,(.sl 2 (List.map aB x1))),(8,(.int .i64 (nI x1.length))),(9,(.int .i64 dW))],[]⟩
def aMC:St:=⟨mkT 20 [],[]⟩
def O31_0 (x1:aL) (x2:Int) (y:(Sum (Unit) (Int))):GX:=match y with
 | .inl y=>.st (.exit 0) (aMC)
 | .inr y=>.fin (.int .i64 y) []
theorem tV (x1:aL) (x2:Int) (y:(Sum (Unit) (Int))):∀(k:Nat) (dW:Int),g7 k x1 x2 dW=some y→LT Try.prog X31 L31_0 (S31_0 x1 x2 dW) (O31_0 x1 x2 y)
 | 0,dW,h=>by cases h
 | k+1,dW,h=>by
  rw[g7] at h
  by_cases cL0:ltI dW (nI x1.length)=true
  · rw[if_pos cL0] at h
    by_cases cL1:inI dW x1.length=true
    · rw[if_pos cL1] at h
      obtain⟨oP,eL2,h⟩:=bsm h
      by_cases cL3:eqI oP.1 x2=true
      · rw[if_pos cL3] at h
        obtain rfl:=osi h
        show LT _ _ _ _ (.fin (.int .i64 oP.2) [])
        exact LT.done aK (hs:=⟨[],[],false,[],[]⟩) (es:=none) [dt,.n x1.length,.row [(.int .u8 oP.1),(.int .i64 oP.2)],dt] [⟨cL3⟩,⟨(aI (e:=aB) eL2 2 0 2 (by decide))⟩,⟨cL1⟩,⟨(aG aB x1)⟩,⟨cL0⟩] (by kernel_rfl) (fun s h=>by cases h)
      rw[if_neg cL3] at h;replace cL3:=eqf cL3
      exact LT.next aK (hs:=⟨[(1,[]),(7,[]),(8,[]),(9,[])],[],false,[],[]⟩) (es:=none) [dt,.n x1.length,.row [(.int .u8 oP.1),(.int .i64 oP.2)],df] [⟨cL3⟩,⟨(aI (e:=aB) eL2 2 0 2 (by decide))⟩,⟨cL1⟩,⟨(aG aB x1)⟩,⟨cL0⟩] (by kernel_rfl) (tV x1 x2 y k (aO .i64 dW 1) h)
    rw[if_neg cL1] at h;replace cL1:=eqf cL1
    cases h
  rw[if_neg cL0] at h;replace cL0:=eqf cL0
  obtain rfl:=osi h
  show LT _ _ _ _ (.st (.exit 0) (aMC))
  exact LT.done aK (hs:=⟨[],[],false,[],[]⟩) (es:=(some ⟨[],[],false,[],[]⟩)) [df] [⟨cL0⟩] (by kernel_rfl) (fun s h=>by cases h)
theorem yX (k:Nat) (x1:aL) (x2:Int) (r:Int) (h:pB k x1 x2=some r):Tri Try.prog 31 [(.sl 2 (List.map aB x1)),(.int .u8 x2)] [] (.int .i64 r) []:=by
 unfold pB at h
 obtain⟨x3,e0,h⟩:=bsm h
 cases x3 with
 | inl x4 =>
  simp only[Sum.elim_inl] at h
  obtain rfl:=osi h
  exact Tri.of (x:=X31) aK aRC [.n x1.length,.norm 2 ⟨[(1,[]),(7,[]),(8,[]),(9,[])],[],false,[],[]⟩,.out (.st .normal (aMC))] [⟨(LT.block (tV x1 x2 _ k 0 e0))⟩,⟨(aG aB x1)⟩] (by kernel_rfl)
 | inr x4 =>
  simp only[Sum.elim_inr] at h
  obtain rfl:=osi h
  exact Tri.of (x:=X31) aK aRC [.n x1.length,.norm 2 ⟨[(1,[]),(7,[]),(8,[]),(9,[])],[],false,[],[]⟩,.out (.fin (.int .i64 x4) [])] [⟨(LT.blockFin (id:=0) (tV x1 x2 _ k 0 e0))⟩,⟨(aG aB x1)⟩] (by kernel_rfl)
end Go.Ws

namespace Go.Ws
open Go.Proofs
set_option linter.unusedSimpArgs false
set_option linter.unusedVariables false
set_option maxRecDepth 1000000
set_option maxHeartbeats 4000000
noncomputable def X29_1001:Ctx:=⟨Try.f29,[],false⟩
theorem zT (k:Nat) (x1:aL) (r:Unit) (h:iU k x1=some r):Tri Try.prog 29 [(.inl 2 (List.map aB x1))] [] (.ref 2 0 0 0 x1.length .virt) [(.arr 2 (List.map aB x1) 0 0 false)]:=by
 unfold iU at h
 by_cases c0:bJ (x1.length*16)=true
 · rw[if_pos c0] at h
   obtain rfl:=osi h
   exact Tri.of (x:=X29_1001) aK aR4 [df,.n x1.length,.norm 0 ⟨[(2,[])],[⟨.tmp 2,[],some 2⟩],false,[],[]⟩,.n x1.length,.rows (List.map aB x1)] [⟨(bU aB (l:=x1) (n:=x1.length) rfl)⟩,⟨(rfl:x1.length=x1.length)⟩,⟨(zle x1.length)⟩,⟨c0⟩,⟨(aG aB x1)⟩,⟨rF⟩] (by kernel_rfl)
 rw[if_neg c0] at h;replace c0:=eqf c0
 cases h
end Go.Ws

namespace Go.Ws
open Go.Proofs
set_option linter.unusedSimpArgs false
set_option linter.unusedVariables false
set_option maxRecDepth 1000000
set_option maxHeartbeats 4000000
noncomputable def X29_1002:Ctx:=⟨Try.f29,[],false⟩
theorem zC:Tri Try.prog 29 [.nils] [] (.ref 2 0 0 0 0 .virt) [(.arr 2 (List.map aB []) 0 0 false)]:=by
 obtain⟨r,h⟩:∃r,pI=r:=⟨_,rfl⟩
 try rw[h]
 unfold pI at h
 obtain rfl:=h
 exact Tri.of (x:=X29_1002) aK aR4 [dt,.norm 0 ⟨[(2,[])],[⟨.tmp 2,[],some 2⟩],false,[],[]⟩,.n 0,.rows (List.map aB [])] [⟨(bU aB (l:=[]) (n:=0) rfl)⟩,⟨(rfl:0=0)⟩,⟨(zle 0)⟩,⟨rT⟩] (by kernel_rfl)
end Go.Ws

namespace Go.Ws
open Go.Proofs
set_option linter.unusedSimpArgs false
set_option linter.unusedVariables false
set_option maxRecDepth 1000000
set_option maxHeartbeats 4000000
theorem fR (k:Nat) (x1:aL) (r:Unit) (h:eK k x1=some r):Tri Try.prog 29 [(.sl 2 (List.map aB x1))] [] (.ref 2 0 0 0 x1.length .virt) [(.arr 2 (List.map aB x1) 0 0 false)]:=by
 refine Tri.slOf (zT k x1 r h) fun h0=>?_
 have hx:x1=[]:=by simpa using h0
 subst hx
 exact zC
end Go.Ws

namespace Go.Ws
open Go.Proofs
set_option linter.unusedSimpArgs false
set_option linter.unusedVariables false
set_option maxRecDepth 1000000
set_option maxHeartbeats 4000000
noncomputable def X68:Ctx:=⟨Try.f68,[],false⟩
theorem nD (k:Nat) (x1:Int) (x2:aL) (x3:Bool) (x4:Int) (r:Unit) (h:oV k x1 x2 x3 x4=some r):Tri Try.prog 68 [(.agg [(.int .i64 x1),(.sl 2 (List.map aB x2)),(.bool x3),(.int .i64 x4)])] [] (.agg [(.int .i64 x1),(.ref 2 0 0 0 x2.length .virt),(.bool x3),(.int .i64 x4)]) [(.arr 2 (List.map aB x2) 0 0 false)]:=by
 unfold oV at h
 obtain⟨x5,e0,h⟩:=bsm h
 obtain rfl:=osi h
 exact Tri.of (x:=X68) aK aRK [.call ⟨true,[]⟩ (.ref 2 0 0 0 x2.length .virt) [(.arr 2 (List.map aB x2) 0 0 false)],.norm 0 ⟨[(2,[])],[⟨.tmp 2,[],none⟩,⟨.cell 0 1,[],none⟩],false,[],[]⟩] [⟨(fR k x2 _ e0)⟩] (by kernel_rfl)
end Go.Ws

namespace Go.Ws
open Go.Proofs
set_option linter.unusedSimpArgs false
set_option linter.unusedVariables false
set_option maxRecDepth 1000000
set_option maxHeartbeats 4000000
noncomputable def X43:Ctx:=⟨Try.f43,[],true⟩
theorem qD (x1:Int) (x2:Int):Tri Try.prog 43 [(.agg [(.int .u8 x1),(.int .i64 x2)])] [] (.bool (iT x1 x2)) []:=by
 obtain⟨r,h⟩:∃r,iT x1 x2=r:=⟨_,rfl⟩
 try rw[h]
 unfold iT at h
 obtain rfl:=h
 exact Tri.of (x:=X43) aK facts43 [] [] (by kernel_rfl)
end Go.Ws

namespace Go.Ws
open Go.Proofs
set_option linter.unusedSimpArgs false
set_option linter.unusedVariables false
set_option maxRecDepth 1000000
set_option maxHeartbeats 4000000
noncomputable def X60_1:Ctx:=⟨Try.f60,[],true⟩
noncomputable def L60_1_0:Code:=at_ Try.f60 [1,0,1,4,5]
def S60_1_0 (x1:aL) (cJ:Int):St:=⟨mkT 19 [(0,(.sl 2 (List.map aB x1))),(1,(.fn 43 [])),(7,(.int .i64 (nI x1.length))),(8,(.int .i64 cJ))],[]⟩
def aGT:St:=⟨mkT 19 [],[]⟩
def O60_1_0 (x1:aL) (y:(Sum (Unit) (Int))):GX:=match y with
 | .inl y=>.st (.exit 0) (aGT)
 | .inr y=>.fin (.int .i64 y) []
theorem k9 (x1:aL) (y:(Sum (Unit) (Int))):∀(k:Nat) (cJ:Int),bV k x1 cJ=some y→LT Try.prog X60_1 L60_1_0 (S60_1_0 x1 cJ) (O60_1_0 x1 y)
 | 0,cJ,h=>by cases h
 | k+1,cJ,h=>by
  rw[bV] at h
  by_cases cL0:ltI cJ (nI x1.length)=true
  · rw[if_pos cL0] at h
    by_cases cL1:inI cJ x1.length=true
    · rw[if_pos cL1] at h
      obtain⟨gP,eL2,h⟩:=bsm h
      by_cases cL3:(iT gP.1 gP.2)=true
      · rw[if_pos cL3] at h
        obtain rfl:=osi h
        show LT _ _ _ _ (.fin (.int .i64 cJ) [])
        exact LT.done aK (hs:=⟨[],[],false,[],[]⟩) (es:=none) [dt,.n x1.length,.row [(.int .u8 gP.1),(.int .i64 gP.2)],.call ⟨true,[]⟩ (.bool (iT gP.1 gP.2)) [],dt] [⟨cL3⟩,⟨(qD gP.1 gP.2)⟩,⟨(aI (e:=aB) eL2 2 0 2 (by decide))⟩,⟨cL1⟩,⟨(aG aB x1)⟩,⟨cL0⟩] (by kernel_rfl) (fun s h=>by cases h)
      rw[if_neg cL3] at h;replace cL3:=eqf cL3
      exact LT.next aK (hs:=⟨[(0,[]),(1,[]),(7,[]),(8,[])],[],false,[],[]⟩) (es:=none) [dt,.n x1.length,.row [(.int .u8 gP.1),(.int .i64 gP.2)],.call ⟨true,[]⟩ (.bool (iT gP.1 gP.2)) [],df] [⟨cL3⟩,⟨(qD gP.1 gP.2)⟩,⟨(aI (e:=aB) eL2 2 0 2 (by decide))⟩,⟨cL1⟩,⟨(aG aB x1)⟩,⟨cL0⟩] (by kernel_rfl) (k9 x1 y k (aO .i64 cJ 1) h)
    rw[if_neg cL1] at h;replace cL1:=eqf cL1
    cases h
  rw[if_neg cL0] at h;replace cL0:=eqf cL0
  obtain rfl:=osi h
  show LT _ _ _ _ (.st (.exit 0) (aGT))
  exact LT.done aK (hs:=⟨[],[],false,[],[]⟩) (es:=(some ⟨[],[],false,[],[]⟩)) [df] [⟨cL0⟩] (by kernel_rfl) (fun s h=>by cases h)
theorem yV (k:Nat) (x1:aL) (r:Int) (h:iJ k x1=some r):Tri Try.prog 60 [(.sl 2 (List.map aB x1)),(.fn 43 [])] [] (.int .i64 r) []:=by
 unfold iJ at h
 obtain⟨x2,e0,h⟩:=bsm h
 cases x2 with
 | inl x3 =>
  simp only[Sum.elim_inl] at h
  obtain rfl:=osi h
  exact Tri.of (x:=X60_1) aK aH7 [.n x1.length,.norm 2 ⟨[(0,[]),(1,[]),(7,[]),(8,[])],[],false,[],[]⟩,.out (.st .normal (aGT))] [⟨(LT.block (k9 x1 _ k 0 e0))⟩,⟨(aG aB x1)⟩] (by kernel_rfl)
 | inr x3 =>
  simp only[Sum.elim_inr] at h
  obtain rfl:=osi h
  exact Tri.of (x:=X60_1) aK aH7 [.n x1.length,.norm 2 ⟨[(0,[]),(1,[]),(7,[]),(8,[])],[],false,[],[]⟩,.out (.fin (.int .i64 x3) [])] [⟨(LT.blockFin (id:=0) (k9 x1 _ k 0 e0))⟩,⟨(aG aB x1)⟩] (by kernel_rfl)
end Go.Ws

namespace Go.Ws
open Go.Proofs
set_option linter.unusedSimpArgs false
set_option linter.unusedVariables false
set_option maxRecDepth 1000000
set_option maxHeartbeats 4000000
noncomputable def X42_1:Ctx:=⟨Try.f42,[],true⟩
theorem cZ (k:Nat) (x1:aL) (r:Bool) (h:iI k x1=some r):Tri Try.prog 42 [(.sl 2 (List.map aB x1)),(.fn 43 [])] [] (.bool r) []:=by
 unfold iI at h
 obtain⟨x2,e0,h⟩:=bsm h
 obtain rfl:=osi h
 exact Tri.of (x:=X42_1) aK aRO [.call ⟨true,[]⟩ (.int .i64 x2) []] [⟨(yV k x1 _ e0)⟩] (by kernel_rfl)
end Go.Ws

namespace Go.Ws
open Go.Proofs
set_option linter.unusedSimpArgs false
set_option linter.unusedVariables false
set_option maxRecDepth 1000000
set_option maxHeartbeats 4000000
noncomputable def X33:Ctx:=⟨Try.f33,[],true⟩
theorem bT (k:Nat) (x1:Int) (x2:aL) (x3:Bool) (x4:Int) (r:Bool) (h:nY k x1 x2 x3 x4=some r):Tri Try.prog 33 [(.agg [(.int .i64 x1),(.sl 2 (List.map aB x2)),(.bool x3),(.int .i64 x4)])] [] (.bool r) []:=by
 unfold nY at h
 by_cases c0:ltI x1 0=true
 · rw[if_pos c0] at h
   obtain rfl:=osi h
   exact Tri.of (x:=X33) aK rH [dt,dt,dt,dt,dt,dt,dt,dt,dt,dt,dt,dt,dt,dt] [⟨rT⟩,⟨rT⟩,⟨rT⟩,⟨rT⟩,⟨rT⟩,⟨rT⟩,⟨rT⟩,⟨rT⟩,⟨rT⟩,⟨rT⟩,⟨c0⟩,⟨c0⟩,⟨c0⟩,⟨c0⟩] (by kernel_rfl)
 rw[if_neg c0] at h;replace c0:=eqf c0
 by_cases c1:ltI 3 x1=true
 · rw[if_pos c1] at h
   obtain rfl:=osi h
   exact Tri.of (x:=X33) aK rH [df,df,df,df,dt,dt,dt,dt,dt,dt,dt,dt,dt,dt] [⟨rT⟩,⟨rT⟩,⟨rT⟩,⟨rT⟩,⟨rT⟩,⟨c1⟩,⟨c1⟩,⟨c1⟩,⟨c1⟩,⟨c1⟩,⟨c0⟩,⟨c0⟩,⟨c0⟩,⟨c0⟩] (by kernel_rfl)
 rw[if_neg c1] at h;replace c1:=eqf c1
 by_cases c2:ltI 50 (nI x2.length)=true
 · rw[if_pos c2] at h
   obtain rfl:=osi h
   exact Tri.of (x:=X33) aK rH [df,df,df,df,df,df,df,.n x2.length,df,df,dt,dt,dt,dt,dt] [⟨rT⟩,⟨c2⟩,⟨c2⟩,⟨c2⟩,⟨c2⟩,⟨c1⟩,⟨c1⟩,⟨(aG aB x2)⟩,⟨c1⟩,⟨c1⟩,⟨c1⟩,⟨c0⟩,⟨c0⟩,⟨c0⟩,⟨c0⟩] (by kernel_rfl)
 rw[if_neg c2] at h;replace c2:=eqf c2
 obtain⟨x5,e3,h⟩:=bsm h
 by_cases c4:x5=true
 · rw[if_pos c4] at h
   obtain rfl:=osi h
   exact Tri.of (x:=X33) aK rH [df,df,df,df,df,df,df,.n x2.length,df,df,df,df,df,.call ⟨true,[]⟩ (.bool x5) [],df,dt] [⟨c4⟩,⟨c2⟩,⟨(cZ k x2 _ e3)⟩,⟨c2⟩,⟨c2⟩,⟨c2⟩,⟨c1⟩,⟨c1⟩,⟨(aG aB x2)⟩,⟨c1⟩,⟨c1⟩,⟨c1⟩,⟨c0⟩,⟨c0⟩,⟨c0⟩,⟨c0⟩] (by kernel_rfl)
 rw[if_neg c4] at h;replace c4:=eqf c4
 by_cases c5:eqI x4 1=true
 · rw[if_pos c5] at h
   by_cases c6:eqI x1 3=true
   · rw[if_pos c6] at h
     obtain rfl:=osi h
     exact Tri.of (x:=X33) aK rH [df,df,df,df,df,df,df,.n x2.length,df,df,df,df,df,.call ⟨true,[]⟩ (.bool x5) [],df,df,dt,dt,dt,dt,dt] [⟨c6⟩,⟨c5⟩,⟨c5⟩,⟨c5⟩,⟨c5⟩,⟨c4⟩,⟨c2⟩,⟨(cZ k x2 _ e3)⟩,⟨c2⟩,⟨c2⟩,⟨c2⟩,⟨c1⟩,⟨c1⟩,⟨(aG aB x2)⟩,⟨c1⟩,⟨c1⟩,⟨c1⟩,⟨c0⟩,⟨c0⟩,⟨c0⟩,⟨c0⟩] (by kernel_rfl)
   rw[if_neg c6] at h;replace c6:=eqf c6
   by_cases c7:eqI x4 0=true
   · rw[if_pos c7] at h
     by_cases c8:x3=true
     · rw[if_pos c8] at h
       obtain rfl:=osi h
       exact Tri.of (x:=X33) aK rH [df,df,df,df,df,df,df,.n x2.length,df,df,df,df,df,.call ⟨true,[]⟩ (.bool x5) [],df,df,dt,dt,dt,dt,df,dt,dt,dt,dt,df,df,df,dt,df,dt] [⟨c7⟩,⟨(nF c8)⟩,⟨c7⟩,⟨(nF c8)⟩,⟨(nF c8)⟩,⟨(nF c8)⟩,⟨c7⟩,⟨c7⟩,⟨c7⟩,⟨c7⟩,⟨c6⟩,⟨c5⟩,⟨c5⟩,⟨c5⟩,⟨c5⟩,⟨c4⟩,⟨c2⟩,⟨(cZ k x2 _ e3)⟩,⟨c2⟩,⟨c2⟩,⟨c2⟩,⟨c1⟩,⟨c1⟩,⟨(aG aB x2)⟩,⟨c1⟩,⟨c1⟩,⟨c1⟩,⟨c0⟩,⟨c0⟩,⟨c0⟩,⟨c0⟩] (by kernel_rfl)
     rw[if_neg c8] at h;replace c8:=eqf c8
     obtain rfl:=osi h
     exact Tri.of (x:=X33) aK rH [df,df,df,df,df,df,df,.n x2.length,df,df,df,df,df,.call ⟨true,[]⟩ (.bool x5) [],df,df,dt,dt,dt,dt,df,dt,dt,dt,dt,dt,dt,dt,dt,dt,dt] [⟨c7⟩,⟨(nT c8)⟩,⟨c7⟩,⟨(nT c8)⟩,⟨(nT c8)⟩,⟨(nT c8)⟩,⟨c7⟩,⟨c7⟩,⟨c7⟩,⟨c7⟩,⟨c6⟩,⟨c5⟩,⟨c5⟩,⟨c5⟩,⟨c5⟩,⟨c4⟩,⟨c2⟩,⟨(cZ k x2 _ e3)⟩,⟨c2⟩,⟨c2⟩,⟨c2⟩,⟨c1⟩,⟨c1⟩,⟨(aG aB x2)⟩,⟨c1⟩,⟨c1⟩,⟨c1⟩,⟨c0⟩,⟨c0⟩,⟨c0⟩,⟨c0⟩] (by kernel_rfl)
   rw[if_neg c7] at h;replace c7:=eqf c7
   obtain rfl:=osi h
   exact Tri.of (x:=X33) aK rH [df,df,df,df,df,df,df,.n x2.length,df,df,df,df,df,.call ⟨true,[]⟩ (.bool x5) [],df,df,dt,dt,dt,dt,df,df,df,df,df,df,df] [⟨c7⟩,⟨c7⟩,⟨c7⟩,⟨c7⟩,⟨c7⟩,⟨c7⟩,⟨c6⟩,⟨c5⟩,⟨c5⟩,⟨c5⟩,⟨c5⟩,⟨c4⟩,⟨c2⟩,⟨(cZ k x2 _ e3)⟩,⟨c2⟩,⟨c2⟩,⟨c2⟩,⟨c1⟩,⟨c1⟩,⟨(aG aB x2)⟩,⟨c1⟩,⟨c1⟩,⟨c1⟩,⟨c0⟩,⟨c0⟩,⟨c0⟩,⟨c0⟩] (by kernel_rfl)
 rw[if_neg c5] at h;replace c5:=eqf c5
 by_cases c6:eqI x1 3=true
 · rw[if_pos c6] at h
   obtain rfl:=osi h
   exact Tri.of (x:=X33) aK rH [df,df,df,df,df,df,df,.n x2.length,df,df,df,df,df,.call ⟨true,[]⟩ (.bool x5) [],df,df,df,df,df,df,dt] [⟨c6⟩,⟨c5⟩,⟨c5⟩,⟨c5⟩,⟨c5⟩,⟨c4⟩,⟨c2⟩,⟨(cZ k x2 _ e3)⟩,⟨c2⟩,⟨c2⟩,⟨c2⟩,⟨c1⟩,⟨c1⟩,⟨(aG aB x2)⟩,⟨c1⟩,⟨c1⟩,⟨c1⟩,⟨c0⟩,⟨c0⟩,⟨c0⟩,⟨c0⟩] (by kernel_rfl)
 rw[if_neg c6] at h;replace c6:=eqf c6
 by_cases c7:eqI x4 0=true
 · rw[if_pos c7] at h
   by_cases c8:x3=true
   · rw[if_pos c8] at h
     obtain rfl:=osi h
     exact Tri.of (x:=X33) aK rH [df,df,df,df,df,df,df,.n x2.length,df,df,df,df,df,.call ⟨true,[]⟩ (.bool x5) [],df,df,df,df,df,df,df,dt,dt,dt,dt,df,df,df,dt,df,dt] [⟨c7⟩,⟨(nF c8)⟩,⟨c7⟩,⟨(nF c8)⟩,⟨(nF c8)⟩,⟨(nF c8)⟩,⟨c7⟩,⟨c7⟩,⟨c7⟩,⟨c7⟩,⟨c6⟩,⟨c5⟩,⟨c5⟩,⟨c5⟩,⟨c5⟩,⟨c4⟩,⟨c2⟩,⟨(cZ k x2 _ e3)⟩,⟨c2⟩,⟨c2⟩,⟨c2⟩,⟨c1⟩,⟨c1⟩,⟨(aG aB x2)⟩,⟨c1⟩,⟨c1⟩,⟨c1⟩,⟨c0⟩,⟨c0⟩,⟨c0⟩,⟨c0⟩] (by kernel_rfl)
   rw[if_neg c8] at h;replace c8:=eqf c8
   obtain rfl:=osi h
   exact Tri.of (x:=X33) aK rH [df,df,df,df,df,df,df,.n x2.length,df,df,df,df,df,.call ⟨true,[]⟩ (.bool x5) [],df,df,df,df,df,df,df,dt,dt,dt,dt,dt,dt,dt,dt,dt,dt] [⟨c7⟩,⟨(nT c8)⟩,⟨c7⟩,⟨(nT c8)⟩,⟨(nT c8)⟩,⟨(nT c8)⟩,⟨c7⟩,⟨c7⟩,⟨c7⟩,⟨c7⟩,⟨c6⟩,⟨c5⟩,⟨c5⟩,⟨c5⟩,⟨c5⟩,⟨c4⟩,⟨c2⟩,⟨(cZ k x2 _ e3)⟩,⟨c2⟩,⟨c2⟩,⟨c2⟩,⟨c1⟩,⟨c1⟩,⟨(aG aB x2)⟩,⟨c1⟩,⟨c1⟩,⟨c1⟩,⟨c0⟩,⟨c0⟩,⟨c0⟩,⟨c0⟩] (by kernel_rfl)
 rw[if_neg c7] at h;replace c7:=eqf c7
 obtain rfl:=osi h
 exact Tri.of (x:=X33) aK rH [df,df,df,df,df,df,df,.n x2.length,df,df,df,df,df,.call ⟨true,[]⟩ (.bool x5) [],df,df,df,df,df,df,df,df,df,df,df,df,df] [⟨c7⟩,⟨c7⟩,⟨c7⟩,⟨c7⟩,⟨c7⟩,⟨c7⟩,⟨c6⟩,⟨c5⟩,⟨c5⟩,⟨c5⟩,⟨c5⟩,⟨c4⟩,⟨c2⟩,⟨(cZ k x2 _ e3)⟩,⟨c2⟩,⟨c2⟩,⟨c2⟩,⟨c1⟩,⟨c1⟩,⟨(aG aB x2)⟩,⟨c1⟩,⟨c1⟩,⟨c1⟩,⟨c0⟩,⟨c0⟩,⟨c0⟩,⟨c0⟩] (by kernel_rfl)
end Go.Ws

namespace Go.Ws
open Go.Proofs
set_option linter.unusedSimpArgs false
set_option linter.unusedVariables false
set_option maxRecDepth 1000000
set_option maxHeartbeats 4000000
noncomputable def X47:Ctx:=⟨Try.f47,[],true⟩
def aON (x1:Int) (x2:aL) (x3:Bool) (x4:Int):Ans:=.call ⟨true,[]⟩ (.agg [(.int .i64 x1),(.ref 2 0 0 0 x2.length .virt),(.bool x3),(.int .i64 x4)]) [(.arr 2 (List.map aB x2) 0 0 false)]
def A47_1 (x5:Int) (x6:Int):Ans:=.call ⟨true,[]⟩ (.bool (iT x5 x6)) []
theorem aB2 (k:Nat) (x1:Int) (x2:aL) (x3:Bool) (x4:Int) (x5:Int) (x6:Int) (r:Int × aL × Bool × Int × Int) (h:zE k x1 x2 x3 x4 x5 x6=some r):Tri Try.prog 47 [(.agg [(.int .i64 x1),(.sl 2 (List.map aB x2)),(.bool x3),(.int .i64 x4)]),(.agg [(.int .u8 x5),(.int .i64 x6)])] [] (.tup [(.agg [(.int .i64 r.1),(.sl 2 (List.map aB r.2.1)),(.bool r.2.2.1),(.int .i64 r.2.2.2.1)]),(.int .i64 r.2.2.2.2)]) []:=by
 unfold zE at h
 obtain⟨x7,e0,h⟩:=bsm h
 obtain⟨x8,e1,h⟩:=bsm h
 by_cases c2:x8=true
 · rw[if_pos c2] at h
   by_cases c3:(iT x5 x6)=true
   · rw[if_pos c3] at h
     obtain rfl:=osi h
     exact Tri.of (x:=X47) aK aEF [(aON x1 x2 x3 x4),.call ⟨true,[]⟩ (.bool x8) [],.rows (List.map aB x2),df,df,(A47_1 x5 x6),df,dt,.rows (List.map aB x2)] [⟨(aS aB (l:=x2) (n:=x2.length) rfl)⟩,⟨(bB aB (Nat.le_refl x2.length):0+x2.length≤(List.map aB x2).length)⟩,⟨c3⟩,⟨(nF c2)⟩,⟨(qD x5 x6)⟩,⟨(nF c2)⟩,⟨(nF c2)⟩,⟨(bT k x1 x2 x3 x4 _ e1)⟩,⟨(aS aB (l:=x2) (n:=x2.length) rfl)⟩,⟨(bB aB (Nat.le_refl x2.length):0+x2.length≤(List.map aB x2).length)⟩,⟨(nD k x1 x2 x3 x4 _ e0)⟩] (by kernel_rfl)
   rw[if_neg c3] at h;replace c3:=eqf c3
   by_cases c4:eqI x1 0=true
   · rw[if_pos c4] at h
     by_cases c5:ltI (nI x2.length) 50=true
     · rw[if_pos c5] at h
       by_cases c6:bJ (((x2++[(x5,x6)]).length)*16)=true
       · rw[if_pos c6] at h
         obtain rfl:=osi h
         exact Tri.of (x:=X47) aK aEF [(aON x1 x2 x3 x4),.call ⟨true,[]⟩ (.bool x8) [],.rows (List.map aB x2),df,df,(A47_1 x5 x6),df,df,df,df,.rows (List.map aB [(x5,x6)]),.n ((x2++[(x5,x6)]).length),.n x2.length,dt,.rows (List.map aB (x2++[(x5,x6)])),.rows (List.map aB (x2++[(x5,x6)]))] [⟨(aS aB (l:=(x2++[(x5,x6)])) (n:=((x2++[(x5,x6)]).length)) rfl)⟩,⟨(bB aB (Nat.le_refl ((x2++[(x5,x6)]).length)):0+(x2++[(x5,x6)]).length≤(List.map aB (x2++[(x5,x6)])).length)⟩,⟨(gQ aB x2 [(x5,x6)])⟩,⟨(eX x2.length)⟩,⟨(aG aB x2)⟩,⟨c6⟩,⟨(by simp only[wl,List.length_map,List.map_nil,List.map_cons]<;>omega:x2.length+(List.map aB [(x5,x6)]).length=(x2++[(x5,x6)]).length)⟩,⟨(aS aB (l:=[(x5,x6)]) (n:=1) rfl)⟩,⟨(bB aB (Nat.le_refl 1):0+1≤(List.map aB [(x5,x6)]).length)⟩,⟨(nF c5)⟩,⟨(nF c4)⟩,⟨c3⟩,⟨(nF c2)⟩,⟨(qD x5 x6)⟩,⟨(nF c2)⟩,⟨(nF c2)⟩,⟨(bT k x1 x2 x3 x4 _ e1)⟩,⟨(aS aB (l:=x2) (n:=x2.length) rfl)⟩,⟨(bB aB (Nat.le_refl x2.length):0+x2.length≤(List.map aB x2).length)⟩,⟨(nD k x1 x2 x3 x4 _ e0)⟩] (by kernel_rfl)
       rw[if_neg c6] at h;replace c6:=eqf c6
       cases h
     rw[if_neg c5] at h;replace c5:=eqf c5
     obtain rfl:=osi h
     exact Tri.of (x:=X47) aK aEF [(aON x1 x2 x3 x4),.call ⟨true,[]⟩ (.bool x8) [],.rows (List.map aB x2),df,df,(A47_1 x5 x6),df,df,df,dt,.rows (List.map aB x2)] [⟨(aS aB (l:=x2) (n:=x2.length) rfl)⟩,⟨(bB aB (Nat.le_refl x2.length):0+x2.length≤(List.map aB x2).length)⟩,⟨(nT c5)⟩,⟨(nF c4)⟩,⟨c3⟩,⟨(nF c2)⟩,⟨(qD x5 x6)⟩,⟨(nF c2)⟩,⟨(nF c2)⟩,⟨(bT k x1 x2 x3 x4 _ e1)⟩,⟨(aS aB (l:=x2) (n:=x2.length) rfl)⟩,⟨(bB aB (Nat.le_refl x2.length):0+x2.length≤(List.map aB x2).length)⟩,⟨(nD k x1 x2 x3 x4 _ e0)⟩] (by kernel_rfl)
   rw[if_neg c4] at h;replace c4:=eqf c4
   obtain rfl:=osi h
   exact Tri.of (x:=X47) aK aEF [(aON x1 x2 x3 x4),.call ⟨true,[]⟩ (.bool x8) [],.rows (List.map aB x2),df,df,(A47_1 x5 x6),df,df,dt,.rows (List.map aB x2)] [⟨(aS aB (l:=x2) (n:=x2.length) rfl)⟩,⟨(bB aB (Nat.le_refl x2.length):0+x2.length≤(List.map aB x2).length)⟩,⟨(nT c4)⟩,⟨c3⟩,⟨(nF c2)⟩,⟨(qD x5 x6)⟩,⟨(nF c2)⟩,⟨(nF c2)⟩,⟨(bT k x1 x2 x3 x4 _ e1)⟩,⟨(aS aB (l:=x2) (n:=x2.length) rfl)⟩,⟨(bB aB (Nat.le_refl x2.length):0+x2.length≤(List.map aB x2).length)⟩,⟨(nD k x1 x2 x3 x4 _ e0)⟩] (by kernel_rfl)
 rw[if_neg c2] at h;replace c2:=eqf c2
 obtain rfl:=osi h
 exact Tri.of (x:=X47) aK aEF [(aON x1 x2 x3 x4),.call ⟨true,[]⟩ (.bool x8) [],.rows (List.map aB x2),dt,dt,dt,dt,.rows (List.map aB x2)] [⟨(aS aB (l:=x2) (n:=x2.length) rfl)⟩,⟨(bB aB (Nat.le_refl x2.length):0+x2.length≤(List.map aB x2).length)⟩,⟨rT⟩,⟨(nT c2)⟩,⟨(nT c2)⟩,⟨(nT c2)⟩,⟨(bT k x1 x2 x3 x4 _ e1)⟩,⟨(aS aB (l:=x2) (n:=x2.length) rfl)⟩,⟨(bB aB (Nat.le_refl x2.length):0+x2.length≤(List.map aB x2).length)⟩,⟨(nD k x1 x2 x3 x4 _ e0)⟩] (by kernel_rfl)
end Go.Ws

namespace Go.Ws
open Go.Proofs
set_option linter.unusedSimpArgs false
set_option linter.unusedVariables false
set_option maxRecDepth 1000000
set_option maxHeartbeats 4000000
noncomputable def X68_1:Ctx:=⟨Try.f68,[],true⟩
theorem bC (k:Nat) (x1:Int) (x2:aL) (x3:Bool) (x4:Int) (r:Int × aL × Bool × Int) (h:jP k x1 x2 x3 x4=some r):Tri Try.prog 68 [(.agg [(.int .i64 x1),(.sl 2 (List.map aB x2)),(.bool x3),(.int .i64 x4)])] [] (.agg [(.int .i64 r.1),(.sl 2 (List.map aB r.2.1)),(.bool r.2.2.1),(.int .i64 r.2.2.2)]) []:=by
 unfold jP at h
 obtain⟨x5,e0,h⟩:=bsm h
 obtain rfl:=osi h
 exact Tri.of (x:=X68_1) aK aRK [.call ⟨true,[]⟩ (.ref 2 0 0 0 x2.length .virt) [(.arr 2 (List.map aB x2) 0 0 false)],.rows (List.map aB x2)] [⟨(aS aB (l:=x2) (n:=x2.length) rfl)⟩,⟨(bB aB (Nat.le_refl x2.length):0+x2.length≤(List.map aB x2).length)⟩,⟨(fR k x2 _ e0)⟩] (by kernel_rfl)
end Go.Ws

namespace Go.Ws
open Go.Proofs
set_option linter.unusedSimpArgs false
set_option linter.unusedVariables false
set_option maxRecDepth 1000000
set_option maxHeartbeats 4000000
noncomputable def X48:Ctx:=⟨Try.f48,[],true⟩
def A48_0 (x6:Int × aL × Bool × Int):Ans:=.call ⟨true,[]⟩ (.agg [(.int .i64 x6.1),(.sl 2 (List.map aB x6.2.1)),(.bool x6.2.2.1),(.int .i64 x6.2.2.2)]) []
theorem aAT (k:Nat) (x1:Int) (x2:aL) (x3:Bool) (x4:Int) (x5:Bool) (r:Int × aL × Bool × Int × Int) (h:wG k x1 x2 x3 x4 x5=some r):Tri Try.prog 48 [(.agg [(.int .i64 x1),(.sl 2 (List.map aB x2)),(.bool x3),(.int .i64 x4)]),(.bool x5)] [] (.tup [(.agg [(.int .i64 r.1),(.sl 2 (List.map aB r.2.1)),(.bool r.2.2.1),(.int .i64 r.2.2.2.1)]),(.int .i64 r.2.2.2.2)]) []:=by
 unfold wG at h
 obtain⟨x6,e0,h⟩:=bsm h
 obtain⟨x7,e1,h⟩:=bsm h
 by_cases c2:x7=true
 · rw[if_pos c2] at h
   by_cases c3:eqI x6.1 0=true
   · rw[if_pos c3] at h
     by_cases c4:x5=true
     · rw[if_pos c4] at h
       obtain rfl:=osi h
       exact Tri.of (x:=X48) aK aII [(A48_0 x6),.call ⟨true,[]⟩ (.bool x7) [],df,df,dt] [⟨c4⟩,⟨(nF c3)⟩,⟨(nF c2)⟩,⟨(bT k x6.1 x6.2.1 x6.2.2.1 x6.2.2.2 _ e1)⟩,⟨(bC k x1 x2 x3 x4 _ e0)⟩] (by kernel_rfl)
     rw[if_neg c4] at h;replace c4:=eqf c4
     obtain rfl:=osi h
     exact Tri.of (x:=X48) aK aII [(A48_0 x6),.call ⟨true,[]⟩ (.bool x7) [],df,df,df] [⟨c4⟩,⟨(nF c3)⟩,⟨(nF c2)⟩,⟨(bT k x6.1 x6.2.1 x6.2.2.1 x6.2.2.2 _ e1)⟩,⟨(bC k x1 x2 x3 x4 _ e0)⟩] (by kernel_rfl)
   rw[if_neg c3] at h;replace c3:=eqf c3
   obtain rfl:=osi h
   exact Tri.of (x:=X48) aK aII [(A48_0 x6),.call ⟨true,[]⟩ (.bool x7) [],df,dt] [⟨(nT c3)⟩,⟨(nF c2)⟩,⟨(bT k x6.1 x6.2.1 x6.2.2.1 x6.2.2.2 _ e1)⟩,⟨(bC k x1 x2 x3 x4 _ e0)⟩] (by kernel_rfl)
 rw[if_neg c2] at h;replace c2:=eqf c2
 obtain rfl:=osi h
 exact Tri.of (x:=X48) aK aII [(A48_0 x6),.call ⟨true,[]⟩ (.bool x7) [],dt] [⟨(nT c2)⟩,⟨(bT k x6.1 x6.2.1 x6.2.2.1 x6.2.2.2 _ e1)⟩,⟨(bC k x1 x2 x3 x4 _ e0)⟩] (by kernel_rfl)
end Go.Ws

namespace Go.Ws
open Go.Proofs
set_option linter.unusedSimpArgs false
set_option linter.unusedVariables false
set_option maxRecDepth 1000000
set_option maxHeartbeats 4000000
noncomputable def X49:Ctx:=⟨Try.f49,[],true⟩
def A49_0 (x5:Int × aL × Bool × Int):Ans:=.call ⟨true,[]⟩ (.agg [(.int .i64 x5.1),(.sl 2 (List.map aB x5.2.1)),(.bool x5.2.2.1),(.int .i64 x5.2.2.2)]) []
def A49_1:Ans:=.norm 0 ⟨[(2,[]),(3,[(0,2)]),(4,[])],[⟨.tmp 2,[],none⟩],false,[],[]⟩
theorem aC9 (k:Nat) (x1:Int) (x2:aL) (x3:Bool) (x4:Int) (r:Int × aL × Bool × Int × aL × Int) (h:t7 k x1 x2 x3 x4=some r):Tri Try.prog 49 [(.agg [(.int .i64 x1),(.sl 2 (List.map aB x2)),(.bool x3),(.int .i64 x4)])] [] (.tup [(.agg [(.int .i64 r.1),(.sl 2 (List.map aB r.2.1)),(.bool r.2.2.1),(.int .i64 r.2.2.2.1)]),(.sl 2 (List.map aB r.2.2.2.2.1)),(.int .i64 r.2.2.2.2.2)]) []:=by
 unfold t7 at h
 obtain⟨x5,e0,h⟩:=bsm h
 obtain⟨x6,e1,h⟩:=bsm h
 by_cases c2:x6=true
 · rw[if_pos c2] at h
   by_cases c3:eqI x5.1 1=true
   · rw[if_pos c3] at h
     by_cases c4:x5.2.2.1=true
     · rw[if_pos c4] at h
       obtain rfl:=osi h
       exact Tri.of (x:=X49) aK aIG [(A49_0 x5),.call ⟨true,[]⟩ (.bool x6) [],df,df,dt,A49_1] [⟨c4⟩,⟨(nF c3)⟩,⟨(nF c2)⟩,⟨(bT k x5.1 x5.2.1 x5.2.2.1 x5.2.2.2 _ e1)⟩,⟨(bC k x1 x2 x3 x4 _ e0)⟩] (by kernel_rfl)
     rw[if_neg c4] at h;replace c4:=eqf c4
     obtain⟨x7,e5,h⟩:=bsm h
     obtain rfl:=osi h
     exact Tri.of (x:=X49) aK aIG [(A49_0 x5),.call ⟨true,[]⟩ (.bool x6) [],df,df,df,.call ⟨true,[]⟩ (.ref 2 0 0 0 x5.2.1.length .virt) [(.arr 2 (List.map aB x5.2.1) 0 0 false)],.rows (List.map aB x5.2.1)] [⟨(aS aB (l:=x5.2.1) (n:=x5.2.1.length) rfl)⟩,⟨(bB aB (Nat.le_refl x5.2.1.length):0+x5.2.1.length≤(List.map aB x5.2.1).length)⟩,⟨(fR k x5.2.1 _ e5)⟩,⟨c4⟩,⟨(nF c3)⟩,⟨(nF c2)⟩,⟨(bT k x5.1 x5.2.1 x5.2.2.1 x5.2.2.2 _ e1)⟩,⟨(bC k x1 x2 x3 x4 _ e0)⟩] (by kernel_rfl)
   rw[if_neg c3] at h;replace c3:=eqf c3
   obtain rfl:=osi h
   exact Tri.of (x:=X49) aK aIG [(A49_0 x5),.call ⟨true,[]⟩ (.bool x6) [],df,dt,A49_1] [⟨(nT c3)⟩,⟨(nF c2)⟩,⟨(bT k x5.1 x5.2.1 x5.2.2.1 x5.2.2.2 _ e1)⟩,⟨(bC k x1 x2 x3 x4 _ e0)⟩] (by kernel_rfl)
 rw[if_neg c2] at h;replace c2:=eqf c2
 obtain rfl:=osi h
 exact Tri.of (x:=X49) aK aIG [(A49_0 x5),.call ⟨true,[]⟩ (.bool x6) [],dt,A49_1] [⟨(nT c2)⟩,⟨(bT k x5.1 x5.2.1 x5.2.2.1 x5.2.2.2 _ e1)⟩,⟨(bC k x1 x2 x3 x4 _ e0)⟩] (by kernel_rfl)
end Go.Ws

namespace Go.Ws
open Go.Proofs
set_option linter.unusedSimpArgs false
set_option linter.unusedVariables false
set_option maxRecDepth 1000000
set_option maxHeartbeats 4000000
theorem yK (k:Nat) (x1:aL) (r:aL) (h:nE k x1=some r):Tri Try.prog 35 [(.sl 2 (List.map aB x1))] [] (.ref 2 0 0 0 r.length .virt) [(.arr 2 (List.map aB r) 0 0 false)]:=opp_tri h
end Go.Ws

namespace Go.Ws
open Go.Proofs
set_option linter.unusedSimpArgs false
set_option linter.unusedVariables false
set_option maxRecDepth 1000000
set_option maxHeartbeats 4000000
noncomputable def X50:Ctx:=⟨Try.f50,[],true⟩
def zG (x6:Int × aL × Bool × Int):Ans:=.call ⟨true,[]⟩ (.agg [(.int .i64 x6.1),(.sl 2 (List.map aB x6.2.1)),(.bool x6.2.2.1),(.int .i64 x6.2.2.2)]) []
def aFD:Ans:=.norm 0 ⟨[(4,[]),(5,[(0,2)]),(6,[])],[⟨.tmp 4,[],none⟩],false,[],[]⟩
theorem sQ (k:Nat) (x1:Int) (x2:aL) (x3:Bool) (x4:Int) (x5:Int) (r:Int × aL × Bool × Int × aL × Int) (h:pS k x1 x2 x3 x4 x5=some r):Tri Try.prog 50 [(.agg [(.int .i64 x1),(.sl 2 (List.map aB x2)),(.bool x3),(.int .i64 x4)]),(.int .i64 x5)] [] (.tup [(.agg [(.int .i64 r.1),(.sl 2 (List.map aB r.2.1)),(.bool r.2.2.1),(.int .i64 r.2.2.2.1)]),(.sl 2 (List.map aB r.2.2.2.2.1)),(.int .i64 r.2.2.2.2.2)]) []:=by
 unfold pS at h
 obtain⟨x6,e0,h⟩:=bsm h
 obtain⟨x7,e1,h⟩:=bsm h
 by_cases c2:x7=true
 · rw[if_pos c2] at h
   by_cases c3:eqI x5 1=true
   · rw[if_pos c3] at h
     by_cases c4:eqI x6.2.2.2 x5=true
     · rw[if_pos c4] at h
       obtain rfl:=osi h
       exact Tri.of (x:=X50) aK qG [(zG x6),.call ⟨true,[]⟩ (.bool x7) [],df,df,df,df,df,df,df,df,df,dt,aFD] [⟨c4⟩,⟨rF⟩,⟨(nF c2)⟩,⟨(nF c3)⟩,⟨(nF c2)⟩,⟨(nF c3)⟩,⟨(nF c3)⟩,⟨(nF c2)⟩,⟨(nF c2)⟩,⟨(nF c2)⟩,⟨(bT k x6.1 x6.2.1 x6.2.2.1 x6.2.2.2 _ e1)⟩,⟨(bC k x1 x2 x3 x4 _ e0)⟩] (by kernel_rfl)
     rw[if_neg c4] at h;replace c4:=eqf c4
     by_cases c5:eqI x6.1 3=true
     · rw[if_pos c5] at h
       obtain rfl:=osi h
       exact Tri.of (x:=X50) aK qG [(zG x6),.call ⟨true,[]⟩ (.bool x7) [],df,df,df,df,df,df,df,df,df,df,dt,dt,dt,dt,dt,dt,aFD] [⟨rT⟩,⟨c5⟩,⟨c5⟩,⟨c5⟩,⟨c5⟩,⟨c5⟩,⟨c4⟩,⟨rF⟩,⟨(nF c2)⟩,⟨(nF c3)⟩,⟨(nF c2)⟩,⟨(nF c3)⟩,⟨(nF c3)⟩,⟨(nF c2)⟩,⟨(nF c2)⟩,⟨(nF c2)⟩,⟨(bT k x6.1 x6.2.1 x6.2.2.1 x6.2.2.2 _ e1)⟩,⟨(bC k x1 x2 x3 x4 _ e0)⟩] (by kernel_rfl)
     rw[if_neg c5] at h;replace c5:=eqf c5
     by_cases c6:eqI x6.1 1=true
     · rw[if_pos c6] at h
       by_cases c7:eqB (eqI x5 1) x6.2.2.1=true
       · rw[if_pos c7] at h
         obtain rfl:=osi h
         exact Tri.of (x:=X50) aK qG [(zG x6),.call ⟨true,[]⟩ (.bool x7) [],df,df,df,df,df,df,df,df,df,df,df,df,df,dt,dt,dt,df,dt,df,df,dt,aFD] [⟨c7⟩,⟨(nF c6)⟩,⟨c5⟩,⟨c3⟩,⟨c5⟩,⟨c3⟩,⟨c3⟩,⟨c3⟩,⟨c5⟩,⟨c5⟩,⟨c5⟩,⟨c4⟩,⟨rF⟩,⟨(nF c2)⟩,⟨(nF c3)⟩,⟨(nF c2)⟩,⟨(nF c3)⟩,⟨(nF c3)⟩,⟨(nF c2)⟩,⟨(nF c2)⟩,⟨(nF c2)⟩,⟨(bT k x6.1 x6.2.1 x6.2.2.1 x6.2.2.2 _ e1)⟩,⟨(bC k x1 x2 x3 x4 _ e0)⟩] (by kernel_rfl)
       rw[if_neg c7] at h;replace c7:=eqf c7
       by_cases c8:x6.2.2.1=true
       · rw[if_pos c8] at h
         obtain⟨x8,e9,h⟩:=bsm h
         obtain rfl:=osi h
         exact Tri.of (x:=X50) aK qG [(zG x6),.call ⟨true,[]⟩ (.bool x7) [],df,df,df,df,df,df,df,df,df,df,df,df,df,dt,dt,dt,df,dt,df,df,df,dt,.call ⟨true,[]⟩ (.ref 2 0 0 0 x8.length .virt) [(.arr 2 (List.map aB x8) 0 0 false)],.rows (List.map aB x8)] [⟨(aS aB (l:=x8) (n:=x8.length) rfl)⟩,⟨(bB aB (Nat.le_refl x8.length):0+x8.length≤(List.map aB x8).length)⟩,⟨(yK k x6.2.1 _ e9)⟩,⟨c8⟩,⟨c7⟩,⟨(nF c6)⟩,⟨c5⟩,⟨c3⟩,⟨c5⟩,⟨c3⟩,⟨c3⟩,⟨c3⟩,⟨c5⟩,⟨c5⟩,⟨c5⟩,⟨c4⟩,⟨rF⟩,⟨(nF c2)⟩,⟨(nF c3)⟩,⟨(nF c2)⟩,⟨(nF c3)⟩,⟨(nF c3)⟩,⟨(nF c2)⟩,⟨(nF c2)⟩,⟨(nF c2)⟩,⟨(bT k x6.1 x6.2.1 x6.2.2.1 x6.2.2.2 _ e1)⟩,⟨(bC k x1 x2 x3 x4 _ e0)⟩] (by kernel_rfl)
       rw[if_neg c8] at h;replace c8:=eqf c8
       obtain⟨x8,e9,h⟩:=bsm h
       obtain rfl:=osi h
       exact Tri.of (x:=X50) aK qG [(zG x6),.call ⟨true,[]⟩ (.bool x7) [],df,df,df,df,df,df,df,df,df,df,df,df,df,dt,dt,dt,df,dt,df,df,df,df,.call ⟨true,[]⟩ (.ref 2 0 0 0 x6.2.1.length .virt) [(.arr 2 (List.map aB x6.2.1) 0 0 false)],.rows (List.map aB x6.2.1)] [⟨(aS aB (l:=x6.2.1) (n:=x6.2.1.length) rfl)⟩,⟨(bB aB (Nat.le_refl x6.2.1.length):0+x6.2.1.length≤(List.map aB x6.2.1).length)⟩,⟨(fR k x6.2.1 _ e9)⟩,⟨c8⟩,⟨c7⟩,⟨(nF c6)⟩,⟨c5⟩,⟨c3⟩,⟨c5⟩,⟨c3⟩,⟨c3⟩,⟨c3⟩,⟨c5⟩,⟨c5⟩,⟨c5⟩,⟨c4⟩,⟨rF⟩,⟨(nF c2)⟩,⟨(nF c3)⟩,⟨(nF c2)⟩,⟨(nF c3)⟩,⟨(nF c3)⟩,⟨(nF c2)⟩,⟨(nF c2)⟩,⟨(nF c2)⟩,⟨(bT k x6.1 x6.2.1 x6.2.2.1 x6.2.2.2 _ e1)⟩,⟨(bC k x1 x2 x3 x4 _ e0)⟩] (by kernel_rfl)
     rw[if_neg c6] at h;replace c6:=eqf c6
     obtain rfl:=osi h
     exact Tri.of (x:=X50) aK qG [(zG x6),.call ⟨true,[]⟩ (.bool x7) [],df,df,df,df,df,df,df,df,df,df,df,df,df,dt,dt,dt,df,dt,df,dt,aFD] [⟨(nT c6)⟩,⟨c5⟩,⟨c3⟩,⟨c5⟩,⟨c3⟩,⟨c3⟩,⟨c3⟩,⟨c5⟩,⟨c5⟩,⟨c5⟩,⟨c4⟩,⟨rF⟩,⟨(nF c2)⟩,⟨(nF c3)⟩,⟨(nF c2)⟩,⟨(nF c3)⟩,⟨(nF c3)⟩,⟨(nF c2)⟩,⟨(nF c2)⟩,⟨(nF c2)⟩,⟨(bT k x6.1 x6.2.1 x6.2.2.1 x6.2.2.2 _ e1)⟩,⟨(bC k x1 x2 x3 x4 _ e0)⟩] (by kernel_rfl)
   rw[if_neg c3] at h;replace c3:=eqf c3
   by_cases c4:eqI x5 2=true
   · rw[if_pos c4] at h
     by_cases c5:eqI x6.2.2.2 x5=true
     · rw[if_pos c5] at h
       obtain rfl:=osi h
       exact Tri.of (x:=X50) aK qG [(zG x6),.call ⟨true,[]⟩ (.bool x7) [],df,df,df,dt,dt,df,dt,df,df,dt,aFD] [⟨c5⟩,⟨(nF c4)⟩,⟨(nF c2)⟩,⟨(nT c3)⟩,⟨(nF c2)⟩,⟨(nT c3)⟩,⟨(nT c3)⟩,⟨(nF c2)⟩,⟨(nF c2)⟩,⟨(nF c2)⟩,⟨(bT k x6.1 x6.2.1 x6.2.2.1 x6.2.2.2 _ e1)⟩,⟨(bC k x1 x2 x3 x4 _ e0)⟩] (by kernel_rfl)
     rw[if_neg c5] at h;replace c5:=eqf c5
     by_cases c6:eqI x6.1 3=true
     · rw[if_pos c6] at h
       obtain rfl:=osi h
       exact Tri.of (x:=X50) aK qG [(zG x6),.call ⟨true,[]⟩ (.bool x7) [],df,df,df,dt,dt,df,dt,df,df,df,dt,dt,dt,dt,dt,dt,aFD] [⟨rT⟩,⟨c6⟩,⟨c6⟩,⟨c6⟩,⟨c6⟩,⟨c6⟩,⟨c5⟩,⟨(nF c4)⟩,⟨(nF c2)⟩,⟨(nT c3)⟩,⟨(nF c2)⟩,⟨(nT c3)⟩,⟨(nT c3)⟩,⟨(nF c2)⟩,⟨(nF c2)⟩,⟨(nF c2)⟩,⟨(bT k x6.1 x6.2.1 x6.2.2.1 x6.2.2.2 _ e1)⟩,⟨(bC k x1 x2 x3 x4 _ e0)⟩] (by kernel_rfl)
     rw[if_neg c6] at h;replace c6:=eqf c6
     by_cases c7:eqB (eqI x5 1) x6.2.2.1=true
     · rw[if_pos c7] at h
       obtain rfl:=osi h
       exact Tri.of (x:=X50) aK qG [(zG x6),.call ⟨true,[]⟩ (.bool x7) [],df,df,df,dt,dt,df,dt,df,df,df,df,df,df,df,df,df,df,df,df,df,dt,aFD] [⟨c7⟩,⟨rF⟩,⟨c6⟩,⟨c3⟩,⟨c6⟩,⟨c3⟩,⟨c3⟩,⟨c3⟩,⟨c6⟩,⟨c6⟩,⟨c6⟩,⟨c5⟩,⟨(nF c4)⟩,⟨(nF c2)⟩,⟨(nT c3)⟩,⟨(nF c2)⟩,⟨(nT c3)⟩,⟨(nT c3)⟩,⟨(nF c2)⟩,⟨(nF c2)⟩,⟨(nF c2)⟩,⟨(bT k x6.1 x6.2.1 x6.2.2.1 x6.2.2.2 _ e1)⟩,⟨(bC k x1 x2 x3 x4 _ e0)⟩] (by kernel_rfl)
     rw[if_neg c7] at h;replace c7:=eqf c7
     by_cases c8:x6.2.2.1=true
     · rw[if_pos c8] at h
       obtain⟨x8,e9,h⟩:=bsm h
       obtain rfl:=osi h
       exact Tri.of (x:=X50) aK qG [(zG x6),.call ⟨true,[]⟩ (.bool x7) [],df,df,df,dt,dt,df,dt,df,df,df,df,df,df,df,df,df,df,df,df,df,df,dt,.call ⟨true,[]⟩ (.ref 2 0 0 0 x8.length .virt) [(.arr 2 (List.map aB x8) 0 0 false)],.rows (List.map aB x8)] [⟨(aS aB (l:=x8) (n:=x8.length) rfl)⟩,⟨(bB aB (Nat.le_refl x8.length):0+x8.length≤(List.map aB x8).length)⟩,⟨(yK k x6.2.1 _ e9)⟩,⟨c8⟩,⟨c7⟩,⟨rF⟩,⟨c6⟩,⟨c3⟩,⟨c6⟩,⟨c3⟩,⟨c3⟩,⟨c3⟩,⟨c6⟩,⟨c6⟩,⟨c6⟩,⟨c5⟩,⟨(nF c4)⟩,⟨(nF c2)⟩,⟨(nT c3)⟩,⟨(nF c2)⟩,⟨(nT c3)⟩,⟨(nT c3)⟩,⟨(nF c2)⟩,⟨(nF c2)⟩,⟨(nF c2)⟩,⟨(bT k x6.1 x6.2.1 x6.2.2.1 x6.2.2.2 _ e1)⟩,⟨(bC k x1 x2 x3 x4 _ e0)⟩] (by kernel_rfl)
     rw[if_neg c8] at h;replace c8:=eqf c8
     obtain⟨x8,e9,h⟩:=bsm h
     obtain rfl:=osi h
     exact Tri.of (x:=X50) aK qG [(zG x6),.call ⟨true,[]⟩ (.bool x7) [],df,df,df,dt,dt,df,dt,df,df,df,df,df,df,df,df,df,df,df,df,df,df,df,.call ⟨true,[]⟩ (.ref 2 0 0 0 x6.2.1.length .virt) [(.arr 2 (List.map aB x6.2.1) 0 0 false)],.rows (List.map aB x6.2.1)] [⟨(aS aB (l:=x6.2.1) (n:=x6.2.1.length) rfl)⟩,⟨(bB aB (Nat.le_refl x6.2.1.length):0+x6.2.1.length≤(List.map aB x6.2.1).length)⟩,⟨(fR k x6.2.1 _ e9)⟩,⟨c8⟩,⟨c7⟩,⟨rF⟩,⟨c6⟩,⟨c3⟩,⟨c6⟩,⟨c3⟩,⟨c3⟩,⟨c3⟩,⟨c6⟩,⟨c6⟩,⟨c6⟩,⟨c5⟩,⟨(nF c4)⟩,⟨(nF c2)⟩,⟨(nT c3)⟩,⟨(nF c2)⟩,⟨(nT c3)⟩,⟨(nT c3)⟩,⟨(nF c2)⟩,⟨(nF c2)⟩,⟨(nF c2)⟩,⟨(bT k x6.1 x6.2.1 x6.2.2.1 x6.2.2.2 _ e1)⟩,⟨(bC k x1 x2 x3 x4 _ e0)⟩] (by kernel_rfl)
   rw[if_neg c4] at h;replace c4:=eqf c4
   obtain rfl:=osi h
   exact Tri.of (x:=X50) aK qG [(zG x6),.call ⟨true,[]⟩ (.bool x7) [],df,df,df,dt,dt,df,dt,df,dt,aFD] [⟨(nT c4)⟩,⟨(nF c2)⟩,⟨(nT c3)⟩,⟨(nF c2)⟩,⟨(nT c3)⟩,⟨(nT c3)⟩,⟨(nF c2)⟩,⟨(nF c2)⟩,⟨(nF c2)⟩,⟨(bT k x6.1 x6.2.1 x6.2.2.1 x6.2.2.2 _ e1)⟩,⟨(bC k x1 x2 x3 x4 _ e0)⟩] (by kernel_rfl)
 rw[if_neg c2] at h;replace c2:=eqf c2
 obtain rfl:=osi h
 exact Tri.of (x:=X50) aK qG [(zG x6),.call ⟨true,[]⟩ (.bool x7) [],dt,dt,dt,dt,dt,dt,aFD] [⟨rT⟩,⟨(nT c2)⟩,⟨(nT c2)⟩,⟨(nT c2)⟩,⟨(nT c2)⟩,⟨(nT c2)⟩,⟨(bT k x6.1 x6.2.1 x6.2.2.1 x6.2.2.2 _ e1)⟩,⟨(bC k x1 x2 x3 x4 _ e0)⟩] (by kernel_rfl)
end Go.Ws

namespace Go.Ws
open Go.Proofs
set_option linter.unusedSimpArgs false
set_option linter.unusedVariables false
set_option maxRecDepth 1000000
set_option maxHeartbeats 4000000
noncomputable def X78:Ctx:=⟨Try.f78,[],true⟩
theorem fT (x1:Int) (x2:Int):Tri Try.prog 78 [(.int .i64 x1),(.int .u8 x2)] [] (.bool (hS x1 x2)) []:=by
 obtain⟨r,h⟩:∃r,hS x1 x2=r:=⟨_,rfl⟩
 try rw[h]
 unfold hS at h
 by_cases c0:ltI x2 64=true
 · rw[if_pos c0] at h
   by_cases c1:ltI x1 0=true
   · rw[if_pos c1] at h
     obtain rfl:=h
     exact Tri.of (x:=X78) aK aNX [dt,dt,dt,df,df,df] [⟨(nF c1)⟩,⟨(nF c1)⟩,⟨(nF c1)⟩,⟨c0⟩,⟨c0⟩,⟨c0⟩] (by kernel_rfl)
   rw[if_neg c1] at h;replace c1:=eqf c1
   obtain rfl:=h
   exact Tri.of (x:=X78) aK aNX [dt,dt,dt,dt,dt,dt] [⟨(nT c1)⟩,⟨(nT c1)⟩,⟨(nT c1)⟩,⟨c0⟩,⟨c0⟩,⟨c0⟩] (by kernel_rfl)
 rw[if_neg c0] at h;replace c0:=eqf c0
 obtain rfl:=h
 exact Tri.of (x:=X78) aK aNX [df,df,df,df,df,df] [⟨rF⟩,⟨rF⟩,⟨rF⟩,⟨c0⟩,⟨c0⟩,⟨c0⟩] (by kernel_rfl)
end Go.Ws

namespace Go.Ws
open Go.Proofs
set_option linter.unusedSimpArgs false
set_option linter.unusedVariables false
set_option maxRecDepth 1000000
set_option maxHeartbeats 4000000
noncomputable def X77:Ctx:=⟨Try.f77,[],true⟩
noncomputable def L77_1:Code:=at_ Try.f77 [1,0,1,4,5,1,0,4,1,1,1,1,4,5]
def S77_1 (x1:aN) (aP:Int × Int × Bool) (cK:Int) (cX:Int):St:=⟨mkT 81 [(0,(.sl 3 (List.map aA x1))),(3,(.int .i64 cX)),(4,(.hp 0 0)),(5,(.int .i64 cK))],[(.row [(.int .u8 aP.1),(.int .i64 aP.2.1),(.bool aP.2.2)])]⟩
def aD8 (x1:aN) (v77012_1:Int):St:=⟨mkT 81 [(0,(.sl 3 (List.map aA x1))),(3,(.int .i64 v77012_1))],[]⟩
def O77_1 (x1:aN) (aP:Int × Int × Bool) (y:(Sum (Int) (Bool))):GX:=match y with
 | .inl y=>.st (.exit 2) (aD8 x1 y)
 | .inr y=>.fin (.bool y) []
noncomputable def L77_0:Code:=at_ Try.f77 [1,0,1,4,5]
def S77_0 (x1:aN) (bR:Int):St:=⟨mkT 81 [(0,(.sl 3 (List.map aA x1))),(3,(.int .i64 bR))],[]⟩
def aMK:St:=⟨mkT 81 [],[]⟩
def O77_0 (x1:aN) (y:lZ):GX:=match y with
 | .inl y=>.st (.exit 0) (aMK)
 | .inr y=>.fin (.bool y) []
def aEJ (aP:Int × Int × Bool):Ans:=.row [(.int .u8 aP.1),(.int .i64 aP.2.1),(.bool aP.2.2)]
def aFZ (aP:Int × Int × Bool):Ans:=.call ⟨true,[]⟩ (.bool (hS aP.2.1 aP.1)) []
def aLC:Ans:=.norm 8 ⟨[(0,[]),(3,[]),(4,[]),(5,[])],[⟨.tmp 4,[],none⟩],false,[],[]⟩
theorem gC (x1:aN) (aP:Int × Int × Bool) (y:(Sum (Int) (Bool))):∀(k:Nat) (cK:Int) (cX:Int),dP k x1 aP cK cX=some y→LT Try.prog X77 L77_1 (S77_1 x1 aP cK cX) (O77_1 x1 aP y)
 | 0,cK,cX,h=>by cases h
 | k+1,cK,cX,h=>by
  rw[dP] at h
  by_cases cL0:ltI cK (nI x1.length)=true
  · rw[if_pos cL0] at h
    by_cases cL1:eqI cK cX=true
    · rw[if_pos cL1] at h
      exact LT.next aK (hs:=⟨[(0,[]),(3,[]),(4,[]),(5,[])],[⟨.tmp 4,[],none⟩],false,[],[]⟩) (es:=none) [.n x1.length,dt,df,df,df,df,df,df,df,df,df,df,df,df,df] [⟨rF⟩,⟨rF⟩,⟨rF⟩,⟨rF⟩,⟨(nF cL1)⟩,⟨(nF cL1)⟩,⟨(nF cL1)⟩,⟨(nF cL1)⟩,⟨(nF cL1)⟩,⟨(nF cL1)⟩,⟨(nF cL1)⟩,⟨(nF cL1)⟩,⟨(nF cL1)⟩,⟨cL0⟩,⟨(aG aA x1)⟩] (by kernel_rfl) (gC x1 aP y k (aO .i64 cK 1) cX h)
    rw[if_neg cL1] at h;replace cL1:=eqf cL1
    by_cases cL2:inI cK x1.length=true
    · rw[if_pos cL2] at h
      obtain⟨vE,eL3,h⟩:=bsm h
      by_cases cL4:eqI vE.1 aP.1=true
      · rw[if_pos cL4] at h
        by_cases cL5:aP.2.2=true
        · rw[if_pos cL5] at h
          obtain rfl:=osi h
          show LT _ _ _ _ (.fin (.bool false) [])
          exact LT.done aK (hs:=⟨[],[],false,[],[]⟩) (es:=none) [.n x1.length,dt,dt,dt,dt,.n x1.length,dt,dt,.row [(.int .u8 vE.1)],dt,dt,dt,dt,dt,dt,dt,dt] [⟨cL5⟩,⟨cL4⟩,⟨cL4⟩,⟨cL4⟩,⟨(nT cL1)⟩,⟨(nT cL1)⟩,⟨(nT cL1)⟩,⟨(nT cL1)⟩,⟨(aI (e:=aA) eL3 3 0 1 (by decide))⟩,⟨(nT cL1)⟩,⟨(nT cL1)⟩,⟨cL2⟩,⟨(aG aA x1)⟩,⟨(nT cL1)⟩,⟨(nT cL1)⟩,⟨(nT cL1)⟩,⟨cL0⟩,⟨(aG aA x1)⟩] (by kernel_rfl) (fun s h=>by cases h)
        rw[if_neg cL5] at h;replace cL5:=eqf cL5
        exact LT.next aK (hs:=⟨[(0,[]),(3,[]),(4,[]),(5,[])],[⟨.tmp 4,[],none⟩],false,[],[]⟩) (es:=none) [.n x1.length,dt,dt,dt,dt,.n x1.length,dt,dt,.row [(.int .u8 vE.1)],dt,dt,dt,dt,dt,dt,dt,df] [⟨cL5⟩,⟨cL4⟩,⟨cL4⟩,⟨cL4⟩,⟨(nT cL1)⟩,⟨(nT cL1)⟩,⟨(nT cL1)⟩,⟨(nT cL1)⟩,⟨(aI (e:=aA) eL3 3 0 1 (by decide))⟩,⟨(nT cL1)⟩,⟨(nT cL1)⟩,⟨cL2⟩,⟨(aG aA x1)⟩,⟨(nT cL1)⟩,⟨(nT cL1)⟩,⟨(nT cL1)⟩,⟨cL0⟩,⟨(aG aA x1)⟩] (by kernel_rfl) (gC x1 aP y k (aO .i64 cK 1) cX h)
      rw[if_neg cL4] at h;replace cL4:=eqf cL4
      exact LT.next aK (hs:=⟨[(0,[]),(3,[]),(4,[]),(5,[])],[⟨.tmp 4,[],none⟩],false,[],[]⟩) (es:=none) [.n x1.length,dt,dt,dt,dt,.n x1.length,dt,dt,.row [(.int .u8 vE.1)],dt,dt,dt,dt,df,df,df,df] [⟨rF⟩,⟨cL4⟩,⟨cL4⟩,⟨cL4⟩,⟨(nT cL1)⟩,⟨(nT cL1)⟩,⟨(nT cL1)⟩,⟨(nT cL1)⟩,⟨(aI (e:=aA) eL3 3 0 1 (by decide))⟩,⟨(nT cL1)⟩,⟨(nT cL1)⟩,⟨cL2⟩,⟨(aG aA x1)⟩,⟨(nT cL1)⟩,⟨(nT cL1)⟩,⟨(nT cL1)⟩,⟨cL0⟩,⟨(aG aA x1)⟩] (by kernel_rfl) (gC x1 aP y k (aO .i64 cK 1) cX h)
    rw[if_neg cL2] at h;replace cL2:=eqf cL2
    cases h
  rw[if_neg cL0] at h;replace cL0:=eqf cL0
  obtain rfl:=osi h
  show LT _ _ _ _ (.st (.exit 2) (aD8 x1 cX))
  exact LT.done aK (hs:=⟨[],[],false,[],[]⟩) (es:=(some ⟨[(0,[]),(3,[])],[],false,[],[]⟩)) [.n x1.length,df] [⟨cL0⟩,⟨(aG aA x1)⟩] (by kernel_rfl) (fun s h=>by cases h)
theorem mM (x1:aN) (y:lZ):∀(k:Nat) (bR:Int),eR k x1 bR=some y→LT Try.prog X77 L77_0 (S77_0 x1 bR) (O77_0 x1 y)
 | 0,bR,h=>by cases h
 | k+1,bR,h=>by
  rw[eR] at h
  by_cases cL0:ltI bR (nI x1.length)=true
  · rw[if_pos cL0] at h
    by_cases cL1:inI bR x1.length=true
    · rw[if_pos cL1] at h
      obtain⟨aP,eL2,h⟩:=bsm h
      by_cases cL3:(hS aP.2.1 aP.1)=true
      · rw[if_pos cL3] at h
        by_cases cL4:ltI 0 bR=true
        · rw[if_pos cL4] at h
          by_cases cL5:inI (o6 .i64 bR 1) x1.length=true
          · rw[if_pos cL5] at h
            obtain⟨fP,eL6,h⟩:=bsm h
            by_cases cL7:ltI fP.1 aP.1=true
            · rw[if_pos cL7] at h
              obtain⟨kD,eL8,h⟩:=bsm h
              cases kD with
              | inl fL =>
               simp only[Sum.elim_inl] at h
               exact LT.next aK (hs:=⟨[(0,[]),(3,[])],[],false,[],[]⟩) (es:=none) [.n x1.length,dt,.n x1.length,(aEJ aP),(aFZ aP),df,dt,dt,dt,dt,.n x1.length,dt,dt,.row [(.int .u8 fP.1)],dt,dt,dt,dt,dt,dt,dt,dt,dt,dt,dt,dt,dt,dt,dt,dt,dt,dt,dt,df,aLC,.out (.st .normal (aD8 x1 fL))] [⟨(LT.block (gC x1 aP _ k 0 bR eL8))⟩,⟨(nF rfl)⟩,⟨cL4⟩,⟨cL4⟩,⟨cL7⟩,⟨cL4⟩,⟨cL7⟩,⟨cL7⟩,⟨cL7⟩,⟨cL7⟩,⟨cL7⟩,⟨cL7⟩,⟨cL7⟩,⟨cL7⟩,⟨cL7⟩,⟨cL7⟩,⟨cL7⟩,⟨cL4⟩,⟨cL4⟩,⟨cL4⟩,⟨cL4⟩,⟨(aI (e:=aA) eL6 3 0 1 (by decide))⟩,⟨cL4⟩,⟨cL4⟩,⟨cL5⟩,⟨(aG aA x1)⟩,⟨cL4⟩,⟨cL4⟩,⟨cL4⟩,⟨cL4⟩,⟨(nF cL3)⟩,⟨(fT aP.2.1 aP.1)⟩,⟨(aI (e:=aA) eL2 3 0 3 (by decide))⟩,⟨cL1⟩,⟨(aG aA x1)⟩,⟨cL0⟩,⟨(aG aA x1)⟩] (by kernel_rfl) (mM x1 y k (aO .i64 fL 1) h)
              | inr fL =>
               simp only[Sum.elim_inr] at h
               obtain rfl:=osi h
               show LT _ _ _ _ (.fin (.bool fL) [])
               exact LT.done aK (hs:=⟨[],[],false,[],[]⟩) (es:=none) [.n x1.length,dt,.n x1.length,(aEJ aP),(aFZ aP),df,dt,dt,dt,dt,.n x1.length,dt,dt,.row [(.int .u8 fP.1)],dt,dt,dt,dt,dt,dt,dt,dt,dt,dt,dt,dt,dt,dt,dt,dt,dt,dt,dt,df,aLC,.out (.fin (.bool fL) [])] [⟨(LT.blockFin (id:=2) (gC x1 aP _ k 0 bR eL8))⟩,⟨(nF rfl)⟩,⟨cL4⟩,⟨cL4⟩,⟨cL7⟩,⟨cL4⟩,⟨cL7⟩,⟨cL7⟩,⟨cL7⟩,⟨cL7⟩,⟨cL7⟩,⟨cL7⟩,⟨cL7⟩,⟨cL7⟩,⟨cL7⟩,⟨cL7⟩,⟨cL7⟩,⟨cL4⟩,⟨cL4⟩,⟨cL4⟩,⟨cL4⟩,⟨(aI (e:=aA) eL6 3 0 1 (by decide))⟩,⟨cL4⟩,⟨cL4⟩,⟨cL5⟩,⟨(aG aA x1)⟩,⟨cL4⟩,⟨cL4⟩,⟨cL4⟩,⟨cL4⟩,⟨(nF cL3)⟩,⟨(fT aP.2.1 aP.1)⟩,⟨(aI (e:=aA) eL2 3 0 3 (by decide))⟩,⟨cL1⟩,⟨(aG aA x1)⟩,⟨cL0⟩,⟨(aG aA x1)⟩] (by kernel_rfl) (fun s h=>by cases h)
            rw[if_neg cL7] at h;replace cL7:=eqf cL7
            by_cases cL8:eqI fP.1 aP.1=true
            · rw[if_pos cL8] at h
              by_cases cL9:ltI fP.2.1 aP.2.1=true
              · rw[if_pos cL9] at h
                obtain⟨kD,eL10,h⟩:=bsm h
                cases kD with
                | inl fL =>
                 simp only[Sum.elim_inl] at h
                 exact LT.next aK (hs:=⟨[(0,[]),(3,[])],[],false,[],[]⟩) (es:=none) [.n x1.length,dt,.n x1.length,(aEJ aP),(aFZ aP),df,dt,dt,dt,dt,.n x1.length,dt,dt,.row [(.int .u8 fP.1)],dt,dt,dt,dt,df,df,df,df,.n x1.length,df,df,.row [(.int .u8 fP.1)],df,df,df,df,dt,dt,dt,dt,.n x1.length,dt,dt,.row [(.int .i64 fP.2.1)],dt,dt,dt,df,dt,dt,df,dt,dt,df,aLC,.out (.st .normal (aD8 x1 fL))] [⟨(LT.block (gC x1 aP _ k 0 bR eL10))⟩,⟨(nF cL9)⟩,⟨cL4⟩,⟨cL4⟩,⟨cL7⟩,⟨cL4⟩,⟨cL8⟩,⟨cL7⟩,⟨cL8⟩,⟨cL8⟩,⟨cL8⟩,⟨(aI (e:=aA) eL6 3 1 1 (by decide))⟩,⟨cL8⟩,⟨cL8⟩,⟨cL5⟩,⟨(aG aA x1)⟩,⟨cL8⟩,⟨cL8⟩,⟨cL8⟩,⟨cL8⟩,⟨cL7⟩,⟨cL7⟩,⟨cL7⟩,⟨cL7⟩,⟨(aI (e:=aA) eL6 3 0 1 (by decide))⟩,⟨cL7⟩,⟨cL7⟩,⟨cL5⟩,⟨(aG aA x1)⟩,⟨cL7⟩,⟨cL7⟩,⟨cL7⟩,⟨cL7⟩,⟨cL4⟩,⟨cL4⟩,⟨cL4⟩,⟨cL4⟩,⟨(aI (e:=aA) eL6 3 0 1 (by decide))⟩,⟨cL4⟩,⟨cL4⟩,⟨cL5⟩,⟨(aG aA x1)⟩,⟨cL4⟩,⟨cL4⟩,⟨cL4⟩,⟨cL4⟩,⟨(nF cL3)⟩,⟨(fT aP.2.1 aP.1)⟩,⟨(aI (e:=aA) eL2 3 0 3 (by decide))⟩,⟨cL1⟩,⟨(aG aA x1)⟩,⟨cL0⟩,⟨(aG aA x1)⟩] (by kernel_rfl) (mM x1 y k (aO .i64 fL 1) h)
                | inr fL =>
                 simp only[Sum.elim_inr] at h
                 obtain rfl:=osi h
                 show LT _ _ _ _ (.fin (.bool fL) [])
                 exact LT.done aK (hs:=⟨[],[],false,[],[]⟩) (es:=none) [.n x1.length,dt,.n x1.length,(aEJ aP),(aFZ aP),df,dt,dt,dt,dt,.n x1.length,dt,dt,.row [(.int .u8 fP.1)],dt,dt,dt,dt,df,df,df,df,.n x1.length,df,df,.row [(.int .u8 fP.1)],df,df,df,df,dt,dt,dt,dt,.n x1.length,dt,dt,.row [(.int .i64 fP.2.1)],dt,dt,dt,df,dt,dt,df,dt,dt,df,aLC,.out (.fin (.bool fL) [])] [⟨(LT.blockFin (id:=2) (gC x1 aP _ k 0 bR eL10))⟩,⟨(nF cL9)⟩,⟨cL4⟩,⟨cL4⟩,⟨cL7⟩,⟨cL4⟩,⟨cL8⟩,⟨cL7⟩,⟨cL8⟩,⟨cL8⟩,⟨cL8⟩,⟨(aI (e:=aA) eL6 3 1 1 (by decide))⟩,⟨cL8⟩,⟨cL8⟩,⟨cL5⟩,⟨(aG aA x1)⟩,⟨cL8⟩,⟨cL8⟩,⟨cL8⟩,⟨cL8⟩,⟨cL7⟩,⟨cL7⟩,⟨cL7⟩,⟨cL7⟩,⟨(aI (e:=aA) eL6 3 0 1 (by decide))⟩,⟨cL7⟩,⟨cL7⟩,⟨cL5⟩,⟨(aG aA x1)⟩,⟨cL7⟩,⟨cL7⟩,⟨cL7⟩,⟨cL7⟩,⟨cL4⟩,⟨cL4⟩,⟨cL4⟩,⟨cL4⟩,⟨(aI (e:=aA) eL6 3 0 1 (by decide))⟩,⟨cL4⟩,⟨cL4⟩,⟨cL5⟩,⟨(aG aA x1)⟩,⟨cL4⟩,⟨cL4⟩,⟨cL4⟩,⟨cL4⟩,⟨(nF cL3)⟩,⟨(fT aP.2.1 aP.1)⟩,⟨(aI (e:=aA) eL2 3 0 3 (by decide))⟩,⟨cL1⟩,⟨(aG aA x1)⟩,⟨cL0⟩,⟨(aG aA x1)⟩] (by kernel_rfl) (fun s h=>by cases h)
              rw[if_neg cL9] at h;replace cL9:=eqf cL9
              obtain rfl:=osi h
              show LT _ _ _ _ (.fin (.bool false) [])
              exact LT.done aK (hs:=⟨[],[],false,[],[]⟩) (es:=none) [.n x1.length,dt,.n x1.length,(aEJ aP),(aFZ aP),df,dt,dt,dt,dt,.n x1.length,dt,dt,.row [(.int .u8 fP.1)],dt,dt,dt,dt,df,df,df,df,.n x1.length,df,df,.row [(.int .u8 fP.1)],df,df,df,df,dt,dt,dt,dt,.n x1.length,dt,dt,.row [(.int .i64 fP.2.1)],dt,dt,dt,df,dt,dt,df,dt,dt,dt] [⟨(nT cL9)⟩,⟨cL4⟩,⟨cL4⟩,⟨cL7⟩,⟨cL4⟩,⟨cL8⟩,⟨cL7⟩,⟨cL8⟩,⟨cL8⟩,⟨cL8⟩,⟨(aI (e:=aA) eL6 3 1 1 (by decide))⟩,⟨cL8⟩,⟨cL8⟩,⟨cL5⟩,⟨(aG aA x1)⟩,⟨cL8⟩,⟨cL8⟩,⟨cL8⟩,⟨cL8⟩,⟨cL7⟩,⟨cL7⟩,⟨cL7⟩,⟨cL7⟩,⟨(aI (e:=aA) eL6 3 0 1 (by decide))⟩,⟨cL7⟩,⟨cL7⟩,⟨cL5⟩,⟨(aG aA x1)⟩,⟨cL7⟩,⟨cL7⟩,⟨cL7⟩,⟨cL7⟩,⟨cL4⟩,⟨cL4⟩,⟨cL4⟩,⟨cL4⟩,⟨(aI (e:=aA) eL6 3 0 1 (by decide))⟩,⟨cL4⟩,⟨cL4⟩,⟨cL5⟩,⟨(aG aA x1)⟩,⟨cL4⟩,⟨cL4⟩,⟨cL4⟩,⟨cL4⟩,⟨(nF cL3)⟩,⟨(fT aP.2.1 aP.1)⟩,⟨(aI (e:=aA) eL2 3 0 3 (by decide))⟩,⟨cL1⟩,⟨(aG aA x1)⟩,⟨cL0⟩,⟨(aG aA x1)⟩] (by kernel_rfl) (fun s h=>by cases h)
            rw[if_neg cL8] at h;replace cL8:=eqf cL8
            obtain rfl:=osi h
            show LT _ _ _ _ (.fin (.bool false) [])
            exact LT.done aK (hs:=⟨[],[],false,[],[]⟩) (es:=none) [.n x1.length,dt,.n x1.length,(aEJ aP),(aFZ aP),df,dt,dt,dt,dt,.n x1.length,dt,dt,.row [(.int .u8 fP.1)],dt,dt,dt,dt,df,df,df,df,.n x1.length,df,df,.row [(.int .u8 fP.1)],df,df,df,df,df,df,df,df,df,df,df,df,df,df,df,dt,df,dt,dt,dt] [⟨(nT rfl)⟩,⟨cL4⟩,⟨cL4⟩,⟨cL7⟩,⟨cL4⟩,⟨cL8⟩,⟨cL7⟩,⟨cL8⟩,⟨cL8⟩,⟨cL8⟩,⟨cL8⟩,⟨cL8⟩,⟨cL8⟩,⟨cL8⟩,⟨cL8⟩,⟨cL8⟩,⟨cL7⟩,⟨cL7⟩,⟨cL7⟩,⟨cL7⟩,⟨(aI (e:=aA) eL6 3 0 1 (by decide))⟩,⟨cL7⟩,⟨cL7⟩,⟨cL5⟩,⟨(aG aA x1)⟩,⟨cL7⟩,⟨cL7⟩,⟨cL7⟩,⟨cL7⟩,⟨cL4⟩,⟨cL4⟩,⟨cL4⟩,⟨cL4⟩,⟨(aI (e:=aA) eL6 3 0 1 (by decide))⟩,⟨cL4⟩,⟨cL4⟩,⟨cL5⟩,⟨(aG aA x1)⟩,⟨cL4⟩,⟨cL4⟩,⟨cL4⟩,⟨cL4⟩,⟨(nF cL3)⟩,⟨(fT aP.2.1 aP.1)⟩,⟨(aI (e:=aA) eL2 3 0 3 (by decide))⟩,⟨cL1⟩,⟨(aG aA x1)⟩,⟨cL0⟩,⟨(aG aA x1)⟩] (by kernel_rfl) (fun s h=>by cases h)
          rw[if_neg cL5] at h;replace cL5:=eqf cL5
          cases h
        rw[if_neg cL4] at h;replace cL4:=eqf cL4
        obtain⟨fP,eL5,h⟩:=bsm h
        cases fP with
        | inl kD =>
         simp only[Sum.elim_inl] at h
         exact LT.next aK (hs:=⟨[(0,[]),(3,[])],[],false,[],[]⟩) (es:=none) [.n x1.length,dt,.n x1.length,(aEJ aP),(aFZ aP),df,df,df,df,df,df,df,df,df,df,df,df,df,df,df,aLC,.out (.st .normal (aD8 x1 kD))] [⟨(LT.block (gC x1 aP _ k 0 bR eL5))⟩,⟨rF⟩,⟨cL4⟩,⟨cL4⟩,⟨cL4⟩,⟨cL4⟩,⟨cL4⟩,⟨cL4⟩,⟨cL4⟩,⟨cL4⟩,⟨cL4⟩,⟨cL4⟩,⟨cL4⟩,⟨cL4⟩,⟨cL4⟩,⟨(nF cL3)⟩,⟨(fT aP.2.1 aP.1)⟩,⟨(aI (e:=aA) eL2 3 0 3 (by decide))⟩,⟨cL1⟩,⟨(aG aA x1)⟩,⟨cL0⟩,⟨(aG aA x1)⟩] (by kernel_rfl) (mM x1 y k (aO .i64 kD 1) h)
        | inr kD =>
         simp only[Sum.elim_inr] at h
         obtain rfl:=osi h
         show LT _ _ _ _ (.fin (.bool kD) [])
         exact LT.done aK (hs:=⟨[],[],false,[],[]⟩) (es:=none) [.n x1.length,dt,.n x1.length,(aEJ aP),(aFZ aP),df,df,df,df,df,df,df,df,df,df,df,df,df,df,df,aLC,.out (.fin (.bool kD) [])] [⟨(LT.blockFin (id:=2) (gC x1 aP _ k 0 bR eL5))⟩,⟨rF⟩,⟨cL4⟩,⟨cL4⟩,⟨cL4⟩,⟨cL4⟩,⟨cL4⟩,⟨cL4⟩,⟨cL4⟩,⟨cL4⟩,⟨cL4⟩,⟨cL4⟩,⟨cL4⟩,⟨cL4⟩,⟨cL4⟩,⟨(nF cL3)⟩,⟨(fT aP.2.1 aP.1)⟩,⟨(aI (e:=aA) eL2 3 0 3 (by decide))⟩,⟨cL1⟩,⟨(aG aA x1)⟩,⟨cL0⟩,⟨(aG aA x1)⟩] (by kernel_rfl) (fun s h=>by cases h)
      rw[if_neg cL3] at h;replace cL3:=eqf cL3
      obtain rfl:=osi h
      show LT _ _ _ _ (.fin (.bool false) [])
      exact LT.done aK (hs:=⟨[],[],false,[],[]⟩) (es:=none) [.n x1.length,dt,.n x1.length,(aEJ aP),(aFZ aP),dt] [⟨(nT cL3)⟩,⟨(fT aP.2.1 aP.1)⟩,⟨(aI (e:=aA) eL2 3 0 3 (by decide))⟩,⟨cL1⟩,⟨(aG aA x1)⟩,⟨cL0⟩,⟨(aG aA x1)⟩] (by kernel_rfl) (fun s h=>by cases h)
    rw[if_neg cL1] at h;replace cL1:=eqf cL1
    cases h
  rw[if_neg cL0] at h;replace cL0:=eqf cL0
  obtain rfl:=osi h
  show LT _ _ _ _ (.st (.exit 0) (aMK))
  exact LT.done aK (hs:=⟨[],[],false,[],[]⟩) (es:=(some ⟨[],[],false,[],[]⟩)) [.n x1.length,df] [⟨cL0⟩,⟨(aG aA x1)⟩] (by kernel_rfl) (fun s h=>by cases h)
theorem lM (k:Nat) (x1:aN) (r:Bool) (h:r8 k x1=some r):Tri Try.prog 77 [(.sl 3 (List.map aA x1))] [] (.bool r) []:=by
 unfold r8 at h
 obtain⟨x2,e0,h⟩:=bsm h
 cases x2 with
 | inl x3 =>
  simp only[Sum.elim_inl] at h
  obtain rfl:=osi h
  exact Tri.of (x:=X77) aK aSU [.norm 2 ⟨[(0,[]),(3,[])],[],false,[],[]⟩,.out (.st .normal (aMK))] [⟨(LT.block (mM x1 _ k 0 e0))⟩] (by kernel_rfl)
 | inr x3 =>
  simp only[Sum.elim_inr] at h
  obtain rfl:=osi h
  exact Tri.of (x:=X77) aK aSU [.norm 2 ⟨[(0,[]),(3,[])],[],false,[],[]⟩,.out (.fin (.bool x3) [])] [⟨(LT.blockFin (id:=0) (mM x1 _ k 0 e0))⟩] (by kernel_rfl)
end Go.Ws

namespace Go.Ws
open Go.Proofs
set_option linter.unusedSimpArgs false
set_option linter.unusedVariables false
set_option maxRecDepth 1000000
set_option maxHeartbeats 4000000
noncomputable def X79:Ctx:=⟨Try.f79,[],true⟩
noncomputable def L79_0:Code:=at_ Try.f79 [1,0,1,4,5]
def S79_0 (x1:aN) (x2:Int) (x3:Int) (dF:Int):St:=⟨mkT 35 [(0,(.sl 3 (List.map aA x1))),(1,(.int .i64 x2)),(2,(.int .u8 x3)),(7,(.int .i64 dF))],[]⟩
def aL3:St:=⟨mkT 35 [],[]⟩
def O79_0 (x1:aN) (x2:Int) (x3:Int) (y:(Sum (Unit) (Int))):GX:=match y with
 | .inl y=>.st (.exit 0) (aL3)
 | .inr y=>.fin (.int .i64 y) []
theorem o5 (x1:aN) (x2:Int) (x3:Int) (y:(Sum (Unit) (Int))):∀(k:Nat) (dF:Int),fF k x1 x2 x3 dF=some y→LT Try.prog X79 L79_0 (S79_0 x1 x2 x3 dF) (O79_0 x1 x2 x3 y)
 | 0,dF,h=>by cases h
 | k+1,dF,h=>by
  rw[fF] at h
  by_cases cL0:ltI dF (nI x1.length)=true
  · rw[if_pos cL0] at h
    by_cases cL1:inI dF x1.length=true
    · rw[if_pos cL1] at h
      obtain⟨i9,eL2,h⟩:=bsm h
      by_cases cL3:eqI i9.1 x3=true
      · rw[if_pos cL3] at h
        by_cases cL4:eqI i9.2.1 x2=true
        · rw[if_pos cL4] at h
          by_cases cL5:i9.2.2=true
          · rw[if_pos cL5] at h
            obtain rfl:=osi h
            show LT _ _ _ _ (.fin (.int .i64 2) [])
            exact LT.done aK (hs:=⟨[],[],false,[],[]⟩) (es:=none) [.n x1.length,dt,.n x1.length,.row [(.int .u8 i9.1)],dt,dt,dt,.n x1.length,dt,dt,.row [(.int .i64 i9.2.1)],dt,dt,dt,dt,.n x1.length,.row [(.bool i9.2.2)],dt] [⟨cL5⟩,⟨(aI (e:=aA) eL2 3 2 1 (by decide))⟩,⟨cL1⟩,⟨(aG aA x1)⟩,⟨cL4⟩,⟨cL3⟩,⟨cL3⟩,⟨cL3⟩,⟨(aI (e:=aA) eL2 3 1 1 (by decide))⟩,⟨cL3⟩,⟨cL3⟩,⟨cL1⟩,⟨(aG aA x1)⟩,⟨cL3⟩,⟨cL3⟩,⟨cL3⟩,⟨(aI (e:=aA) eL2 3 0 1 (by decide))⟩,⟨cL1⟩,⟨(aG aA x1)⟩,⟨cL0⟩,⟨(aG aA x1)⟩] (by kernel_rfl) (fun s h=>by cases h)
          rw[if_neg cL5] at h;replace cL5:=eqf cL5
          obtain rfl:=osi h
          show LT _ _ _ _ (.fin (.int .i64 1) [])
          exact LT.done aK (hs:=⟨[],[],false,[],[]⟩) (es:=none) [.n x1.length,dt,.n x1.length,.row [(.int .u8 i9.1)],dt,dt,dt,.n x1.length,dt,dt,.row [(.int .i64 i9.2.1)],dt,dt,dt,dt,.n x1.length,.row [(.bool i9.2.2)],df] [⟨cL5⟩,⟨(aI (e:=aA) eL2 3 2 1 (by decide))⟩,⟨cL1⟩,⟨(aG aA x1)⟩,⟨cL4⟩,⟨cL3⟩,⟨cL3⟩,⟨cL3⟩,⟨(aI (e:=aA) eL2 3 1 1 (by decide))⟩,⟨cL3⟩,⟨cL3⟩,⟨cL1⟩,⟨(aG aA x1)⟩,⟨cL3⟩,⟨cL3⟩,⟨cL3⟩,⟨(aI (e:=aA) eL2 3 0 1 (by decide))⟩,⟨cL1⟩,⟨(aG aA x1)⟩,⟨cL0⟩,⟨(aG aA x1)⟩] (by kernel_rfl) (fun s h=>by cases h)
        rw[if_neg cL4] at h;replace cL4:=eqf cL4
        exact LT.next aK (hs:=⟨[(0,[]),(1,[]),(2,[]),(7,[])],[],false,[],[]⟩) (es:=none) [.n x1.length,dt,.n x1.length,.row [(.int .u8 i9.1)],dt,dt,dt,.n x1.length,dt,dt,.row [(.int .i64 i9.2.1)],dt,dt,dt,df] [⟨cL4⟩,⟨cL3⟩,⟨cL3⟩,⟨cL3⟩,⟨(aI (e:=aA) eL2 3 1 1 (by decide))⟩,⟨cL3⟩,⟨cL3⟩,⟨cL1⟩,⟨(aG aA x1)⟩,⟨cL3⟩,⟨cL3⟩,⟨cL3⟩,⟨(aI (e:=aA) eL2 3 0 1 (by decide))⟩,⟨cL1⟩,⟨(aG aA x1)⟩,⟨cL0⟩,⟨(aG aA x1)⟩] (by kernel_rfl) (o5 x1 x2 x3 y k (aO .i64 dF 1) h)
      rw[if_neg cL3] at h;replace cL3:=eqf cL3
      exact LT.next aK (hs:=⟨[(0,[]),(1,[]),(2,[]),(7,[])],[],false,[],[]⟩) (es:=none) [.n x1.length,dt,.n x1.length,.row [(.int .u8 i9.1)],df,df,df,df,df,df,df,df,df] [⟨rF⟩,⟨cL3⟩,⟨cL3⟩,⟨cL3⟩,⟨cL3⟩,⟨cL3⟩,⟨cL3⟩,⟨cL3⟩,⟨cL3⟩,⟨(aI (e:=aA) eL2 3 0 1 (by decide))⟩,⟨cL1⟩,⟨(aG aA x1)⟩,⟨cL0⟩,⟨(aG aA x1)⟩] (by kernel_rfl) (o5 x1 x2 x3 y k (aO .i64 dF 1) h)
    rw[if_neg cL1] at h;replace cL1:=eqf cL1
    cases h
  rw[if_neg cL0] at h;replace cL0:=eqf cL0
  obtain rfl:=osi h
  show LT _ _ _ _ (.st (.exit 0) (aL3))
  exact LT.done aK (hs:=⟨[],[],false,[],[]⟩) (es:=(some ⟨[],[],false,[],[]⟩)) [.n x1.length,df] [⟨cL0⟩,⟨(aG aA x1)⟩] (by kernel_rfl) (fun s h=>by cases h)
theorem aBT (k:Nat) (x1:aN) (x2:Int) (x3:Int) (r:Int) (h:sF k x1 x2 x3=some r):Tri Try.prog 79 [(.sl 3 (List.map aA x1)),(.int .i64 x2),(.int .u8 x3)] [] (.int .i64 r) []:=by
 unfold sF at h
 obtain⟨x4,e0,h⟩:=bsm h
 cases x4 with
 | inl x5 =>
  simp only[Sum.elim_inl] at h
  obtain rfl:=osi h
  exact Tri.of (x:=X79) aK aSP [.norm 2 ⟨[(0,[]),(1,[]),(2,[]),(7,[])],[],false,[],[]⟩,.out (.st .normal (aL3))] [⟨(LT.block (o5 x1 x2 x3 _ k 0 e0))⟩] (by kernel_rfl)
 | inr x5 =>
  simp only[Sum.elim_inr] at h
  obtain rfl:=osi h
  exact Tri.of (x:=X79) aK aSP [.norm 2 ⟨[(0,[]),(1,[]),(2,[]),(7,[])],[],false,[],[]⟩,.out (.fin (.int .i64 x5) [])] [⟨(LT.blockFin (id:=0) (o5 x1 x2 x3 _ k 0 e0))⟩] (by kernel_rfl)
end Go.Ws

namespace Go.Ws
open Go.Proofs
set_option linter.unusedSimpArgs false
set_option linter.unusedVariables false
set_option maxRecDepth 1000000
set_option maxHeartbeats 4000000
noncomputable def X53:Ctx:=⟨Try.f53,[],true⟩
noncomputable def L53_1:Code:=at_ Try.f53 [1,1,1,1,1,1,0,1,4,5]
def S53_1 (x1:aN) (x2:Int) (x3:Int) (bK:Bool) (aV:Int) (aE:aN) (aJ:Bool):St:=⟨mkT 138 [(0,(.sl 3 (List.map aA x1))),(1,(.int .i64 x2)),(2,(.int .u8 x3)),(11,(.hp 0 0)),(12,(.ref 3 1 0 0 aE.length .virt)),(13,(.bool bK)),(14,(.int .i64 aV))],[(.row [(.int .u8 x3),(.int .i64 x2),(.bool aJ)]),(.arr 3 (List.map aA aE) 0 0 false)]⟩
def aC3 (x2:Int) (x3:Int) (v53012_1:Bool) (v53012_2:Bool) (aPW:aN):St:=⟨mkT 138 [(11,(.hp 0 0)),(12,(.ref 3 1 0 0 aPW.length .virt)),(13,(.bool v53012_1))],[(.row [(.int .u8 x3),(.int .i64 x2),(.bool v53012_2)]),(.arr 3 (List.map aA aPW) 0 0 false)]⟩
def O53_1 (x1:aN) (x2:Int) (x3:Int) (y:(Bool × Bool × aN)):GX:=.st (.exit 2) (aC3 x2 x3 y.1 y.2.1 y.2.2)
noncomputable def L53_0:Code:=at_ Try.f53 [1,1,0,1,4,5]
def S53_0 (x1:aN) (x2:Int) (x3:Int) (x4:Bool) (cU:Int):St:=⟨mkT 138 [(0,(.sl 3 (List.map aA x1))),(1,(.int .i64 x2)),(2,(.int .u8 x3)),(3,(.bool x4)),(10,(.int .i64 cU))],[]⟩
def aCZ (x1:aN) (x2:Int) (x3:Int) (x4:Bool):St:=⟨mkT 138 [(0,(.sl 3 (List.map aA x1))),(1,(.int .i64 x2)),(2,(.int .u8 x3)),(3,(.bool x4))],[]⟩
def O53_0 (x1:aN) (x2:Int) (x3:Int) (x4:Bool) (y:(Sum (Unit) (aN × Int))):GX:=match y with
 | .inl y=>.st (.exit 0) (aCZ x1 x2 x3 x4)
 | .inr y=>.fin (.tup [(.sl 3 (List.map aA y.1)),(.int .i64 y.2)]) []
def aDA (aH:Int × Int × Bool):Ans:=.row [(.int .u8 aH.1),(.int .i64 aH.2.1),(.bool aH.2.2)]
def aA6 (aH:Int × Int × Bool) (aE:aN):Ans:=.rows (List.map aA (aE++[aH]))
def aLI (x2:Int) (x3:Int) (aJ:Bool):Ans:=.rows (List.map aA [(x3,x2,aJ)])
def aHH (x2:Int) (x3:Int) (aE:aN) (aJ:Bool):Ans:=.rows (List.map aA (aE++[(x3,x2,aJ)]))
def aHD (x2:Int) (x3:Int) (aH:Int × Int × Bool) (aE:aN) (aJ:Bool):Ans:=.rows (List.map aA ((aE++[(x3,x2,aJ)])++[aH]))
def aKT (x2:Int) (x3:Int):Ans:=.call ⟨true,[]⟩ (.bool (hS x2 x3)) []
def aOT:Ans:=.norm 2 ⟨[(0,[]),(1,[]),(2,[]),(3,[]),(10,[])],[],false,[],[]⟩
def A53_7:Ans:=.norm 8 ⟨[(0,[]),(1,[]),(2,[]),(11,[]),(12,[]),(13,[]),(14,[])],[⟨.tmp 11,[],none⟩,⟨.tmp 12,[],some 3⟩],false,[],[]⟩
theorem bZ (x1:aN) (x2:Int) (x3:Int) (y:(Bool × Bool × aN)):∀(k:Nat) (bK:Bool) (aV:Int) (aE:aN) (aJ:Bool),bP k x1 x2 x3 bK aV aE aJ=some y→LT Try.prog X53 L53_1 (S53_1 x1 x2 x3 bK aV aE aJ) (O53_1 x1 x2 x3 y)
 | 0,bK,aV,aE,aJ,h=>by cases h
 | k+1,bK,aV,aE,aJ,h=>by
  rw[bP] at h
  by_cases cL0:ltI aV (nI x1.length)=true
  · rw[if_pos cL0] at h
    by_cases cL1:bK=true
    · rw[if_pos cL1] at h
      by_cases cL2:inI aV x1.length=true
      · rw[if_pos cL2] at h
        obtain⟨aH,eL3,h⟩:=bsm h
        by_cases cL4:eqI aH.1 x3=true
        · rw[if_pos cL4] at h
          by_cases cL5:eqI aH.2.1 x2=true
          · rw[if_pos cL5] at h
            exact LT.next aK (hs:=⟨[(0,[]),(1,[]),(2,[]),(11,[]),(12,[]),(13,[]),(14,[])],[⟨.tmp 11,[],none⟩,⟨.tmp 12,[],some 3⟩],false,[],[]⟩) (es:=none) [.n x1.length,dt,df,df,df,df,df,df,df,df,df,df,df,.n x1.length,.row [(.int .u8 aH.1)],df,df,df,.n x1.length,df,df,.row [(.int .i64 aH.2.1)],df,df,df,df,.n aE.length,.rows (List.map aA aE)] [⟨(bU aA (l:=aE) (n:=aE.length) rfl)⟩,⟨(rfl:aE.length=aE.length)⟩,⟨(zle aE.length)⟩,⟨(nF cL5)⟩,⟨(nF cL4)⟩,⟨(nF cL4)⟩,⟨(nF cL4)⟩,⟨(aI (e:=aA) eL3 3 1 1 (by decide))⟩,⟨(nF cL4)⟩,⟨(nF cL4)⟩,⟨cL2⟩,⟨(aG aA x1)⟩,⟨(nF cL4)⟩,⟨(nF cL4)⟩,⟨(nF cL4)⟩,⟨(aI (e:=aA) eL3 3 0 1 (by decide))⟩,⟨cL2⟩,⟨(aG aA x1)⟩,⟨rF⟩,⟨(nF cL1)⟩,⟨(nF cL1)⟩,⟨(nF cL1)⟩,⟨(nF cL1)⟩,⟨(nF cL1)⟩,⟨(nF cL1)⟩,⟨(nF cL1)⟩,⟨(nF cL1)⟩,⟨(nF cL1)⟩,⟨(nF cL1)⟩,⟨cL0⟩,⟨(aG aA x1)⟩] (by kernel_rfl) (bZ x1 x2 x3 y k bK (aO .i64 aV 1) aE aJ h)
          rw[if_neg cL5] at h;replace cL5:=eqf cL5
          by_cases cL6:bJ (((aE++[aH]).length)*24)=true
          · rw[if_pos cL6] at h
            exact LT.next aK (hs:=⟨[(0,[]),(1,[]),(2,[]),(11,[]),(12,[]),(13,[]),(14,[])],[⟨.tmp 11,[],none⟩,⟨.tmp 12,[],some 3⟩],false,[],[]⟩) (es:=none) [.n x1.length,dt,df,df,df,df,df,df,df,df,df,df,df,.n x1.length,.row [(.int .u8 aH.1)],df,df,df,.n x1.length,df,df,.row [(.int .i64 aH.2.1)],df,df,df,dt,.n x1.length,(aDA aH),.rows (List.map aA [aH]),.n ((aE++[aH]).length),.n aE.length,dt,(aA6 aH aE),.n ((aE++[aH]).length),(aA6 aH aE)] [⟨(bU aA (l:=(aE++[aH])) (n:=((aE++[aH]).length)) rfl)⟩,⟨(rfl:(aE++[aH]).length=(aE++[aH]).length)⟩,⟨(zle ((aE++[aH]).length))⟩,⟨(gQ aA aE [aH])⟩,⟨(eX aE.length)⟩,⟨(aG aA aE)⟩,⟨cL6⟩,⟨(by simp only[wl,List.length_map,List.map_nil,List.map_cons]<;>omega:aE.length+(List.map aA [aH]).length=(aE++[aH]).length)⟩,⟨(aS aA (l:=[aH]) (n:=1) rfl)⟩,⟨(bB aA (Nat.le_refl 1):0+1≤(List.map aA [aH]).length)⟩,⟨(aI (e:=aA) eL3 3 0 3 (by decide))⟩,⟨cL2⟩,⟨(aG aA x1)⟩,⟨(nT cL5)⟩,⟨(nF cL4)⟩,⟨(nF cL4)⟩,⟨(nF cL4)⟩,⟨(aI (e:=aA) eL3 3 1 1 (by decide))⟩,⟨(nF cL4)⟩,⟨(nF cL4)⟩,⟨cL2⟩,⟨(aG aA x1)⟩,⟨(nF cL4)⟩,⟨(nF cL4)⟩,⟨(nF cL4)⟩,⟨(aI (e:=aA) eL3 3 0 1 (by decide))⟩,⟨cL2⟩,⟨(aG aA x1)⟩,⟨rF⟩,⟨(nF cL1)⟩,⟨(nF cL1)⟩,⟨(nF cL1)⟩,⟨(nF cL1)⟩,⟨(nF cL1)⟩,⟨(nF cL1)⟩,⟨(nF cL1)⟩,⟨(nF cL1)⟩,⟨(nF cL1)⟩,⟨(nF cL1)⟩,⟨cL0⟩,⟨(aG aA x1)⟩] (by kernel_rfl) (bZ x1 x2 x3 y k bK (aO .i64 aV 1) (aE++[aH]) aJ h)
          rw[if_neg cL6] at h;replace cL6:=eqf cL6
          cases h
        rw[if_neg cL4] at h;replace cL4:=eqf cL4
        by_cases cL5:bJ (((aE++[aH]).length)*24)=true
        · rw[if_pos cL5] at h
          exact LT.next aK (hs:=⟨[(0,[]),(1,[]),(2,[]),(11,[]),(12,[]),(13,[]),(14,[])],[⟨.tmp 11,[],none⟩,⟨.tmp 12,[],some 3⟩],false,[],[]⟩) (es:=none) [.n x1.length,dt,df,df,df,df,df,df,df,df,df,df,df,.n x1.length,.row [(.int .u8 aH.1)],dt,dt,dt,dt,dt,dt,dt,dt,dt,.n x1.length,(aDA aH),.rows (List.map aA [aH]),.n ((aE++[aH]).length),.n aE.length,dt,(aA6 aH aE),.n ((aE++[aH]).length),(aA6 aH aE)] [⟨(bU aA (l:=(aE++[aH])) (n:=((aE++[aH]).length)) rfl)⟩,⟨(rfl:(aE++[aH]).length=(aE++[aH]).length)⟩,⟨(zle ((aE++[aH]).length))⟩,⟨(gQ aA aE [aH])⟩,⟨(eX aE.length)⟩,⟨(aG aA aE)⟩,⟨cL5⟩,⟨(by simp only[wl,List.length_map,List.map_nil,List.map_cons]<;>omega:aE.length+(List.map aA [aH]).length=(aE++[aH]).length)⟩,⟨(aS aA (l:=[aH]) (n:=1) rfl)⟩,⟨(bB aA (Nat.le_refl 1):0+1≤(List.map aA [aH]).length)⟩,⟨(aI (e:=aA) eL3 3 0 3 (by decide))⟩,⟨cL2⟩,⟨(aG aA x1)⟩,⟨rT⟩,⟨(nT cL4)⟩,⟨(nT cL4)⟩,⟨(nT cL4)⟩,⟨(nT cL4)⟩,⟨(nT cL4)⟩,⟨(nT cL4)⟩,⟨(nT cL4)⟩,⟨(nT cL4)⟩,⟨(aI (e:=aA) eL3 3 0 1 (by decide))⟩,⟨cL2⟩,⟨(aG aA x1)⟩,⟨rF⟩,⟨(nF cL1)⟩,⟨(nF cL1)⟩,⟨(nF cL1)⟩,⟨(nF cL1)⟩,⟨(nF cL1)⟩,⟨(nF cL1)⟩,⟨(nF cL1)⟩,⟨(nF cL1)⟩,⟨(nF cL1)⟩,⟨(nF cL1)⟩,⟨cL0⟩,⟨(aG aA x1)⟩] (by kernel_rfl) (bZ x1 x2 x3 y k bK (aO .i64 aV 1) (aE++[aH]) aJ h)
        rw[if_neg cL5] at h;replace cL5:=eqf cL5
        cases h
      rw[if_neg cL2] at h;replace cL2:=eqf cL2
      cases h
    rw[if_neg cL1] at h;replace cL1:=eqf cL1
    by_cases cL2:inI aV x1.length=true
    · rw[if_pos cL2] at h
      obtain⟨aH,eL3,h⟩:=bsm h
      by_cases cL4:ltI x3 aH.1=true
      · rw[if_pos cL4] at h
        by_cases cL5:bJ (((aE++[(x3,x2,aJ)]).length)*24)=true
        · rw[if_pos cL5] at h
          by_cases cL6:eqI aH.1 x3=true
          · rw[if_pos cL6] at h
            by_cases cL7:eqI aH.2.1 x2=true
            · rw[if_pos cL7] at h
              exact LT.next aK (hs:=⟨[(0,[]),(1,[]),(2,[]),(11,[]),(12,[]),(13,[]),(14,[])],[⟨.tmp 11,[],none⟩,⟨.tmp 12,[],some 3⟩],false,[],[]⟩) (es:=none) [.n x1.length,dt,dt,dt,dt,dt,.n x1.length,dt,dt,.row [(.int .u8 aH.1)],dt,dt,dt,dt,dt,dt,dt,dt,dt,dt,dt,dt,dt,dt,dt,(aLI x2 x3 aJ),.n ((aE++[(x3,x2,aJ)]).length),.n aE.length,dt,(aHH x2 x3 aE aJ),.n x1.length,.row [(.int .u8 aH.1)],df,df,df,.n x1.length,df,df,.row [(.int .i64 aH.2.1)],df,df,df,df,.n ((aE++[(x3,x2,aJ)]).length),(aHH x2 x3 aE aJ)] [⟨(bU aA (l:=(aE++[(x3,x2,aJ)])) (n:=((aE++[(x3,x2,aJ)]).length)) rfl)⟩,⟨(rfl:(aE++[(x3,x2,aJ)]).length=(aE++[(x3,x2,aJ)]).length)⟩,⟨(zle ((aE++[(x3,x2,aJ)]).length))⟩,⟨(nF cL7)⟩,⟨(nF cL6)⟩,⟨(nF cL6)⟩,⟨(nF cL6)⟩,⟨(aI (e:=aA) eL3 3 1 1 (by decide))⟩,⟨(nF cL6)⟩,⟨(nF cL6)⟩,⟨cL2⟩,⟨(aG aA x1)⟩,⟨(nF cL6)⟩,⟨(nF cL6)⟩,⟨(nF cL6)⟩,⟨(aI (e:=aA) eL3 3 0 1 (by decide))⟩,⟨cL2⟩,⟨(aG aA x1)⟩,⟨(gQ aA aE [(x3,x2,aJ)])⟩,⟨(eX aE.length)⟩,⟨(aG aA aE)⟩,⟨cL5⟩,⟨(by simp only[wl,List.length_map,List.map_nil,List.map_cons]<;>omega:aE.length+(List.map aA [(x3,x2,aJ)]).length=(aE++[(x3,x2,aJ)]).length)⟩,⟨(aS aA (l:=[(x3,x2,aJ)]) (n:=1) rfl)⟩,⟨(bB aA (Nat.le_refl 1):0+1≤(List.map aA [(x3,x2,aJ)]).length)⟩,⟨rT⟩,⟨(nT cL1)⟩,⟨cL4⟩,⟨(nT cL1)⟩,⟨cL4⟩,⟨cL4⟩,⟨cL4⟩,⟨cL4⟩,⟨cL4⟩,⟨cL4⟩,⟨cL4⟩,⟨cL4⟩,⟨cL4⟩,⟨(nT cL1)⟩,⟨(nT cL1)⟩,⟨(aI (e:=aA) eL3 3 0 1 (by decide))⟩,⟨(nT cL1)⟩,⟨(nT cL1)⟩,⟨cL2⟩,⟨(aG aA x1)⟩,⟨(nT cL1)⟩,⟨(nT cL1)⟩,⟨(nT cL1)⟩,⟨(nT cL1)⟩,⟨cL0⟩,⟨(aG aA x1)⟩] (by kernel_rfl) (bZ x1 x2 x3 y k true (aO .i64 aV 1) (aE++[(x3,x2,aJ)]) aJ h)
            rw[if_neg cL7] at h;replace cL7:=eqf cL7
            by_cases cL8:bJ ((((aE++[(x3,x2,aJ)])++[aH]).length)*24)=true
            · rw[if_pos cL8] at h
              exact LT.next aK (hs:=⟨[(0,[]),(1,[]),(2,[]),(11,[]),(12,[]),(13,[]),(14,[])],[⟨.tmp 11,[],none⟩,⟨.tmp 12,[],some 3⟩],false,[],[]⟩) (es:=none) [.n x1.length,dt,dt,dt,dt,dt,.n x1.length,dt,dt,.row [(.int .u8 aH.1)],dt,dt,dt,dt,dt,dt,dt,dt,dt,dt,dt,dt,dt,dt,dt,(aLI x2 x3 aJ),.n ((aE++[(x3,x2,aJ)]).length),.n aE.length,dt,(aHH x2 x3 aE aJ),.n x1.length,.row [(.int .u8 aH.1)],df,df,df,.n x1.length,df,df,.row [(.int .i64 aH.2.1)],df,df,df,dt,.n x1.length,(aDA aH),.rows (List.map aA [aH]),.n (((aE++[(x3,x2,aJ)])++[aH]).length),.n ((aE++[(x3,x2,aJ)]).length),dt,(aHD x2 x3 aH aE aJ),.n (((aE++[(x3,x2,aJ)])++[aH]).length),(aHD x2 x3 aH aE aJ)] [⟨(bU aA (l:=((aE++[(x3,x2,aJ)])++[aH])) (n:=(((aE++[(x3,x2,aJ)])++[aH]).length)) rfl)⟩,⟨(rfl:((aE++[(x3,x2,aJ)])++[aH]).length=((aE++[(x3,x2,aJ)])++[aH]).length)⟩,⟨(zle (((aE++[(x3,x2,aJ)])++[aH]).length))⟩,⟨(gQ aA (aE++[(x3,x2,aJ)]) [aH])⟩,⟨(eX ((aE++[(x3,x2,aJ)]).length))⟩,⟨(aG aA (aE++[(x3,x2,aJ)]))⟩,⟨cL8⟩,⟨(by simp only[wl,List.length_map,List.map_nil,List.map_cons]<;>omega:((aE++[(x3,x2,aJ)]).length)+(List.map aA [aH]).length=((aE++[(x3,x2,aJ)])++[aH]).length)⟩,⟨(aS aA (l:=[aH]) (n:=1) rfl)⟩,⟨(bB aA (Nat.le_refl 1):0+1≤(List.map aA [aH]).length)⟩,⟨(aI (e:=aA) eL3 3 0 3 (by decide))⟩,⟨cL2⟩,⟨(aG aA x1)⟩,⟨(nT cL7)⟩,⟨(nF cL6)⟩,⟨(nF cL6)⟩,⟨(nF cL6)⟩,⟨(aI (e:=aA) eL3 3 1 1 (by decide))⟩,⟨(nF cL6)⟩,⟨(nF cL6)⟩,⟨cL2⟩,⟨(aG aA x1)⟩,⟨(nF cL6)⟩,⟨(nF cL6)⟩,⟨(nF cL6)⟩,⟨(aI (e:=aA) eL3 3 0 1 (by decide))⟩,⟨cL2⟩,⟨(aG aA x1)⟩,⟨(gQ aA aE [(x3,x2,aJ)])⟩,⟨(eX aE.length)⟩,⟨(aG aA aE)⟩,⟨cL5⟩,⟨(by simp only[wl,List.length_map,List.map_nil,List.map_cons]<;>omega:aE.length+(List.map aA [(x3,x2,aJ)]).length=(aE++[(x3,x2,aJ)]).length)⟩,⟨(aS aA (l:=[(x3,x2,aJ)]) (n:=1) rfl)⟩,⟨(bB aA (Nat.le_refl 1):0+1≤(List.map aA [(x3,x2,aJ)]).length)⟩,⟨rT⟩,⟨(nT cL1)⟩,⟨cL4⟩,⟨(nT cL1)⟩,⟨cL4⟩,⟨cL4⟩,⟨cL4⟩,⟨cL4⟩,⟨cL4⟩,⟨cL4⟩,⟨cL4⟩,⟨cL4⟩,⟨cL4⟩,⟨(nT cL1)⟩,⟨(nT cL1)⟩,⟨(aI (e:=aA) eL3 3 0 1 (by decide))⟩,⟨(nT cL1)⟩,⟨(nT cL1)⟩,⟨cL2⟩,⟨(aG aA x1)⟩,⟨(nT cL1)⟩,⟨(nT cL1)⟩,⟨(nT cL1)⟩,⟨(nT cL1)⟩,⟨cL0⟩,⟨(aG aA x1)⟩] (by kernel_rfl) (bZ x1 x2 x3 y k true (aO .i64 aV 1) ((aE++[(x3,x2,aJ)])++[aH]) aJ h)
            rw[if_neg cL8] at h;replace cL8:=eqf cL8
            cases h
          rw[if_neg cL6] at h;replace cL6:=eqf cL6
          by_cases cL7:bJ ((((aE++[(x3,x2,aJ)])++[aH]).length)*24)=true
          · rw[if_pos cL7] at h
            exact LT.next aK (hs:=⟨[(0,[]),(1,[]),(2,[]),(11,[]),(12,[]),(13,[]),(14,[])],[⟨.tmp 11,[],none⟩,⟨.tmp 12,[],some 3⟩],false,[],[]⟩) (es:=none) [.n x1.length,dt,dt,dt,dt,dt,.n x1.length,dt,dt,.row [(.int .u8 aH.1)],dt,dt,dt,dt,dt,dt,dt,dt,dt,dt,dt,dt,dt,dt,dt,(aLI x2 x3 aJ),.n ((aE++[(x3,x2,aJ)]).length),.n aE.length,dt,(aHH x2 x3 aE aJ),.n x1.length,.row [(.int .u8 aH.1)],dt,dt,dt,dt,dt,dt,dt,dt,dt,.n x1.length,(aDA aH),.rows (List.map aA [aH]),.n (((aE++[(x3,x2,aJ)])++[aH]).length),.n ((aE++[(x3,x2,aJ)]).length),dt,(aHD x2 x3 aH aE aJ),.n (((aE++[(x3,x2,aJ)])++[aH]).length),(aHD x2 x3 aH aE aJ)] [⟨(bU aA (l:=((aE++[(x3,x2,aJ)])++[aH])) (n:=(((aE++[(x3,x2,aJ)])++[aH]).length)) rfl)⟩,⟨(rfl:((aE++[(x3,x2,aJ)])++[aH]).length=((aE++[(x3,x2,aJ)])++[aH]).length)⟩,⟨(zle (((aE++[(x3,x2,aJ)])++[aH]).length))⟩,⟨(gQ aA (aE++[(x3,x2,aJ)]) [aH])⟩,⟨(eX ((aE++[(x3,x2,aJ)]).length))⟩,⟨(aG aA (aE++[(x3,x2,aJ)]))⟩,⟨cL7⟩,⟨(by simp only[wl,List.length_map,List.map_nil,List.map_cons]<;>omega:((aE++[(x3,x2,aJ)]).length)+(List.map aA [aH]).length=((aE++[(x3,x2,aJ)])++[aH]).length)⟩,⟨(aS aA (l:=[aH]) (n:=1) rfl)⟩,⟨(bB aA (Nat.le_refl 1):0+1≤(List.map aA [aH]).length)⟩,⟨(aI (e:=aA) eL3 3 0 3 (by decide))⟩,⟨cL2⟩,⟨(aG aA x1)⟩,⟨rT⟩,⟨(nT cL6)⟩,⟨(nT cL6)⟩,⟨(nT cL6)⟩,⟨(nT cL6)⟩,⟨(nT cL6)⟩,⟨(nT cL6)⟩,⟨(nT cL6)⟩,⟨(nT cL6)⟩,⟨(aI (e:=aA) eL3 3 0 1 (by decide))⟩,⟨cL2⟩,⟨(aG aA x1)⟩,⟨(gQ aA aE [(x3,x2,aJ)])⟩,⟨(eX aE.length)⟩,⟨(aG aA aE)⟩,⟨cL5⟩,⟨(by simp only[wl,List.length_map,List.map_nil,List.map_cons]<;>omega:aE.length+(List.map aA [(x3,x2,aJ)]).length=(aE++[(x3,x2,aJ)]).length)⟩,⟨(aS aA (l:=[(x3,x2,aJ)]) (n:=1) rfl)⟩,⟨(bB aA (Nat.le_refl 1):0+1≤(List.map aA [(x3,x2,aJ)]).length)⟩,⟨rT⟩,⟨(nT cL1)⟩,⟨cL4⟩,⟨(nT cL1)⟩,⟨cL4⟩,⟨cL4⟩,⟨cL4⟩,⟨cL4⟩,⟨cL4⟩,⟨cL4⟩,⟨cL4⟩,⟨cL4⟩,⟨cL4⟩,⟨(nT cL1)⟩,⟨(nT cL1)⟩,⟨(aI (e:=aA) eL3 3 0 1 (by decide))⟩,⟨(nT cL1)⟩,⟨(nT cL1)⟩,⟨cL2⟩,⟨(aG aA x1)⟩,⟨(nT cL1)⟩,⟨(nT cL1)⟩,⟨(nT cL1)⟩,⟨(nT cL1)⟩,⟨cL0⟩,⟨(aG aA x1)⟩] (by kernel_rfl) (bZ x1 x2 x3 y k true (aO .i64 aV 1) ((aE++[(x3,x2,aJ)])++[aH]) aJ h)
          rw[if_neg cL7] at h;replace cL7:=eqf cL7
          cases h
        rw[if_neg cL5] at h;replace cL5:=eqf cL5
        cases h
      rw[if_neg cL4] at h;replace cL4:=eqf cL4
      by_cases cL5:eqI x3 aH.1=true
      · rw[if_pos cL5] at h
        by_cases cL6:ltI aH.2.1 x2=true
        · rw[if_pos cL6] at h
          by_cases cL7:eqI aH.1 x3=true
          · rw[if_pos cL7] at h
            by_cases cL8:eqI aH.2.1 x2=true
            · rw[if_pos cL8] at h
              exact LT.next aK (hs:=⟨[(0,[]),(1,[]),(2,[]),(11,[]),(12,[]),(13,[]),(14,[])],[⟨.tmp 11,[],none⟩,⟨.tmp 12,[],some 3⟩],false,[],[]⟩) (es:=none) [.n x1.length,dt,dt,dt,dt,dt,.n x1.length,dt,dt,.row [(.int .u8 aH.1)],dt,dt,df,df,df,df,.n x1.length,df,df,.row [(.int .u8 aH.1)],df,df,dt,dt,dt,dt,.n x1.length,dt,dt,.row [(.int .i64 aH.2.1)],dt,df,dt,dt,df,dt,df,.n x1.length,.row [(.int .u8 aH.1)],df,df,df,.n x1.length,df,df,.row [(.int .i64 aH.2.1)],df,df,df,df,.n aE.length,.rows (List.map aA aE)] [⟨(bU aA (l:=aE) (n:=aE.length) rfl)⟩,⟨(rfl:aE.length=aE.length)⟩,⟨(zle aE.length)⟩,⟨(nF cL8)⟩,⟨(nF cL7)⟩,⟨(nF cL7)⟩,⟨(nF cL7)⟩,⟨(aI (e:=aA) eL3 3 1 1 (by decide))⟩,⟨(nF cL7)⟩,⟨(nF cL7)⟩,⟨cL2⟩,⟨(aG aA x1)⟩,⟨(nF cL7)⟩,⟨(nF cL7)⟩,⟨(nF cL7)⟩,⟨(aI (e:=aA) eL3 3 0 1 (by decide))⟩,⟨cL2⟩,⟨(aG aA x1)⟩,⟨(nF cL6)⟩,⟨(nT cL1)⟩,⟨cL4⟩,⟨(nT cL1)⟩,⟨cL5⟩,⟨cL4⟩,⟨cL5⟩,⟨(aI (e:=aA) eL3 3 1 1 (by decide))⟩,⟨cL5⟩,⟨cL5⟩,⟨cL2⟩,⟨(aG aA x1)⟩,⟨cL5⟩,⟨cL5⟩,⟨cL5⟩,⟨cL5⟩,⟨cL4⟩,⟨cL4⟩,⟨(aI (e:=aA) eL3 3 0 1 (by decide))⟩,⟨cL4⟩,⟨cL4⟩,⟨cL2⟩,⟨(aG aA x1)⟩,⟨cL4⟩,⟨cL4⟩,⟨cL4⟩,⟨cL4⟩,⟨(nT cL1)⟩,⟨(nT cL1)⟩,⟨(aI (e:=aA) eL3 3 0 1 (by decide))⟩,⟨(nT cL1)⟩,⟨(nT cL1)⟩,⟨cL2⟩,⟨(aG aA x1)⟩,⟨(nT cL1)⟩,⟨(nT cL1)⟩,⟨(nT cL1)⟩,⟨(nT cL1)⟩,⟨cL0⟩,⟨(aG aA x1)⟩] (by kernel_rfl) (bZ x1 x2 x3 y k bK (aO .i64 aV 1) aE aJ h)
            rw[if_neg cL8] at h;replace cL8:=eqf cL8
            by_cases cL9:bJ (((aE++[aH]).length)*24)=true
            · rw[if_pos cL9] at h
              exact LT.next aK (hs:=⟨[(0,[]),(1,[]),(2,[]),(11,[]),(12,[]),(13,[]),(14,[])],[⟨.tmp 11,[],none⟩,⟨.tmp 12,[],some 3⟩],false,[],[]⟩) (es:=none) [.n x1.length,dt,dt,dt,dt,dt,.n x1.length,dt,dt,.row [(.int .u8 aH.1)],dt,dt,df,df,df,df,.n x1.length,df,df,.row [(.int .u8 aH.1)],df,df,dt,dt,dt,dt,.n x1.length,dt,dt,.row [(.int .i64 aH.2.1)],dt,df,dt,dt,df,dt,df,.n x1.length,.row [(.int .u8 aH.1)],df,df,df,.n x1.length,df,df,.row [(.int .i64 aH.2.1)],df,df,df,dt,.n x1.length,(aDA aH),.rows (List.map aA [aH]),.n ((aE++[aH]).length),.n aE.length,dt,(aA6 aH aE),.n ((aE++[aH]).length),(aA6 aH aE)] [⟨(bU aA (l:=(aE++[aH])) (n:=((aE++[aH]).length)) rfl)⟩,⟨(rfl:(aE++[aH]).length=(aE++[aH]).length)⟩,⟨(zle ((aE++[aH]).length))⟩,⟨(gQ aA aE [aH])⟩,⟨(eX aE.length)⟩,⟨(aG aA aE)⟩,⟨cL9⟩,⟨(by simp only[wl,List.length_map,List.map_nil,List.map_cons]<;>omega:aE.length+(List.map aA [aH]).length=(aE++[aH]).length)⟩,⟨(aS aA (l:=[aH]) (n:=1) rfl)⟩,⟨(bB aA (Nat.le_refl 1):0+1≤(List.map aA [aH]).length)⟩,⟨(aI (e:=aA) eL3 3 0 3 (by decide))⟩,⟨cL2⟩,⟨(aG aA x1)⟩,⟨(nT cL8)⟩,⟨(nF cL7)⟩,⟨(nF cL7)⟩,⟨(nF cL7)⟩,⟨(aI (e:=aA) eL3 3 1 1 (by decide))⟩,⟨(nF cL7)⟩,⟨(nF cL7)⟩,⟨cL2⟩,⟨(aG aA x1)⟩,⟨(nF cL7)⟩,⟨(nF cL7)⟩,⟨(nF cL7)⟩,⟨(aI (e:=aA) eL3 3 0 1 (by decide))⟩,⟨cL2⟩,⟨(aG aA x1)⟩,⟨(nF cL6)⟩,⟨(nT cL1)⟩,⟨cL4⟩,⟨(nT cL1)⟩,⟨cL5⟩,⟨cL4⟩,⟨cL5⟩,⟨(aI (e:=aA) eL3 3 1 1 (by decide))⟩,⟨cL5⟩,⟨cL5⟩,⟨cL2⟩,⟨(aG aA x1)⟩,⟨cL5⟩,⟨cL5⟩,⟨cL5⟩,⟨cL5⟩,⟨cL4⟩,⟨cL4⟩,⟨(aI (e:=aA) eL3 3 0 1 (by decide))⟩,⟨cL4⟩,⟨cL4⟩,⟨cL2⟩,⟨(aG aA x1)⟩,⟨cL4⟩,⟨cL4⟩,⟨cL4⟩,⟨cL4⟩,⟨(nT cL1)⟩,⟨(nT cL1)⟩,⟨(aI (e:=aA) eL3 3 0 1 (by decide))⟩,⟨(nT cL1)⟩,⟨(nT cL1)⟩,⟨cL2⟩,⟨(aG aA x1)⟩,⟨(nT cL1)⟩,⟨(nT cL1)⟩,⟨(nT cL1)⟩,⟨(nT cL1)⟩,⟨cL0⟩,⟨(aG aA x1)⟩] (by kernel_rfl) (bZ x1 x2 x3 y k bK (aO .i64 aV 1) (aE++[aH]) aJ h)
            rw[if_neg cL9] at h;replace cL9:=eqf cL9
            cases h
          rw[if_neg cL7] at h;replace cL7:=eqf cL7
          by_cases cL8:bJ (((aE++[aH]).length)*24)=true
          · rw[if_pos cL8] at h
            exact LT.next aK (hs:=⟨[(0,[]),(1,[]),(2,[]),(11,[]),(12,[]),(13,[]),(14,[])],[⟨.tmp 11,[],none⟩,⟨.tmp 12,[],some 3⟩],false,[],[]⟩) (es:=none) [.n x1.length,dt,dt,dt,dt,dt,.n x1.length,dt,dt,.row [(.int .u8 aH.1)],dt,dt,df,df,df,df,.n x1.length,df,df,.row [(.int .u8 aH.1)],df,df,dt,dt,dt,dt,.n x1.length,dt,dt,.row [(.int .i64 aH.2.1)],dt,df,dt,dt,df,dt,df,.n x1.length,.row [(.int .u8 aH.1)],dt,dt,dt,dt,dt,dt,dt,dt,dt,.n x1.length,(aDA aH),.rows (List.map aA [aH]),.n ((aE++[aH]).length),.n aE.length,dt,(aA6 aH aE),.n ((aE++[aH]).length),(aA6 aH aE)] [⟨(bU aA (l:=(aE++[aH])) (n:=((aE++[aH]).length)) rfl)⟩,⟨(rfl:(aE++[aH]).length=(aE++[aH]).length)⟩,⟨(zle ((aE++[aH]).length))⟩,⟨(gQ aA aE [aH])⟩,⟨(eX aE.length)⟩,⟨(aG aA aE)⟩,⟨cL8⟩,⟨(by simp only[wl,List.length_map,List.map_nil,List.map_cons]<;>omega:aE.length+(List.map aA [aH]).length=(aE++[aH]).length)⟩,⟨(aS aA (l:=[aH]) (n:=1) rfl)⟩,⟨(bB aA (Nat.le_refl 1):0+1≤(List.map aA [aH]).length)⟩,⟨(aI (e:=aA) eL3 3 0 3 (by decide))⟩,⟨cL2⟩,⟨(aG aA x1)⟩,⟨rT⟩,⟨(nT cL7)⟩,⟨(nT cL7)⟩,⟨(nT cL7)⟩,⟨(nT cL7)⟩,⟨(nT cL7)⟩,⟨(nT cL7)⟩,⟨(nT cL7)⟩,⟨(nT cL7)⟩,⟨(aI (e:=aA) eL3 3 0 1 (by decide))⟩,⟨cL2⟩,⟨(aG aA x1)⟩,⟨(nF cL6)⟩,⟨(nT cL1)⟩,⟨cL4⟩,⟨(nT cL1)⟩,⟨cL5⟩,⟨cL4⟩,⟨cL5⟩,⟨(aI (e:=aA) eL3 3 1 1 (by decide))⟩,⟨cL5⟩,⟨cL5⟩,⟨cL2⟩,⟨(aG aA x1)⟩,⟨cL5⟩,⟨cL5⟩,⟨cL5⟩,⟨cL5⟩,⟨cL4⟩,⟨cL4⟩,⟨(aI (e:=aA) eL3 3 0 1 (by decide))⟩,⟨cL4⟩,⟨cL4⟩,⟨cL2⟩,⟨(aG aA x1)⟩,⟨cL4⟩,⟨cL4⟩,⟨cL4⟩,⟨cL4⟩,⟨(nT cL1)⟩,⟨(nT cL1)⟩,⟨(aI (e:=aA) eL3 3 0 1 (by decide))⟩,⟨(nT cL1)⟩,⟨(nT cL1)⟩,⟨cL2⟩,⟨(aG aA x1)⟩,⟨(nT cL1)⟩,⟨(nT cL1)⟩,⟨(nT cL1)⟩,⟨(nT cL1)⟩,⟨cL0⟩,⟨(aG aA x1)⟩] (by kernel_rfl) (bZ x1 x2 x3 y k bK (aO .i64 aV 1) (aE++[aH]) aJ h)
          rw[if_neg cL8] at h;replace cL8:=eqf cL8
          cases h
        rw[if_neg cL6] at h;replace cL6:=eqf cL6
        by_cases cL7:bJ (((aE++[(x3,x2,aJ)]).length)*24)=true
        · rw[if_pos cL7] at h
          by_cases cL8:eqI aH.1 x3=true
          · rw[if_pos cL8] at h
            by_cases cL9:eqI aH.2.1 x2=true
            · rw[if_pos cL9] at h
              exact LT.next aK (hs:=⟨[(0,[]),(1,[]),(2,[]),(11,[]),(12,[]),(13,[]),(14,[])],[⟨.tmp 11,[],none⟩,⟨.tmp 12,[],some 3⟩],false,[],[]⟩) (es:=none) [.n x1.length,dt,dt,dt,dt,dt,.n x1.length,dt,dt,.row [(.int .u8 aH.1)],dt,dt,df,df,df,df,.n x1.length,df,df,.row [(.int .u8 aH.1)],df,df,dt,dt,dt,dt,.n x1.length,dt,dt,.row [(.int .i64 aH.2.1)],dt,df,dt,dt,df,dt,dt,(aLI x2 x3 aJ),.n ((aE++[(x3,x2,aJ)]).length),.n aE.length,dt,(aHH x2 x3 aE aJ),.n x1.length,.row [(.int .u8 aH.1)],df,df,df,.n x1.length,df,df,.row [(.int .i64 aH.2.1)],df,df,df,df,.n ((aE++[(x3,x2,aJ)]).length),(aHH x2 x3 aE aJ)] [⟨(bU aA (l:=(aE++[(x3,x2,aJ)])) (n:=((aE++[(x3,x2,aJ)]).length)) rfl)⟩,⟨(rfl:(aE++[(x3,x2,aJ)]).length=(aE++[(x3,x2,aJ)]).length)⟩,⟨(zle ((aE++[(x3,x2,aJ)]).length))⟩,⟨(nF cL9)⟩,⟨(nF cL8)⟩,⟨(nF cL8)⟩,⟨(nF cL8)⟩,⟨(aI (e:=aA) eL3 3 1 1 (by decide))⟩,⟨(nF cL8)⟩,⟨(nF cL8)⟩,⟨cL2⟩,⟨(aG aA x1)⟩,⟨(nF cL8)⟩,⟨(nF cL8)⟩,⟨(nF cL8)⟩,⟨(aI (e:=aA) eL3 3 0 1 (by decide))⟩,⟨cL2⟩,⟨(aG aA x1)⟩,⟨(gQ aA aE [(x3,x2,aJ)])⟩,⟨(eX aE.length)⟩,⟨(aG aA aE)⟩,⟨cL7⟩,⟨(by simp only[wl,List.length_map,List.map_nil,List.map_cons]<;>omega:aE.length+(List.map aA [(x3,x2,aJ)]).length=(aE++[(x3,x2,aJ)]).length)⟩,⟨(aS aA (l:=[(x3,x2,aJ)]) (n:=1) rfl)⟩,⟨(bB aA (Nat.le_refl 1):0+1≤(List.map aA [(x3,x2,aJ)]).length)⟩,⟨(nT cL6)⟩,⟨(nT cL1)⟩,⟨cL4⟩,⟨(nT cL1)⟩,⟨cL5⟩,⟨cL4⟩,⟨cL5⟩,⟨(aI (e:=aA) eL3 3 1 1 (by decide))⟩,⟨cL5⟩,⟨cL5⟩,⟨cL2⟩,⟨(aG aA x1)⟩,⟨cL5⟩,⟨cL5⟩,⟨cL5⟩,⟨cL5⟩,⟨cL4⟩,⟨cL4⟩,⟨(aI (e:=aA) eL3 3 0 1 (by decide))⟩,⟨cL4⟩,⟨cL4⟩,⟨cL2⟩,⟨(aG aA x1)⟩,⟨cL4⟩,⟨cL4⟩,⟨cL4⟩,⟨cL4⟩,⟨(nT cL1)⟩,⟨(nT cL1)⟩,⟨(aI (e:=aA) eL3 3 0 1 (by decide))⟩,⟨(nT cL1)⟩,⟨(nT cL1)⟩,⟨cL2⟩,⟨(aG aA x1)⟩,⟨(nT cL1)⟩,⟨(nT cL1)⟩,⟨(nT cL1)⟩,⟨(nT cL1)⟩,⟨cL0⟩,⟨(aG aA x1)⟩] (by kernel_rfl) (bZ x1 x2 x3 y k true (aO .i64 aV 1) (aE++[(x3,x2,aJ)]) aJ h)
            rw[if_neg cL9] at h;replace cL9:=eqf cL9
            by_cases cL10:bJ ((((aE++[(x3,x2,aJ)])++[aH]).length)*24)=true
            · rw[if_pos cL10] at h
              exact LT.next aK (hs:=⟨[(0,[]),(1,[]),(2,[]),(11,[]),(12,[]),(13,[]),(14,[])],[⟨.tmp 11,[],none⟩,⟨.tmp 12,[],some 3⟩],false,[],[]⟩) (es:=none) [.n x1.length,dt,dt,dt,dt,dt,.n x1.length,dt,dt,.row [(.int .u8 aH.1)],dt,dt,df,df,df,df,.n x1.length,df,df,.row [(.int .u8 aH.1)],df,df,dt,dt,dt,dt,.n x1.length,dt,dt,.row [(.int .i64 aH.2.1)],dt,df,dt,dt,df,dt,dt,(aLI x2 x3 aJ),.n ((aE++[(x3,x2,aJ)]).length),.n aE.length,dt,(aHH x2 x3 aE aJ),.n x1.length,.row [(.int .u8 aH.1)],df,df,df,.n x1.length,df,df,.row [(.int .i64 aH.2.1)],df,df,df,dt,.n x1.length,(aDA aH),.rows (List.map aA [aH]),.n (((aE++[(x3,x2,aJ)])++[aH]).length),.n ((aE++[(x3,x2,aJ)]).length),dt,(aHD x2 x3 aH aE aJ),.n (((aE++[(x3,x2,aJ)])++[aH]).length),(aHD x2 x3 aH aE aJ)] [⟨(bU aA (l:=((aE++[(x3,x2,aJ)])++[aH])) (n:=(((aE++[(x3,x2,aJ)])++[aH]).length)) rfl)⟩,⟨(rfl:((aE++[(x3,x2,aJ)])++[aH]).length=((aE++[(x3,x2,aJ)])++[aH]).length)⟩,⟨(zle (((aE++[(x3,x2,aJ)])++[aH]).length))⟩,⟨(gQ aA (aE++[(x3,x2,aJ)]) [aH])⟩,⟨(eX ((aE++[(x3,x2,aJ)]).length))⟩,⟨(aG aA (aE++[(x3,x2,aJ)]))⟩,⟨cL10⟩,⟨(by simp only[wl,List.length_map,List.map_nil,List.map_cons]<;>omega:((aE++[(x3,x2,aJ)]).length)+(List.map aA [aH]).length=((aE++[(x3,x2,aJ)])++[aH]).length)⟩,⟨(aS aA (l:=[aH]) (n:=1) rfl)⟩,⟨(bB aA (Nat.le_refl 1):0+1≤(List.map aA [aH]).length)⟩,⟨(aI (e:=aA) eL3 3 0 3 (by decide))⟩,⟨cL2⟩,⟨(aG aA x1)⟩,⟨(nT cL9)⟩,⟨(nF cL8)⟩,⟨(nF cL8)⟩,⟨(nF cL8)⟩,⟨(aI (e:=aA) eL3 3 1 1 (by decide))⟩,⟨(nF cL8)⟩,⟨(nF cL8)⟩,⟨cL2⟩,⟨(aG aA x1)⟩,⟨(nF cL8)⟩,⟨(nF cL8)⟩,⟨(nF cL8)⟩,⟨(aI (e:=aA) eL3 3 0 1 (by decide))⟩,⟨cL2⟩,⟨(aG aA x1)⟩,⟨(gQ aA aE [(x3,x2,aJ)])⟩,⟨(eX aE.length)⟩,⟨(aG aA aE)⟩,⟨cL7⟩,⟨(by simp only[wl,List.length_map,List.map_nil,List.map_cons]<;>omega:aE.length+(List.map aA [(x3,x2,aJ)]).length=(aE++[(x3,x2,aJ)]).length)⟩,⟨(aS aA (l:=[(x3,x2,aJ)]) (n:=1) rfl)⟩,⟨(bB aA (Nat.le_refl 1):0+1≤(List.map aA [(x3,x2,aJ)]).length)⟩,⟨(nT cL6)⟩,⟨(nT cL1)⟩,⟨cL4⟩,⟨(nT cL1)⟩,⟨cL5⟩,⟨cL4⟩,⟨cL5⟩,⟨(aI (e:=aA) eL3 3 1 1 (by decide))⟩,⟨cL5⟩,⟨cL5⟩,⟨cL2⟩,⟨(aG aA x1)⟩,⟨cL5⟩,⟨cL5⟩,⟨cL5⟩,⟨cL5⟩,⟨cL4⟩,⟨cL4⟩,⟨(aI (e:=aA) eL3 3 0 1 (by decide))⟩,⟨cL4⟩,⟨cL4⟩,⟨cL2⟩,⟨(aG aA x1)⟩,⟨cL4⟩,⟨cL4⟩,⟨cL4⟩,⟨cL4⟩,⟨(nT cL1)⟩,⟨(nT cL1)⟩,⟨(aI (e:=aA) eL3 3 0 1 (by decide))⟩,⟨(nT cL1)⟩,⟨(nT cL1)⟩,⟨cL2⟩,⟨(aG aA x1)⟩,⟨(nT cL1)⟩,⟨(nT cL1)⟩,⟨(nT cL1)⟩,⟨(nT cL1)⟩,⟨cL0⟩,⟨(aG aA x1)⟩] (by kernel_rfl) (bZ x1 x2 x3 y k true (aO .i64 aV 1) ((aE++[(x3,x2,aJ)])++[aH]) aJ h)
            rw[if_neg cL10] at h;replace cL10:=eqf cL10
            cases h
          rw[if_neg cL8] at h;replace cL8:=eqf cL8
          by_cases cL9:bJ ((((aE++[(x3,x2,aJ)])++[aH]).length)*24)=true
          · rw[if_pos cL9] at h
            exact LT.next aK (hs:=⟨[(0,[]),(1,[]),(2,[]),(11,[]),(12,[]),(13,[]),(14,[])],[⟨.tmp 11,[],none⟩,⟨.tmp 12,[],some 3⟩],false,[],[]⟩) (es:=none) [.n x1.length,dt,dt,dt,dt,dt,.n x1.length,dt,dt,.row [(.int .u8 aH.1)],dt,dt,df,df,df,df,.n x1.length,df,df,.row [(.int .u8 aH.1)],df,df,dt,dt,dt,dt,.n x1.length,dt,dt,.row [(.int .i64 aH.2.1)],dt,df,dt,dt,df,dt,dt,(aLI x2 x3 aJ),.n ((aE++[(x3,x2,aJ)]).length),.n aE.length,dt,(aHH x2 x3 aE aJ),.n x1.length,.row [(.int .u8 aH.1)],dt,dt,dt,dt,dt,dt,dt,dt,dt,.n x1.length,(aDA aH),.rows (List.map aA [aH]),.n (((aE++[(x3,x2,aJ)])++[aH]).length),.n ((aE++[(x3,x2,aJ)]).length),dt,(aHD x2 x3 aH aE aJ),.n (((aE++[(x3,x2,aJ)])++[aH]).length),(aHD x2 x3 aH aE aJ)] [⟨(bU aA (l:=((aE++[(x3,x2,aJ)])++[aH])) (n:=(((aE++[(x3,x2,aJ)])++[aH]).length)) rfl)⟩,⟨(rfl:((aE++[(x3,x2,aJ)])++[aH]).length=((aE++[(x3,x2,aJ)])++[aH]).length)⟩,⟨(zle (((aE++[(x3,x2,aJ)])++[aH]).length))⟩,⟨(gQ aA (aE++[(x3,x2,aJ)]) [aH])⟩,⟨(eX ((aE++[(x3,x2,aJ)]).length))⟩,⟨(aG aA (aE++[(x3,x2,aJ)]))⟩,⟨cL9⟩,⟨(by simp only[wl,List.length_map,List.map_nil,List.map_cons]<;>omega:((aE++[(x3,x2,aJ)]).length)+(List.map aA [aH]).length=((aE++[(x3,x2,aJ)])++[aH]).length)⟩,⟨(aS aA (l:=[aH]) (n:=1) rfl)⟩,⟨(bB aA (Nat.le_refl 1):0+1≤(List.map aA [aH]).length)⟩,⟨(aI (e:=aA) eL3 3 0 3 (by decide))⟩,⟨cL2⟩,⟨(aG aA x1)⟩,⟨rT⟩,⟨(nT cL8)⟩,⟨(nT cL8)⟩,⟨(nT cL8)⟩,⟨(nT cL8)⟩,⟨(nT cL8)⟩,⟨(nT cL8)⟩,⟨(nT cL8)⟩,⟨(nT cL8)⟩,⟨(aI (e:=aA) eL3 3 0 1 (by decide))⟩,⟨cL2⟩,⟨(aG aA x1)⟩,⟨(gQ aA aE [(x3,x2,aJ)])⟩,⟨(eX aE.length)⟩,⟨(aG aA aE)⟩,⟨cL7⟩,⟨(by simp only[wl,List.length_map,List.map_nil,List.map_cons]<;>omega:aE.length+(List.map aA [(x3,x2,aJ)]).length=(aE++[(x3,x2,aJ)]).length)⟩,⟨(aS aA (l:=[(x3,x2,aJ)]) (n:=1) rfl)⟩,⟨(bB aA (Nat.le_refl 1):0+1≤(List.map aA [(x3,x2,aJ)]).length)⟩,⟨(nT cL6)⟩,⟨(nT cL1)⟩,⟨cL4⟩,⟨(nT cL1)⟩,⟨cL5⟩,⟨cL4⟩,⟨cL5⟩,⟨(aI (e:=aA) eL3 3 1 1 (by decide))⟩,⟨cL5⟩,⟨cL5⟩,⟨cL2⟩,⟨(aG aA x1)⟩,⟨cL5⟩,⟨cL5⟩,⟨cL5⟩,⟨cL5⟩,⟨cL4⟩,⟨cL4⟩,⟨(aI (e:=aA) eL3 3 0 1 (by decide))⟩,⟨cL4⟩,⟨cL4⟩,⟨cL2⟩,⟨(aG aA x1)⟩,⟨cL4⟩,⟨cL4⟩,⟨cL4⟩,⟨cL4⟩,⟨(nT cL1)⟩,⟨(nT cL1)⟩,⟨(aI (e:=aA) eL3 3 0 1 (by decide))⟩,⟨(nT cL1)⟩,⟨(nT cL1)⟩,⟨cL2⟩,⟨(aG aA x1)⟩,⟨(nT cL1)⟩,⟨(nT cL1)⟩,⟨(nT cL1)⟩,⟨(nT cL1)⟩,⟨cL0⟩,⟨(aG aA x1)⟩] (by kernel_rfl) (bZ x1 x2 x3 y k true (aO .i64 aV 1) ((aE++[(x3,x2,aJ)])++[aH]) aJ h)
          rw[if_neg cL9] at h;replace cL9:=eqf cL9
          cases h
        rw[if_neg cL7] at h;replace cL7:=eqf cL7
        cases h
      rw[if_neg cL5] at h;replace cL5:=eqf cL5
      by_cases cL6:eqI aH.1 x3=true
      · rw[if_pos cL6] at h
        by_cases cL7:eqI aH.2.1 x2=true
        · rw[if_pos cL7] at h
          exact LT.next aK (hs:=⟨[(0,[]),(1,[]),(2,[]),(11,[]),(12,[]),(13,[]),(14,[])],[⟨.tmp 11,[],none⟩,⟨.tmp 12,[],some 3⟩],false,[],[]⟩) (es:=none) [.n x1.length,dt,dt,dt,dt,dt,.n x1.length,dt,dt,.row [(.int .u8 aH.1)],dt,dt,df,df,df,df,.n x1.length,df,df,.row [(.int .u8 aH.1)],df,df,df,df,df,df,df,df,df,df,df,dt,df,dt,df,.n x1.length,.row [(.int .u8 aH.1)],df,df,df,.n x1.length,df,df,.row [(.int .i64 aH.2.1)],df,df,df,df,.n aE.length,.rows (List.map aA aE)] [⟨(bU aA (l:=aE) (n:=aE.length) rfl)⟩,⟨(rfl:aE.length=aE.length)⟩,⟨(zle aE.length)⟩,⟨(nF cL7)⟩,⟨(nF cL6)⟩,⟨(nF cL6)⟩,⟨(nF cL6)⟩,⟨(aI (e:=aA) eL3 3 1 1 (by decide))⟩,⟨(nF cL6)⟩,⟨(nF cL6)⟩,⟨cL2⟩,⟨(aG aA x1)⟩,⟨(nF cL6)⟩,⟨(nF cL6)⟩,⟨(nF cL6)⟩,⟨(aI (e:=aA) eL3 3 0 1 (by decide))⟩,⟨cL2⟩,⟨(aG aA x1)⟩,⟨rF⟩,⟨(nT cL1)⟩,⟨cL4⟩,⟨(nT cL1)⟩,⟨cL5⟩,⟨cL4⟩,⟨cL5⟩,⟨cL5⟩,⟨cL5⟩,⟨cL5⟩,⟨cL5⟩,⟨cL5⟩,⟨cL5⟩,⟨cL4⟩,⟨cL4⟩,⟨(aI (e:=aA) eL3 3 0 1 (by decide))⟩,⟨cL4⟩,⟨cL4⟩,⟨cL2⟩,⟨(aG aA x1)⟩,⟨cL4⟩,⟨cL4⟩,⟨cL4⟩,⟨cL4⟩,⟨(nT cL1)⟩,⟨(nT cL1)⟩,⟨(aI (e:=aA) eL3 3 0 1 (by decide))⟩,⟨(nT cL1)⟩,⟨(nT cL1)⟩,⟨cL2⟩,⟨(aG aA x1)⟩,⟨(nT cL1)⟩,⟨(nT cL1)⟩,⟨(nT cL1)⟩,⟨(nT cL1)⟩,⟨cL0⟩,⟨(aG aA x1)⟩] (by kernel_rfl) (bZ x1 x2 x3 y k bK (aO .i64 aV 1) aE aJ h)
        rw[if_neg cL7] at h;replace cL7:=eqf cL7
        by_cases cL8:bJ (((aE++[aH]).length)*24)=true
        · rw[if_pos cL8] at h
          exact LT.next aK (hs:=⟨[(0,[]),(1,[]),(2,[]),(11,[]),(12,[]),(13,[]),(14,[])],[⟨.tmp 11,[],none⟩,⟨.tmp 12,[],some 3⟩],false,[],[]⟩) (es:=none) [.n x1.length,dt,dt,dt,dt,dt,.n x1.length,dt,dt,.row [(.int .u8 aH.1)],dt,dt,df,df,df,df,.n x1.length,df,df,.row [(.int .u8 aH.1)],df,df,df,df,df,df,df,df,df,df,df,dt,df,dt,df,.n x1.length,.row [(.int .u8 aH.1)],df,df,df,.n x1.length,df,df,.row [(.int .i64 aH.2.1)],df,df,df,dt,.n x1.length,(aDA aH),.rows (List.map aA [aH]),.n ((aE++[aH]).length),.n aE.length,dt,(aA6 aH aE),.n ((aE++[aH]).length),(aA6 aH aE)] [⟨(bU aA (l:=(aE++[aH])) (n:=((aE++[aH]).length)) rfl)⟩,⟨(rfl:(aE++[aH]).length=(aE++[aH]).length)⟩,⟨(zle ((aE++[aH]).length))⟩,⟨(gQ aA aE [aH])⟩,⟨(eX aE.length)⟩,⟨(aG aA aE)⟩,⟨cL8⟩,⟨(by simp only[wl,List.length_map,List.map_nil,List.map_cons]<;>omega:aE.length+(List.map aA [aH]).length=(aE++[aH]).length)⟩,⟨(aS aA (l:=[aH]) (n:=1) rfl)⟩,⟨(bB aA (Nat.le_refl 1):0+1≤(List.map aA [aH]).length)⟩,⟨(aI (e:=aA) eL3 3 0 3 (by decide))⟩,⟨cL2⟩,⟨(aG aA x1)⟩,⟨(nT cL7)⟩,⟨(nF cL6)⟩,⟨(nF cL6)⟩,⟨(nF cL6)⟩,⟨(aI (e:=aA) eL3 3 1 1 (by decide))⟩,⟨(nF cL6)⟩,⟨(nF cL6)⟩,⟨cL2⟩,⟨(aG aA x1)⟩,⟨(nF cL6)⟩,⟨(nF cL6)⟩,⟨(nF cL6)⟩,⟨(aI (e:=aA) eL3 3 0 1 (by decide))⟩,⟨cL2⟩,⟨(aG aA x1)⟩,⟨rF⟩,⟨(nT cL1)⟩,⟨cL4⟩,⟨(nT cL1)⟩,⟨cL5⟩,⟨cL4⟩,⟨cL5⟩,⟨cL5⟩,⟨cL5⟩,⟨cL5⟩,⟨cL5⟩,⟨cL5⟩,⟨cL5⟩,⟨cL4⟩,⟨cL4⟩,⟨(aI (e:=aA) eL3 3 0 1 (by decide))⟩,⟨cL4⟩,⟨cL4⟩,⟨cL2⟩,⟨(aG aA x1)⟩,⟨cL4⟩,⟨cL4⟩,⟨cL4⟩,⟨cL4⟩,⟨(nT cL1)⟩,⟨(nT cL1)⟩,⟨(aI (e:=aA) eL3 3 0 1 (by decide))⟩,⟨(nT cL1)⟩,⟨(nT cL1)⟩,⟨cL2⟩,⟨(aG aA x1)⟩,⟨(nT cL1)⟩,⟨(nT cL1)⟩,⟨(nT cL1)⟩,⟨(nT cL1)⟩,⟨cL0⟩,⟨(aG aA x1)⟩] (by kernel_rfl) (bZ x1 x2 x3 y k bK (aO .i64 aV 1) (aE++[aH]) aJ h)
        rw[if_neg cL8] at h;replace cL8:=eqf cL8
        cases h
      rw[if_neg cL6] at h;replace cL6:=eqf cL6
      by_cases cL7:bJ (((aE++[aH]).length)*24)=true
      · rw[if_pos cL7] at h
        exact LT.next aK (hs:=⟨[(0,[]),(1,[]),(2,[]),(11,[]),(12,[]),(13,[]),(14,[])],[⟨.tmp 11,[],none⟩,⟨.tmp 12,[],some 3⟩],false,[],[]⟩) (es:=none) [.n x1.length,dt,dt,dt,dt,dt,.n x1.length,dt,dt,.row [(.int .u8 aH.1)],dt,dt,df,df,df,df,.n x1.length,df,df,.row [(.int .u8 aH.1)],df,df,df,df,df,df,df,df,df,df,df,dt,df,dt,df,.n x1.length,.row [(.int .u8 aH.1)],dt,dt,dt,dt,dt,dt,dt,dt,dt,.n x1.length,(aDA aH),.rows (List.map aA [aH]),.n ((aE++[aH]).length),.n aE.length,dt,(aA6 aH aE),.n ((aE++[aH]).length),(aA6 aH aE)] [⟨(bU aA (l:=(aE++[aH])) (n:=((aE++[aH]).length)) rfl)⟩,⟨(rfl:(aE++[aH]).length=(aE++[aH]).length)⟩,⟨(zle ((aE++[aH]).length))⟩,⟨(gQ aA aE [aH])⟩,⟨(eX aE.length)⟩,⟨(aG aA aE)⟩,⟨cL7⟩,⟨(by simp only[wl,List.length_map,List.map_nil,List.map_cons]<;>omega:aE.length+(List.map aA [aH]).length=(aE++[aH]).length)⟩,⟨(aS aA (l:=[aH]) (n:=1) rfl)⟩,⟨(bB aA (Nat.le_refl 1):0+1≤(List.map aA [aH]).length)⟩,⟨(aI (e:=aA) eL3 3 0 3 (by decide))⟩,⟨cL2⟩,⟨(aG aA x1)⟩,⟨rT⟩,⟨(nT cL6)⟩,⟨(nT cL6)⟩,⟨(nT cL6)⟩,⟨(nT cL6)⟩,⟨(nT cL6)⟩,⟨(nT cL6)⟩,⟨(nT cL6)⟩,⟨(nT cL6)⟩,⟨(aI (e:=aA) eL3 3 0 1 (by decide))⟩,⟨cL2⟩,⟨(aG aA x1)⟩,⟨rF⟩,⟨(nT cL1)⟩,⟨cL4⟩,⟨(nT cL1)⟩,⟨cL5⟩,⟨cL4⟩,⟨cL5⟩,⟨cL5⟩,⟨cL5⟩,⟨cL5⟩,⟨cL5⟩,⟨cL5⟩,⟨cL5⟩,⟨cL4⟩,⟨cL4⟩,⟨(aI (e:=aA) eL3 3 0 1 (by decide))⟩,⟨cL4⟩,⟨cL4⟩,⟨cL2⟩,⟨(aG aA x1)⟩,⟨cL4⟩,⟨cL4⟩,⟨cL4⟩,⟨cL4⟩,⟨(nT cL1)⟩,⟨(nT cL1)⟩,⟨(aI (e:=aA) eL3 3 0 1 (by decide))⟩,⟨(nT cL1)⟩,⟨(nT cL1)⟩,⟨cL2⟩,⟨(aG aA x1)⟩,⟨(nT cL1)⟩,⟨(nT cL1)⟩,⟨(nT cL1)⟩,⟨(nT cL1)⟩,⟨cL0⟩,⟨(aG aA x1)⟩] (by kernel_rfl) (bZ x1 x2 x3 y k bK (aO .i64 aV 1) (aE++[aH]) aJ h)
      rw[if_neg cL7] at h;replace cL7:=eqf cL7
      cases h
    rw[if_neg cL2] at h;replace cL2:=eqf cL2
    cases h
  rw[if_neg cL0] at h;replace cL0:=eqf cL0
  obtain rfl:=osi h
  show LT _ _ _ _ (.st (.exit 2) (aC3 x2 x3 bK aJ aE))
  exact LT.done aK (hs:=⟨[],[],false,[],[]⟩) (es:=(some ⟨[(11,[]),(12,[]),(13,[])],[⟨.tmp 11,[],none⟩,⟨.tmp 12,[],none⟩],false,[],[]⟩)) [.n x1.length,df] [⟨cL0⟩,⟨(aG aA x1)⟩] (by kernel_rfl) (fun s h=>by cases h)
theorem iS (x1:aN) (x2:Int) (x3:Int) (x4:Bool) (y:(Sum (Unit) (aN × Int))):∀(k:Nat) (cU:Int),fM k x1 x2 x3 x4 cU=some y→LT Try.prog X53 L53_0 (S53_0 x1 x2 x3 x4 cU) (O53_0 x1 x2 x3 x4 y)
 | 0,cU,h=>by cases h
 | k+1,cU,h=>by
  rw[fM] at h
  by_cases cL0:ltI cU (nI x1.length)=true
  · rw[if_pos cL0] at h
    by_cases cL1:inI cU x1.length=true
    · rw[if_pos cL1] at h
      obtain⟨hZ,eL2,h⟩:=bsm h
      by_cases cL3:eqI hZ.1 x3=true
      · rw[if_pos cL3] at h
        by_cases cL4:eqI hZ.2.1 x2=true
        · rw[if_pos cL4] at h
          exact LT.next aK (hs:=⟨[(0,[]),(1,[]),(2,[]),(3,[]),(10,[])],[],false,[],[]⟩) (es:=none) [.n x1.length,dt,.n x1.length,.row [(.int .u8 hZ.1)],dt,dt,dt,.n x1.length,dt,dt,.row [(.int .i64 hZ.2.1)],dt,dt,dt,df,df,df,df,df] [⟨rF⟩,⟨(nF cL4)⟩,⟨(nF cL4)⟩,⟨(nF cL4)⟩,⟨(nF cL4)⟩,⟨cL3⟩,⟨cL3⟩,⟨cL3⟩,⟨(aI (e:=aA) eL2 3 1 1 (by decide))⟩,⟨cL3⟩,⟨cL3⟩,⟨cL1⟩,⟨(aG aA x1)⟩,⟨cL3⟩,⟨cL3⟩,⟨cL3⟩,⟨(aI (e:=aA) eL2 3 0 1 (by decide))⟩,⟨cL1⟩,⟨(aG aA x1)⟩,⟨cL0⟩,⟨(aG aA x1)⟩] (by kernel_rfl) (iS x1 x2 x3 x4 y k (aO .i64 cU 1) h)
        rw[if_neg cL4] at h;replace cL4:=eqf cL4
        by_cases cL5:x4=true
        · rw[if_pos cL5] at h
          obtain rfl:=osi h
          show LT _ _ _ _ (.fin (.tup [(.sl 3 (List.map aA ((x1,9).1))),(.int .i64 ((x1,9).2))]) [])
          exact LT.done aK (hs:=⟨[],[],false,[],[]⟩) (es:=none) [.n x1.length,dt,.n x1.length,.row [(.int .u8 hZ.1)],dt,dt,dt,.n x1.length,dt,dt,.row [(.int .i64 hZ.2.1)],dt,dt,dt,dt,dt,dt,dt,dt,dt,dt,dt,dt,dt,dt] [⟨rT⟩,⟨(nT cL4)⟩,⟨cL5⟩,⟨(nT cL4)⟩,⟨cL5⟩,⟨cL5⟩,⟨cL5⟩,⟨cL5⟩,⟨cL5⟩,⟨(nT cL4)⟩,⟨(nT cL4)⟩,⟨cL3⟩,⟨cL3⟩,⟨cL3⟩,⟨(aI (e:=aA) eL2 3 1 1 (by decide))⟩,⟨cL3⟩,⟨cL3⟩,⟨cL1⟩,⟨(aG aA x1)⟩,⟨cL3⟩,⟨cL3⟩,⟨cL3⟩,⟨(aI (e:=aA) eL2 3 0 1 (by decide))⟩,⟨cL1⟩,⟨(aG aA x1)⟩,⟨cL0⟩,⟨(aG aA x1)⟩] (by kernel_rfl) (fun s h=>by cases h)
        rw[if_neg cL5] at h;replace cL5:=eqf cL5
        by_cases cL6:hZ.2.2=true
        · rw[if_pos cL6] at h
          obtain rfl:=osi h
          show LT _ _ _ _ (.fin (.tup [(.sl 3 (List.map aA ((x1,9).1))),(.int .i64 ((x1,9).2))]) [])
          exact LT.done aK (hs:=⟨[],[],false,[],[]⟩) (es:=none) [.n x1.length,dt,.n x1.length,.row [(.int .u8 hZ.1)],dt,dt,dt,.n x1.length,dt,dt,.row [(.int .i64 hZ.2.1)],dt,dt,dt,dt,dt,df,df,df,.n x1.length,df,df,.row [(.bool hZ.2.2)],dt,df,dt,dt] [⟨cL6⟩,⟨(nT cL4)⟩,⟨cL5⟩,⟨(nT cL4)⟩,⟨(aI (e:=aA) eL2 3 2 1 (by decide))⟩,⟨cL5⟩,⟨cL5⟩,⟨cL1⟩,⟨(aG aA x1)⟩,⟨cL5⟩,⟨cL5⟩,⟨cL5⟩,⟨(nT cL4)⟩,⟨(nT cL4)⟩,⟨cL3⟩,⟨cL3⟩,⟨cL3⟩,⟨(aI (e:=aA) eL2 3 1 1 (by decide))⟩,⟨cL3⟩,⟨cL3⟩,⟨cL1⟩,⟨(aG aA x1)⟩,⟨cL3⟩,⟨cL3⟩,⟨cL3⟩,⟨(aI (e:=aA) eL2 3 0 1 (by decide))⟩,⟨cL1⟩,⟨(aG aA x1)⟩,⟨cL0⟩,⟨(aG aA x1)⟩] (by kernel_rfl) (fun s h=>by cases h)
        rw[if_neg cL6] at h;replace cL6:=eqf cL6
        exact LT.next aK (hs:=⟨[(0,[]),(1,[]),(2,[]),(3,[]),(10,[])],[],false,[],[]⟩) (es:=none) [.n x1.length,dt,.n x1.length,.row [(.int .u8 hZ.1)],dt,dt,dt,.n x1.length,dt,dt,.row [(.int .i64 hZ.2.1)],dt,dt,dt,dt,dt,df,df,df,.n x1.length,df,df,.row [(.bool hZ.2.2)],dt,df,dt,df] [⟨cL6⟩,⟨(nT cL4)⟩,⟨cL5⟩,⟨(nT cL4)⟩,⟨(aI (e:=aA) eL2 3 2 1 (by decide))⟩,⟨cL5⟩,⟨cL5⟩,⟨cL1⟩,⟨(aG aA x1)⟩,⟨cL5⟩,⟨cL5⟩,⟨cL5⟩,⟨(nT cL4)⟩,⟨(nT cL4)⟩,⟨cL3⟩,⟨cL3⟩,⟨cL3⟩,⟨(aI (e:=aA) eL2 3 1 1 (by decide))⟩,⟨cL3⟩,⟨cL3⟩,⟨cL1⟩,⟨(aG aA x1)⟩,⟨cL3⟩,⟨cL3⟩,⟨cL3⟩,⟨(aI (e:=aA) eL2 3 0 1 (by decide))⟩,⟨cL1⟩,⟨(aG aA x1)⟩,⟨cL0⟩,⟨(aG aA x1)⟩] (by kernel_rfl) (iS x1 x2 x3 x4 y k (aO .i64 cU 1) h)
      rw[if_neg cL3] at h;replace cL3:=eqf cL3
      exact LT.next aK (hs:=⟨[(0,[]),(1,[]),(2,[]),(3,[]),(10,[])],[],false,[],[]⟩) (es:=none) [.n x1.length,dt,.n x1.length,.row [(.int .u8 hZ.1)],df,df,df,df,df,df,df,df,df,df,df,df,df] [⟨rF⟩,⟨rF⟩,⟨rF⟩,⟨rF⟩,⟨rF⟩,⟨cL3⟩,⟨cL3⟩,⟨cL3⟩,⟨cL3⟩,⟨cL3⟩,⟨cL3⟩,⟨cL3⟩,⟨cL3⟩,⟨(aI (e:=aA) eL2 3 0 1 (by decide))⟩,⟨cL1⟩,⟨(aG aA x1)⟩,⟨cL0⟩,⟨(aG aA x1)⟩] (by kernel_rfl) (iS x1 x2 x3 x4 y k (aO .i64 cU 1) h)
    rw[if_neg cL1] at h;replace cL1:=eqf cL1
    cases h
  rw[if_neg cL0] at h;replace cL0:=eqf cL0
  obtain rfl:=osi h
  show LT _ _ _ _ (.st (.exit 0) (aCZ x1 x2 x3 x4))
  exact LT.done aK (hs:=⟨[],[],false,[],[]⟩) (es:=(some ⟨[(0,[]),(1,[]),(2,[]),(3,[])],[],false,[],[]⟩)) [.n x1.length,df] [⟨cL0⟩,⟨(aG aA x1)⟩] (by kernel_rfl) (fun s h=>by cases h)
theorem uJ (k:Nat) (x1:aN) (x2:Int) (x3:Int) (x4:Bool) (r:aN × Int) (h:uC k x1 x2 x3 x4=some r):Tri Try.prog 53 [(.sl 3 (List.map aA x1)),(.int .i64 x2),(.int .u8 x3),(.bool x4)] [] (.tup [(.sl 3 (List.map aA r.1)),(.int .i64 r.2)]) []:=by
 unfold uC at h
 obtain⟨x5,e0,h⟩:=bsm h
 by_cases c1:x5=true
 · rw[if_pos c1] at h
   by_cases c2:(hS x2 x3)=true
   · rw[if_pos c2] at h
     obtain⟨x6,e3,h⟩:=bsm h
     cases x6 with
     | inl x7 =>
      simp only[Sum.elim_inl] at h
      by_cases c5:x4=true
      · rw[if_pos c5] at h
        obtain⟨x9,e6,h⟩:=bsm h
        by_cases c8:x9.1=true
        · rw[if_pos c8] at h
          obtain rfl:=osi h
          exact Tri.of (x:=X53) aK aAS [.call ⟨true,[]⟩ (.bool x5) [],df,df,df,(aKT x2 x3),df,df,df,aOT,.out (.st .normal (aCZ x1 x2 x3 x4)),dt,dt,dt,dt,dt,dt,A53_7,.n 0,.rows (List.map aA []),.out (.st .normal (aC3 x2 x3 x9.1 x9.2.1 x9.2.2)),df,.rows (List.map aA x9.2.2)] [⟨(aS aA (l:=x9.2.2) (n:=x9.2.2.length) rfl)⟩,⟨(bB aA (Nat.le_refl x9.2.2.length):0+x9.2.2.length≤(List.map aA x9.2.2).length)⟩,⟨(nF c8)⟩,⟨(LT.block (bZ x1 x2 x3 _ k false 0 [] true e6))⟩,⟨(bU aA (l:=[]) (n:=0) rfl)⟩,⟨(rfl:0=0)⟩,⟨(zle 0)⟩,⟨c5⟩,⟨c5⟩,⟨c5⟩,⟨c5⟩,⟨c5⟩,⟨c5⟩,⟨(LT.block (iS x1 x2 x3 x4 _ k 0 e3))⟩,⟨(nF c2)⟩,⟨(nF c1)⟩,⟨(nF c1)⟩,⟨(fT x2 x3)⟩,⟨(nF c1)⟩,⟨(nF c1)⟩,⟨(nF c1)⟩,⟨(lM k x1 _ e0)⟩] (by kernel_rfl)
        rw[if_neg c8] at h;replace c8:=eqf c8
        by_cases c9:bJ (((x9.2.2++[(x3,x2,x9.2.1)]).length)*24)=true
        · rw[if_pos c9] at h
          obtain rfl:=osi h
          exact Tri.of (x:=X53) aK aAS [.call ⟨true,[]⟩ (.bool x5) [],df,df,df,(aKT x2 x3),df,df,df,aOT,.out (.st .normal (aCZ x1 x2 x3 x4)),dt,dt,dt,dt,dt,dt,A53_7,.n 0,.rows (List.map aA []),.out (.st .normal (aC3 x2 x3 x9.1 x9.2.1 x9.2.2)),dt,.rows (List.map aA [(x3,x2,x9.2.1)]),.n ((x9.2.2++[(x3,x2,x9.2.1)]).length),.n x9.2.2.length,dt,.rows (List.map aA (x9.2.2++[(x3,x2,x9.2.1)])),.rows (List.map aA (x9.2.2++[(x3,x2,x9.2.1)]))] [⟨(aS aA (l:=(x9.2.2++[(x3,x2,x9.2.1)])) (n:=((x9.2.2++[(x3,x2,x9.2.1)]).length)) rfl)⟩,⟨(bB aA (Nat.le_refl ((x9.2.2++[(x3,x2,x9.2.1)]).length)):0+(x9.2.2++[(x3,x2,x9.2.1)]).length≤(List.map aA (x9.2.2++[(x3,x2,x9.2.1)])).length)⟩,⟨(gQ aA x9.2.2 [(x3,x2,x9.2.1)])⟩,⟨(eX x9.2.2.length)⟩,⟨(aG aA x9.2.2)⟩,⟨c9⟩,⟨(by simp only[wl,List.length_map,List.map_nil,List.map_cons]<;>omega:x9.2.2.length+(List.map aA [(x3,x2,x9.2.1)]).length=(x9.2.2++[(x3,x2,x9.2.1)]).length)⟩,⟨(aS aA (l:=[(x3,x2,x9.2.1)]) (n:=1) rfl)⟩,⟨(bB aA (Nat.le_refl 1):0+1≤(List.map aA [(x3,x2,x9.2.1)]).length)⟩,⟨(nT c8)⟩,⟨(LT.block (bZ x1 x2 x3 _ k false 0 [] true e6))⟩,⟨(bU aA (l:=[]) (n:=0) rfl)⟩,⟨(rfl:0=0)⟩,⟨(zle 0)⟩,⟨c5⟩,⟨c5⟩,⟨c5⟩,⟨c5⟩,⟨c5⟩,⟨c5⟩,⟨(LT.block (iS x1 x2 x3 x4 _ k 0 e3))⟩,⟨(nF c2)⟩,⟨(nF c1)⟩,⟨(nF c1)⟩,⟨(fT x2 x3)⟩,⟨(nF c1)⟩,⟨(nF c1)⟩,⟨(nF c1)⟩,⟨(lM k x1 _ e0)⟩] (by kernel_rfl)
        rw[if_neg c9] at h;replace c9:=eqf c9
        cases h
      rw[if_neg c5] at h;replace c5:=eqf c5
      obtain⟨x8,e6,h⟩:=bsm h
      obtain⟨x10,e7,h⟩:=bsm h
      by_cases c9:x10.1=true
      · rw[if_pos c9] at h
        obtain rfl:=osi h
        exact Tri.of (x:=X53) aK aAS [.call ⟨true,[]⟩ (.bool x5) [],df,df,df,(aKT x2 x3),df,df,df,aOT,.out (.st .normal (aCZ x1 x2 x3 x4)),df,df,df,df,.call ⟨true,[]⟩ (.int .i64 x8) [],df,df,A53_7,.n 0,.rows (List.map aA []),.out (.st .normal (aC3 x2 x3 x10.1 x10.2.1 x10.2.2)),df,.rows (List.map aA x10.2.2)] [⟨(aS aA (l:=x10.2.2) (n:=x10.2.2.length) rfl)⟩,⟨(bB aA (Nat.le_refl x10.2.2.length):0+x10.2.2.length≤(List.map aA x10.2.2).length)⟩,⟨(nF c9)⟩,⟨(LT.block (bZ x1 x2 x3 _ k false 0 [] (eqI x8 2) e7))⟩,⟨(bU aA (l:=[]) (n:=0) rfl)⟩,⟨(rfl:0=0)⟩,⟨(zle 0)⟩,⟨c5⟩,⟨c5⟩,⟨(aBT k x1 x2 x3 _ e6)⟩,⟨c5⟩,⟨c5⟩,⟨c5⟩,⟨c5⟩,⟨(LT.block (iS x1 x2 x3 x4 _ k 0 e3))⟩,⟨(nF c2)⟩,⟨(nF c1)⟩,⟨(nF c1)⟩,⟨(fT x2 x3)⟩,⟨(nF c1)⟩,⟨(nF c1)⟩,⟨(nF c1)⟩,⟨(lM k x1 _ e0)⟩] (by kernel_rfl)
      rw[if_neg c9] at h;replace c9:=eqf c9
      by_cases c10:bJ (((x10.2.2++[(x3,x2,x10.2.1)]).length)*24)=true
      · rw[if_pos c10] at h
        obtain rfl:=osi h
        exact Tri.of (x:=X53) aK aAS [.call ⟨true,[]⟩ (.bool x5) [],df,df,df,(aKT x2 x3),df,df,df,aOT,.out (.st .normal (aCZ x1 x2 x3 x4)),df,df,df,df,.call ⟨true,[]⟩ (.int .i64 x8) [],df,df,A53_7,.n 0,.rows (List.map aA []),.out (.st .normal (aC3 x2 x3 x10.1 x10.2.1 x10.2.2)),dt,.rows (List.map aA [(x3,x2,x10.2.1)]),.n ((x10.2.2++[(x3,x2,x10.2.1)]).length),.n x10.2.2.length,dt,.rows (List.map aA (x10.2.2++[(x3,x2,x10.2.1)])),.rows (List.map aA (x10.2.2++[(x3,x2,x10.2.1)]))] [⟨(aS aA (l:=(x10.2.2++[(x3,x2,x10.2.1)])) (n:=((x10.2.2++[(x3,x2,x10.2.1)]).length)) rfl)⟩,⟨(bB aA (Nat.le_refl ((x10.2.2++[(x3,x2,x10.2.1)]).length)):0+(x10.2.2++[(x3,x2,x10.2.1)]).length≤(List.map aA (x10.2.2++[(x3,x2,x10.2.1)])).length)⟩,⟨(gQ aA x10.2.2 [(x3,x2,x10.2.1)])⟩,⟨(eX x10.2.2.length)⟩,⟨(aG aA x10.2.2)⟩,⟨c10⟩,⟨(by simp only[wl,List.length_map,List.map_nil,List.map_cons]<;>omega:x10.2.2.length+(List.map aA [(x3,x2,x10.2.1)]).length=(x10.2.2++[(x3,x2,x10.2.1)]).length)⟩,⟨(aS aA (l:=[(x3,x2,x10.2.1)]) (n:=1) rfl)⟩,⟨(bB aA (Nat.le_refl 1):0+1≤(List.map aA [(x3,x2,x10.2.1)]).length)⟩,⟨(nT c9)⟩,⟨(LT.block (bZ x1 x2 x3 _ k false 0 [] (eqI x8 2) e7))⟩,⟨(bU aA (l:=[]) (n:=0) rfl)⟩,⟨(rfl:0=0)⟩,⟨(zle 0)⟩,⟨c5⟩,⟨c5⟩,⟨(aBT k x1 x2 x3 _ e6)⟩,⟨c5⟩,⟨c5⟩,⟨c5⟩,⟨c5⟩,⟨(LT.block (iS x1 x2 x3 x4 _ k 0 e3))⟩,⟨(nF c2)⟩,⟨(nF c1)⟩,⟨(nF c1)⟩,⟨(fT x2 x3)⟩,⟨(nF c1)⟩,⟨(nF c1)⟩,⟨(nF c1)⟩,⟨(lM k x1 _ e0)⟩] (by kernel_rfl)
      rw[if_neg c10] at h;replace c10:=eqf c10
      cases h
     | inr x7 =>
      simp only[Sum.elim_inr] at h
      obtain rfl:=osi h
      exact Tri.of (x:=X53) aK aAS [.call ⟨true,[]⟩ (.bool x5) [],df,df,df,(aKT x2 x3),df,df,df,aOT,.out (.fin (.tup [(.sl 3 (List.map aA x7.1)),(.int .i64 x7.2)]) [])] [⟨(LT.blockFin (id:=0) (iS x1 x2 x3 x4 _ k 0 e3))⟩,⟨(nF c2)⟩,⟨(nF c1)⟩,⟨(nF c1)⟩,⟨(fT x2 x3)⟩,⟨(nF c1)⟩,⟨(nF c1)⟩,⟨(nF c1)⟩,⟨(lM k x1 _ e0)⟩] (by kernel_rfl)
   rw[if_neg c2] at h;replace c2:=eqf c2
   obtain rfl:=osi h
   exact Tri.of (x:=X53) aK aAS [.call ⟨true,[]⟩ (.bool x5) [],df,df,df,(aKT x2 x3),df,df,dt] [⟨(nT c2)⟩,⟨(nF c1)⟩,⟨(nF c1)⟩,⟨(fT x2 x3)⟩,⟨(nF c1)⟩,⟨(nF c1)⟩,⟨(nF c1)⟩,⟨(lM k x1 _ e0)⟩] (by kernel_rfl)
 rw[if_neg c1] at h;replace c1:=eqf c1
 obtain rfl:=osi h
 exact Tri.of (x:=X53) aK aAS [.call ⟨true,[]⟩ (.bool x5) [],dt,dt,dt,dt,dt,dt] [⟨rT⟩,⟨(nT c1)⟩,⟨(nT c1)⟩,⟨(nT c1)⟩,⟨(nT c1)⟩,⟨(nT c1)⟩,⟨(lM k x1 _ e0)⟩] (by kernel_rfl)
end Go.Ws

namespace Go.Ws
open Go.Proofs
set_option linter.unusedSimpArgs false
set_option linter.unusedVariables false
set_option maxRecDepth 1000000
set_option maxHeartbeats 4000000
noncomputable def X80:Ctx:=⟨Try.f80,[],true⟩
noncomputable def L80_0:Code:=at_ Try.f80 [1,0,1,4,5]
def S80_0 (x1:Int) (x2:aL) (x3:Bool) (x4:Int) (dX:Int):St:=⟨mkT 58 [(1,(.hp 0 0)),(3,(.int .i64 dX))],[(.row [(.int .i64 x1),(.sl 2 (List.map aB x2)),(.bool x3),(.int .i64 x4)])]⟩
def aM9 (x1:Int) (x2:aL) (x3:Bool) (x4:Int):St:=⟨mkT 58 [(1,(.hp 0 0))],[(.row [(.int .i64 x1),(.sl 2 (List.map aB x2)),(.bool x3),(.int .i64 x4)])]⟩
def O80_0 (x1:Int) (x2:aL) (x3:Bool) (x4:Int) (y:lZ):GX:=match y with
 | .inl y=>.st (.exit 0) (aM9 x1 x2 x3 x4)
 | .inr y=>.fin (.bool y) []
def zK:Ans:=.norm 2 ⟨[(1,[]),(3,[])],[⟨.tmp 1,[],none⟩],false,[],[]⟩
def aA8 (x1:Int) (x2:aL) (x3:Bool) (x4:Int):Ans:=.out (.st .normal (aM9 x1 x2 x3 x4))
theorem cW (x1:Int) (x2:aL) (x3:Bool) (x4:Int) (y:lZ):∀(k:Nat) (dX:Int),fU k x1 x2 x3 x4 dX=some y→LT Try.prog X80 L80_0 (S80_0 x1 x2 x3 x4 dX) (O80_0 x1 x2 x3 x4 y)
 | 0,dX,h=>by cases h
 | k+1,dX,h=>by
  rw[fU] at h
  by_cases cL0:ltI dX (nI x2.length)=true
  · rw[if_pos cL0] at h
    by_cases cL1:inI dX x2.length=true
    · rw[if_pos cL1] at h
      obtain⟨xR,eL2,h⟩:=bsm h
      by_cases cL3:ltI xR.1 64=true
      · rw[if_pos cL3] at h
        exact LT.next aK (hs:=⟨[(1,[]),(3,[])],[⟨.tmp 1,[],none⟩],false,[],[]⟩) (es:=none) [.n x2.length,dt,.n x2.length,.row [(.int .u8 xR.1)],df] [⟨(nF cL3)⟩,⟨(aI (e:=aB) eL2 2 0 1 (by decide))⟩,⟨cL1⟩,⟨(aG aB x2)⟩,⟨cL0⟩,⟨(aG aB x2)⟩] (by kernel_rfl) (cW x1 x2 x3 x4 y k (aO .i64 dX 1) h)
      rw[if_neg cL3] at h;replace cL3:=eqf cL3
      obtain rfl:=osi h
      show LT _ _ _ _ (.fin (.bool false) [])
      exact LT.done aK (hs:=⟨[],[],false,[],[]⟩) (es:=none) [.n x2.length,dt,.n x2.length,.row [(.int .u8 xR.1)],dt] [⟨(nT cL3)⟩,⟨(aI (e:=aB) eL2 2 0 1 (by decide))⟩,⟨cL1⟩,⟨(aG aB x2)⟩,⟨cL0⟩,⟨(aG aB x2)⟩] (by kernel_rfl) (fun s h=>by cases h)
    rw[if_neg cL1] at h;replace cL1:=eqf cL1
    cases h
  rw[if_neg cL0] at h;replace cL0:=eqf cL0
  obtain rfl:=osi h
  show LT _ _ _ _ (.st (.exit 0) (aM9 x1 x2 x3 x4))
  exact LT.done aK (hs:=⟨[],[],false,[],[]⟩) (es:=(some ⟨[(1,[])],[⟨.tmp 1,[],none⟩],false,[],[]⟩)) [.n x2.length,df] [⟨cL0⟩,⟨(aG aB x2)⟩] (by kernel_rfl) (fun s h=>by cases h)
theorem bN (k:Nat) (x1:Int) (x2:aL) (x3:Bool) (x4:Int) (r:Bool) (h:mN k x1 x2 x3 x4=some r):Tri Try.prog 80 [(.agg [(.int .i64 x1),(.sl 2 (List.map aB x2)),(.bool x3),(.int .i64 x4)])] [] (.bool r) []:=by
 unfold mN at h
 obtain⟨x5,e0,h⟩:=bsm h
 cases x5 with
 | inl x6 =>
  simp only[Sum.elim_inl] at h
  by_cases c2:ltI x1 0=true
  · rw[if_pos c2] at h
    obtain rfl:=osi h
    exact Tri.of (x:=X80) aK p6 [zK,(aA8 x1 x2 x3 x4),dt,dt,dt,dt,dt,dt,dt,dt,dt,dt] [⟨rT⟩,⟨rT⟩,⟨rT⟩,⟨rT⟩,⟨rT⟩,⟨rT⟩,⟨c2⟩,⟨c2⟩,⟨c2⟩,⟨c2⟩,⟨(LT.block (cW x1 x2 x3 x4 _ k 0 e0))⟩] (by kernel_rfl)
  rw[if_neg c2] at h;replace c2:=eqf c2
  by_cases c3:ltI 3 x1=true
  · rw[if_pos c3] at h
    obtain rfl:=osi h
    exact Tri.of (x:=X80) aK p6 [zK,(aA8 x1 x2 x3 x4),df,df,df,df,dt,dt,dt,dt,dt,dt] [⟨rT⟩,⟨c3⟩,⟨c3⟩,⟨c3⟩,⟨c3⟩,⟨c3⟩,⟨c2⟩,⟨c2⟩,⟨c2⟩,⟨c2⟩,⟨(LT.block (cW x1 x2 x3 x4 _ k 0 e0))⟩] (by kernel_rfl)
  rw[if_neg c3] at h;replace c3:=eqf c3
  by_cases c4:ltI 50 (nI x2.length)=true
  · rw[if_pos c4] at h
    obtain rfl:=osi h
    exact Tri.of (x:=X80) aK p6 [zK,(aA8 x1 x2 x3 x4),df,df,df,df,df,df,df,.n x2.length,df,df,dt] [⟨c4⟩,⟨c3⟩,⟨c3⟩,⟨(aG aB x2)⟩,⟨c3⟩,⟨c3⟩,⟨c3⟩,⟨c2⟩,⟨c2⟩,⟨c2⟩,⟨c2⟩,⟨(LT.block (cW x1 x2 x3 x4 _ k 0 e0))⟩] (by kernel_rfl)
  rw[if_neg c4] at h;replace c4:=eqf c4
  by_cases c5:x3=true
  · rw[if_pos c5] at h
    by_cases c6:eqI x1 1=true
    · rw[if_pos c6] at h
      by_cases c7:eqI x1 3=true
      · rw[if_pos c7] at h
        by_cases c8:eqI x4 1=true
        · rw[if_pos c8] at h
          obtain rfl:=osi h
          exact Tri.of (x:=X80) aK p6 [zK,(aA8 x1 x2 x3 x4),df,df,df,df,df,df,df,.n x2.length,df,df,df,dt,dt,dt,dt,df,df,df,df,df,dt,dt,dt,dt,dt] [⟨c8⟩,⟨c8⟩,⟨c8⟩,⟨c8⟩,⟨c7⟩,⟨rF⟩,⟨(nF c6)⟩,⟨(nF c6)⟩,⟨(nF c6)⟩,⟨(nF c6)⟩,⟨c5⟩,⟨c5⟩,⟨c5⟩,⟨c5⟩,⟨c4⟩,⟨c3⟩,⟨c3⟩,⟨(aG aB x2)⟩,⟨c3⟩,⟨c3⟩,⟨c3⟩,⟨c2⟩,⟨c2⟩,⟨c2⟩,⟨c2⟩,⟨(LT.block (cW x1 x2 x3 x4 _ k 0 e0))⟩] (by kernel_rfl)
        rw[if_neg c8] at h;replace c8:=eqf c8
        obtain rfl:=osi h
        exact Tri.of (x:=X80) aK p6 [zK,(aA8 x1 x2 x3 x4),df,df,df,df,df,df,df,.n x2.length,df,df,df,dt,dt,dt,dt,df,df,df,df,df,dt,df,df,df,df] [⟨c8⟩,⟨c8⟩,⟨c8⟩,⟨c8⟩,⟨c7⟩,⟨rF⟩,⟨(nF c6)⟩,⟨(nF c6)⟩,⟨(nF c6)⟩,⟨(nF c6)⟩,⟨c5⟩,⟨c5⟩,⟨c5⟩,⟨c5⟩,⟨c4⟩,⟨c3⟩,⟨c3⟩,⟨(aG aB x2)⟩,⟨c3⟩,⟨c3⟩,⟨c3⟩,⟨c2⟩,⟨c2⟩,⟨c2⟩,⟨c2⟩,⟨(LT.block (cW x1 x2 x3 x4 _ k 0 e0))⟩] (by kernel_rfl)
      rw[if_neg c7] at h;replace c7:=eqf c7
      obtain rfl:=osi h
      exact Tri.of (x:=X80) aK p6 [zK,(aA8 x1 x2 x3 x4),df,df,df,df,df,df,df,.n x2.length,df,df,df,dt,dt,dt,dt,df,df,df,df,df,df] [⟨c7⟩,⟨rF⟩,⟨(nF c6)⟩,⟨(nF c6)⟩,⟨(nF c6)⟩,⟨(nF c6)⟩,⟨c5⟩,⟨c5⟩,⟨c5⟩,⟨c5⟩,⟨c4⟩,⟨c3⟩,⟨c3⟩,⟨(aG aB x2)⟩,⟨c3⟩,⟨c3⟩,⟨c3⟩,⟨c2⟩,⟨c2⟩,⟨c2⟩,⟨c2⟩,⟨(LT.block (cW x1 x2 x3 x4 _ k 0 e0))⟩] (by kernel_rfl)
    rw[if_neg c6] at h;replace c6:=eqf c6
    by_cases c7:eqI x1 3=true
    · rw[if_pos c7] at h
      by_cases c8:eqI x4 1=true
      · rw[if_pos c8] at h
        obtain rfl:=osi h
        exact Tri.of (x:=X80) aK p6 [zK,(aA8 x1 x2 x3 x4),df,df,df,df,df,df,df,.n x2.length,df,df,df,dt,dt,dt,dt,dt,dt,dt,dt,df,dt,dt,dt,dt,dt] [⟨c8⟩,⟨c8⟩,⟨c8⟩,⟨c8⟩,⟨c7⟩,⟨(nF c7)⟩,⟨(nT c6)⟩,⟨(nT c6)⟩,⟨(nT c6)⟩,⟨(nT c6)⟩,⟨c5⟩,⟨c5⟩,⟨c5⟩,⟨c5⟩,⟨c4⟩,⟨c3⟩,⟨c3⟩,⟨(aG aB x2)⟩,⟨c3⟩,⟨c3⟩,⟨c3⟩,⟨c2⟩,⟨c2⟩,⟨c2⟩,⟨c2⟩,⟨(LT.block (cW x1 x2 x3 x4 _ k 0 e0))⟩] (by kernel_rfl)
      rw[if_neg c8] at h;replace c8:=eqf c8
      obtain rfl:=osi h
      exact Tri.of (x:=X80) aK p6 [zK,(aA8 x1 x2 x3 x4),df,df,df,df,df,df,df,.n x2.length,df,df,df,dt,dt,dt,dt,dt,dt,dt,dt,df,dt,df,df,df,df] [⟨c8⟩,⟨c8⟩,⟨c8⟩,⟨c8⟩,⟨c7⟩,⟨(nF c7)⟩,⟨(nT c6)⟩,⟨(nT c6)⟩,⟨(nT c6)⟩,⟨(nT c6)⟩,⟨c5⟩,⟨c5⟩,⟨c5⟩,⟨c5⟩,⟨c4⟩,⟨c3⟩,⟨c3⟩,⟨(aG aB x2)⟩,⟨c3⟩,⟨c3⟩,⟨c3⟩,⟨c2⟩,⟨c2⟩,⟨c2⟩,⟨c2⟩,⟨(LT.block (cW x1 x2 x3 x4 _ k 0 e0))⟩] (by kernel_rfl)
    rw[if_neg c7] at h;replace c7:=eqf c7
    obtain rfl:=osi h
    exact Tri.of (x:=X80) aK p6 [zK,(aA8 x1 x2 x3 x4),df,df,df,df,df,df,df,.n x2.length,df,df,df,dt,dt,dt,dt,dt,dt,dt,dt,dt] [⟨(nT c7)⟩,⟨(nT c6)⟩,⟨(nT c6)⟩,⟨(nT c6)⟩,⟨(nT c6)⟩,⟨c5⟩,⟨c5⟩,⟨c5⟩,⟨c5⟩,⟨c4⟩,⟨c3⟩,⟨c3⟩,⟨(aG aB x2)⟩,⟨c3⟩,⟨c3⟩,⟨c3⟩,⟨c2⟩,⟨c2⟩,⟨c2⟩,⟨c2⟩,⟨(LT.block (cW x1 x2 x3 x4 _ k 0 e0))⟩] (by kernel_rfl)
  rw[if_neg c5] at h;replace c5:=eqf c5
  by_cases c6:eqI x1 3=true
  · rw[if_pos c6] at h
    by_cases c7:eqI x4 1=true
    · rw[if_pos c7] at h
      obtain rfl:=osi h
      exact Tri.of (x:=X80) aK p6 [zK,(aA8 x1 x2 x3 x4),df,df,df,df,df,df,df,.n x2.length,df,df,df,df,df,df,df,df,df,df,df,df,dt,dt,dt,dt,dt] [⟨c7⟩,⟨c7⟩,⟨c7⟩,⟨c7⟩,⟨c6⟩,⟨rF⟩,⟨rF⟩,⟨rF⟩,⟨rF⟩,⟨rF⟩,⟨c5⟩,⟨c5⟩,⟨c5⟩,⟨c5⟩,⟨c4⟩,⟨c3⟩,⟨c3⟩,⟨(aG aB x2)⟩,⟨c3⟩,⟨c3⟩,⟨c3⟩,⟨c2⟩,⟨c2⟩,⟨c2⟩,⟨c2⟩,⟨(LT.block (cW x1 x2 x3 x4 _ k 0 e0))⟩] (by kernel_rfl)
    rw[if_neg c7] at h;replace c7:=eqf c7
    obtain rfl:=osi h
    exact Tri.of (x:=X80) aK p6 [zK,(aA8 x1 x2 x3 x4),df,df,df,df,df,df,df,.n x2.length,df,df,df,df,df,df,df,df,df,df,df,df,dt,df,df,df,df] [⟨c7⟩,⟨c7⟩,⟨c7⟩,⟨c7⟩,⟨c6⟩,⟨rF⟩,⟨rF⟩,⟨rF⟩,⟨rF⟩,⟨rF⟩,⟨c5⟩,⟨c5⟩,⟨c5⟩,⟨c5⟩,⟨c4⟩,⟨c3⟩,⟨c3⟩,⟨(aG aB x2)⟩,⟨c3⟩,⟨c3⟩,⟨c3⟩,⟨c2⟩,⟨c2⟩,⟨c2⟩,⟨c2⟩,⟨(LT.block (cW x1 x2 x3 x4 _ k 0 e0))⟩] (by kernel_rfl)
  rw[if_neg c6] at h;replace c6:=eqf c6
  obtain rfl:=osi h
  exact Tri.of (x:=X80) aK p6 [zK,(aA8 x1 x2 x3 x4),df,df,df,df,df,df,df,.n x2.length,df,df,df,df,df,df,df,df,df,df,df,df,df] [⟨c6⟩,⟨rF⟩,⟨rF⟩,⟨rF⟩,⟨rF⟩,⟨rF⟩,⟨c5⟩,⟨c5⟩,⟨c5⟩,⟨c5⟩,⟨c4⟩,⟨c3⟩,⟨c3⟩,⟨(aG aB x2)⟩,⟨c3⟩,⟨c3⟩,⟨c3⟩,⟨c2⟩,⟨c2⟩,⟨c2⟩,⟨c2⟩,⟨(LT.block (cW x1 x2 x3 x4 _ k 0 e0))⟩] (by kernel_rfl)
 | inr x6 =>
  simp only[Sum.elim_inr] at h
  obtain rfl:=osi h
  exact Tri.of (x:=X80) aK p6 [zK,.out (.fin (.bool x6) [])] [⟨(LT.blockFin (id:=0) (cW x1 x2 x3 x4 _ k 0 e0))⟩] (by kernel_rfl)
end Go.Ws
