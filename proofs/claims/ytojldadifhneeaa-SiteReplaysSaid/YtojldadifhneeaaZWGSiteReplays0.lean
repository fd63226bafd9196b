/-
  Walks, merged.
  Conditions: none.
-/
import Derived.Test.YtojldadifhneeaaZPre
import Derived.Test.YtojldadifhneeaaZPure
import Derived.Test.YtojldadifhneeaaZIns67
import Derived.Test.YtojldadifhneeaaZDel74
import Derived.Test.YtojldadifhneeaaZIns73
import Derived.Test.YtojldadifhneeaaZOppI
set_option linter.unusedVariables false
set_option linter.unusedSimpArgs false
namespace Go.Ws
open Go.Proofs
set_option linter.unusedSimpArgs false
set_option linter.unusedVariables false
set_option maxRecDepth 1000000
set_option maxHeartbeats 4000000
noncomputable def X62_1001:Ctx:=⟨Try.f62,[],false⟩
theorem aB6 (k:Nat) (x1:aN) (r:Unit) (h:kM k x1=some r):Tri Try.prog 62 [(.inl 3 (List.map aA x1))] [] (.ref 3 0 0 0 x1.length .virt) [(.arr 3 (List.map aA x1) 0 0 false)]:=by
 unfold kM at h
 by_cases c0:bB (x1.length*24)=true
 · rw[if_pos c0] at h
   obtain rfl:=osi h
   exact Tri.of (x:=X62_1001) aK aSQ [df,.n x1.length,.norm 0 ⟨[(2,[])],[⟨.tmp 2,[],some 3⟩],false,[],[]⟩,.n x1.length,.rows (List.map aA x1)] [⟨(bL aA (l:=x1) (n:=x1.length) rfl)⟩,⟨(rfl:x1.length=x1.length)⟩,⟨(zle x1.length)⟩,⟨c0⟩,⟨(aG aA x1)⟩,⟨rF⟩] (by kernel_rfl)
 rw[if_neg c0] at h;replace c0:=eqf c0
 cases h
end Go.Ws

namespace Go.Ws
open Go.Proofs
set_option linter.unusedSimpArgs false
set_option linter.unusedVariables false
set_option maxRecDepth 1000000
set_option maxHeartbeats 4000000
noncomputable def X62_1002:Ctx:=⟨Try.f62,[],false⟩
theorem aCK:Tri Try.prog 62 [.nils] [] (.ref 3 0 0 0 0 .virt) [(.arr 3 (List.map aA []) 0 0 false)]:=by
 obtain⟨r,h⟩:∃r,tZ=r:=⟨_,rfl⟩
 try rw[h]
 unfold tZ at h
 obtain rfl:=h
 exact Tri.of (x:=X62_1002) aK aSQ [dt,.norm 0 ⟨[(2,[])],[⟨.tmp 2,[],some 3⟩],false,[],[]⟩,.n 0,.rows (List.map aA [])] [⟨(bL aA (l:=[]) (n:=0) rfl)⟩,⟨(rfl:0=0)⟩,⟨(zle 0)⟩,⟨rT⟩] (by kernel_rfl)
end Go.Ws

namespace Go.Ws
open Go.Proofs
set_option linter.unusedSimpArgs false
set_option linter.unusedVariables false
set_option maxRecDepth 1000000
set_option maxHeartbeats 4000000
theorem kY (k:Nat) (x1:aN) (r:Unit) (h:qM k x1=some r):Tri Try.prog 62 [(.sl 3 (List.map aA x1))] [] (.ref 3 0 0 0 x1.length .virt) [(.arr 3 (List.map aA x1) 0 0 false)]:=by
 refine Tri.slOf (aB6 k x1 r h) fun h0=>?_
 have hx:x1=[]:=by simpa using h0
 subst hx
 exact aCK
end Go.Ws

namespace Go.Ws
open Go.Proofs
set_option linter.unusedSimpArgs false
set_option linter.unusedVariables false
set_option maxRecDepth 1000000
set_option maxHeartbeats 4000000
noncomputable def X64:Ctx:=⟨Try.f64,[],true⟩
theorem jZ (x1:Int) (x2:Int):Tri Try.prog 64 [(.int .i64 x1),(.int .u8 x2)] [] (.bool (jM x1 x2)) []:=by
 obtain⟨r,h⟩:∃r,jM x1 x2=r:=⟨_,rfl⟩
 try rw[h]
 unfold jM at h
 by_cases c0:ltI x2 64=true
 · rw[if_pos c0] at h
   by_cases c1:ltI x1 0=true
   · rw[if_pos c1] at h
     obtain rfl:=h
     exact Tri.of (x:=X64) aK aOF [dt,dt,dt,df,df,df] [⟨(nF c1)⟩,⟨(nF c1)⟩,⟨(nF c1)⟩,⟨c0⟩,⟨c0⟩,⟨c0⟩] (by kernel_rfl)
   rw[if_neg c1] at h;replace c1:=eqf c1
   obtain rfl:=h
   exact Tri.of (x:=X64) aK aOF [dt,dt,dt,dt,dt,dt] [⟨(nT c1)⟩,⟨(nT c1)⟩,⟨(nT c1)⟩,⟨c0⟩,⟨c0⟩,⟨c0⟩] (by kernel_rfl)
 rw[if_neg c0] at h;replace c0:=eqf c0
 obtain rfl:=h
 exact Tri.of (x:=X64) aK aOF [df,df,df,df,df,df] [⟨rF⟩,⟨rF⟩,⟨rF⟩,⟨c0⟩,⟨c0⟩,⟨c0⟩] (by kernel_rfl)
end Go.Ws

namespace Go.Ws
open Go.Proofs
set_option linter.unusedSimpArgs false
set_option linter.unusedVariables false
set_option maxRecDepth 1000000
set_option maxHeartbeats 4000000
noncomputable def X95:Ctx:=⟨Try.f95,[],true⟩
theorem iT (x1:Int):Tri Try.prog 95 [(.int .u8 x1)] [] (.bool (jT x1)) []:=by
 obtain⟨r,h⟩:∃r,jT x1=r:=⟨_,rfl⟩
 try rw[h]
 unfold jT at h
 obtain rfl:=h
 exact Tri.of (x:=X95) aK facts95 [] [] (by kernel_rfl)
end Go.Ws

namespace Go.Ws
open Go.Proofs
set_option linter.unusedSimpArgs false
set_option linter.unusedVariables false
set_option maxRecDepth 1000000
set_option maxHeartbeats 4000000
noncomputable def X85:Ctx:=⟨Try.f85,[],true⟩
def aL4 (x1:Int):Ans:=.call ⟨true,[]⟩ (.bool (jT x1)) []
def aLE (x2:Int):Ans:=.call ⟨true,[]⟩ (.bool (jT x2)) []
theorem aB1 (x1:Int) (x2:Int):Tri Try.prog 85 [(.int .u8 x1),(.int .u8 x2)] [] (.int .i64 (bM x1 x2)) []:=by
 obtain⟨r,h⟩:∃r,bM x1 x2=r:=⟨_,rfl⟩
 try rw[h]
 unfold bM at h
 by_cases c0:(jT x1)=true
 · rw[if_pos c0] at h
   by_cases c1:(jT x2)=true
   · rw[if_pos c1] at h
     obtain rfl:=h
     exact Tri.of (x:=X85) aK aDI [(aL4 x1),(aLE x2),dt,dt] [⟨c1⟩,⟨c0⟩,⟨(iT x2)⟩,⟨(iT x1)⟩] (by kernel_rfl)
   rw[if_neg c1] at h;replace c1:=eqf c1
   obtain rfl:=h
   exact Tri.of (x:=X85) aK aDI [(aL4 x1),(aLE x2),dt,df] [⟨c1⟩,⟨c0⟩,⟨(iT x2)⟩,⟨(iT x1)⟩] (by kernel_rfl)
 rw[if_neg c0] at h;replace c0:=eqf c0
 by_cases c1:(jT x2)=true
 · rw[if_pos c1] at h
   obtain rfl:=h
   exact Tri.of (x:=X85) aK aDI [(aL4 x1),(aLE x2),df,dt] [⟨c1⟩,⟨c0⟩,⟨(iT x2)⟩,⟨(iT x1)⟩] (by kernel_rfl)
 rw[if_neg c1] at h;replace c1:=eqf c1
 by_cases c2:ltI x1 x2=true
 · rw[if_pos c2] at h
   obtain rfl:=h
   exact Tri.of (x:=X85) aK aDI [(aL4 x1),(aLE x2),df,df,dt] [⟨c2⟩,⟨c1⟩,⟨c0⟩,⟨(iT x2)⟩,⟨(iT x1)⟩] (by kernel_rfl)
 rw[if_neg c2] at h;replace c2:=eqf c2
 by_cases c3:ltI x2 x1=true
 · rw[if_pos c3] at h
   obtain rfl:=h
   exact Tri.of (x:=X85) aK aDI [(aL4 x1),(aLE x2),df,df,df,dt] [⟨c3⟩,⟨c2⟩,⟨c1⟩,⟨c0⟩,⟨(iT x2)⟩,⟨(iT x1)⟩] (by kernel_rfl)
 rw[if_neg c3] at h;replace c3:=eqf c3
 obtain rfl:=h
 exact Tri.of (x:=X85) aK aDI [(aL4 x1),(aLE x2),df,df,df,df] [⟨c3⟩,⟨c2⟩,⟨c1⟩,⟨c0⟩,⟨(iT x2)⟩,⟨(iT x1)⟩] (by kernel_rfl)
end Go.Ws

namespace Go.Ws
open Go.Proofs
set_option linter.unusedSimpArgs false
set_option linter.unusedVariables false
set_option maxRecDepth 1000000
set_option maxHeartbeats 4000000
noncomputable def X96:Ctx:=⟨Try.f96,[],true⟩
theorem fP (x1:Int):Tri Try.prog 96 [(.int .i64 x1)] [] (.bool (gW x1)) []:=by
 obtain⟨r,h⟩:∃r,gW x1=r:=⟨_,rfl⟩
 try rw[h]
 unfold gW at h
 obtain rfl:=h
 exact Tri.of (x:=X96) aK facts96 [] [] (by kernel_rfl)
end Go.Ws

namespace Go.Ws
open Go.Proofs
set_option linter.unusedSimpArgs false
set_option linter.unusedVariables false
set_option maxRecDepth 1000000
set_option maxHeartbeats 4000000
noncomputable def X86:Ctx:=⟨Try.f86,[],true⟩
def aLS (x1:Int):Ans:=.call ⟨true,[]⟩ (.bool (gW x1)) []
def aK9 (x2:Int):Ans:=.call ⟨true,[]⟩ (.bool (gW x2)) []
theorem aGK (x1:Int) (x2:Int):Tri Try.prog 86 [(.int .i64 x1),(.int .i64 x2)] [] (.int .i64 (eL x1 x2)) []:=by
 obtain⟨r,h⟩:∃r,eL x1 x2=r:=⟨_,rfl⟩
 try rw[h]
 unfold eL at h
 by_cases c0:(gW x1)=true
 · rw[if_pos c0] at h
   by_cases c1:(gW x2)=true
   · rw[if_pos c1] at h
     obtain rfl:=h
     exact Tri.of (x:=X86) aK aCV [(aLS x1),(aK9 x2),dt,dt] [⟨c1⟩,⟨c0⟩,⟨(fP x2)⟩,⟨(fP x1)⟩] (by kernel_rfl)
   rw[if_neg c1] at h;replace c1:=eqf c1
   obtain rfl:=h
   exact Tri.of (x:=X86) aK aCV [(aLS x1),(aK9 x2),dt,df] [⟨c1⟩,⟨c0⟩,⟨(fP x2)⟩,⟨(fP x1)⟩] (by kernel_rfl)
 rw[if_neg c0] at h;replace c0:=eqf c0
 by_cases c1:(gW x2)=true
 · rw[if_pos c1] at h
   obtain rfl:=h
   exact Tri.of (x:=X86) aK aCV [(aLS x1),(aK9 x2),df,dt] [⟨c1⟩,⟨c0⟩,⟨(fP x2)⟩,⟨(fP x1)⟩] (by kernel_rfl)
 rw[if_neg c1] at h;replace c1:=eqf c1
 by_cases c2:ltI x1 x2=true
 · rw[if_pos c2] at h
   obtain rfl:=h
   exact Tri.of (x:=X86) aK aCV [(aLS x1),(aK9 x2),df,df,dt] [⟨c2⟩,⟨c1⟩,⟨c0⟩,⟨(fP x2)⟩,⟨(fP x1)⟩] (by kernel_rfl)
 rw[if_neg c2] at h;replace c2:=eqf c2
 by_cases c3:ltI x2 x1=true
 · rw[if_pos c3] at h
   obtain rfl:=h
   exact Tri.of (x:=X86) aK aCV [(aLS x1),(aK9 x2),df,df,df,dt] [⟨c3⟩,⟨c2⟩,⟨c1⟩,⟨c0⟩,⟨(fP x2)⟩,⟨(fP x1)⟩] (by kernel_rfl)
 rw[if_neg c3] at h;replace c3:=eqf c3
 obtain rfl:=h
 exact Tri.of (x:=X86) aK aCV [(aLS x1),(aK9 x2),df,df,df,df] [⟨c3⟩,⟨c2⟩,⟨c1⟩,⟨c0⟩,⟨(fP x2)⟩,⟨(fP x1)⟩] (by kernel_rfl)
end Go.Ws

namespace Go.Ws
open Go.Proofs
set_option linter.unusedSimpArgs false
set_option linter.unusedVariables false
set_option maxRecDepth 1000000
set_option maxHeartbeats 4000000
noncomputable def X84:Ctx:=⟨Try.f84,[],true⟩
noncomputable def L84_0:Code:=at_ Try.f84 [1,1,0,1,4,5]
def S84_0 (x1:List Int) (d5:Int):St:=⟨mkT 18 [(3,(.int .i64 0)),(6,(.sl 1 (List.map sU x1))),(7,(.int .i64 (nI x1.length))),(8,(.int .i64 d5))],[]⟩
def aOB:St:=⟨mkT 18 [(3,(.int .i64 0))],[]⟩
def O84_0 (x1:List Int) (y:(Sum (Unit) (Int))):GX:=match y with
 | .inl y=>.st (.exit 0) (aOB)
 | .inr y=>.fin (.int .i64 y) []
theorem aAR (x1:List Int) (y:(Sum (Unit) (Int))):∀(k:Nat) (d5:Int),mO k x1 d5=some y→LT Try.prog X84 L84_0 (S84_0 x1 d5) (O84_0 x1 y)
 | 0,d5,h=>by cases h
 | k+1,d5,h=>by
  rw[mO] at h
  by_cases cL0:ltI d5 (nI x1.length)=true
  · rw[if_pos cL0] at h
    by_cases cL1:inI d5 x1.length=true
    · rw[if_pos cL1] at h
      obtain⟨rQ,eL2,h⟩:=bsm h
      by_cases cL3:eqI rQ 0=true
      · rw[if_pos cL3] at h
        exact LT.next aK (hs:=⟨[(3,[]),(6,[]),(7,[]),(8,[])],[],false,[],[]⟩) (es:=none) [dt,.n x1.length,.row [(.int .i64 rQ)],df] [⟨(nF cL3)⟩,⟨(aI (e:=sU) eL2 1 0 1 (by decide))⟩,⟨cL1⟩,⟨(aG sU x1)⟩,⟨cL0⟩] (by kernel_rfl) (aAR x1 y k (aO .i64 d5 1) h)
      rw[if_neg cL3] at h;replace cL3:=eqf cL3
      obtain rfl:=osi h
      show LT _ _ _ _ (.fin (.int .i64 rQ) [])
      exact LT.done aK (hs:=⟨[],[],false,[],[]⟩) (es:=none) [dt,.n x1.length,.row [(.int .i64 rQ)],dt] [⟨(nT cL3)⟩,⟨(aI (e:=sU) eL2 1 0 1 (by decide))⟩,⟨cL1⟩,⟨(aG sU x1)⟩,⟨cL0⟩] (by kernel_rfl) (fun s h=>by cases h)
    rw[if_neg cL1] at h;replace cL1:=eqf cL1
    cases h
  rw[if_neg cL0] at h;replace cL0:=eqf cL0
  obtain rfl:=osi h
  show LT _ _ _ _ (.st (.exit 0) (aOB))
  exact LT.done aK (hs:=⟨[],[],false,[],[]⟩) (es:=(some ⟨[(3,[])],[],false,[],[]⟩)) [df] [⟨cL0⟩] (by kernel_rfl) (fun s h=>by cases h)
theorem aT6 (k:Nat) (x1:List Int) (r:Int) (h:aGS k x1=some r):Tri Try.prog 84 [(.sl 1 (List.map sU x1))] [] (.int .i64 r) []:=by
 unfold aGS at h
 obtain⟨x2,e0,h⟩:=bsm h
 cases x2 with
 | inl x3 =>
  simp only[Sum.elim_inl] at h
  obtain rfl:=osi h
  exact Tri.of (x:=X84) aK aRU [.n x1.length,.norm 2 ⟨[(3,[]),(6,[]),(7,[]),(8,[])],[],false,[],[]⟩,.out (.st .normal (aOB))] [⟨(LT.block (aAR x1 _ k 0 e0))⟩,⟨(aG sU x1)⟩] (by kernel_rfl)
 | inr x3 =>
  simp only[Sum.elim_inr] at h
  obtain rfl:=osi h
  exact Tri.of (x:=X84) aK aRU [.n x1.length,.norm 2 ⟨[(3,[]),(6,[]),(7,[]),(8,[])],[],false,[],[]⟩,.out (.fin (.int .i64 x3) [])] [⟨(LT.blockFin (id:=0) (aAR x1 _ k 0 e0))⟩,⟨(aG sU x1)⟩] (by kernel_rfl)
end Go.Ws

namespace Go.Ws
open Go.Proofs
set_option linter.unusedSimpArgs false
set_option linter.unusedVariables false
set_option maxRecDepth 1000000
set_option maxHeartbeats 4000000
noncomputable def X66:Ctx:=⟨Try.f66,[],true⟩
theorem lI (k:Nat) (x1:Int) (x2:Int) (x3:Bool) (x4:Int) (x5:Int) (x6:Bool) (r:Int) (h:p8 k x1 x2 x3 x4 x5 x6=some r):Tri Try.prog 66 [(.agg [(.int .u8 x1),(.int .i64 x2),(.bool x3)]),(.agg [(.int .u8 x4),(.int .i64 x5),(.bool x6)])] [] (.int .i64 r) []:=by
 unfold p8 at h
 obtain⟨x7,e0,h⟩:=bsm h
 obtain rfl:=osi h
 exact Tri.of (x:=X66) aK facts66 [.call ⟨true,[]⟩ (.int .i64 (bM x1 x4)) [],.call ⟨true,[]⟩ (.int .i64 (eL x2 x5)) [],.call ⟨true,[]⟩ (.int .i64 x7) [],.rows (List.map sU [(bM x1 x4),(eL x2 x5)])] [⟨(aT6 k [(bM x1 x4),(eL x2 x5)] _ e0)⟩,⟨(aQ sU (l:=[(bM x1 x4),(eL x2 x5)]) (n:=2) rfl)⟩,⟨(a9 sU (Nat.le_refl 2):0+2≤(List.map sU [(bM x1 x4),(eL x2 x5)]).length)⟩,⟨(aGK x2 x5)⟩,⟨(aB1 x1 x4)⟩] (by kernel_rfl)
end Go.Ws

namespace Go.Ws
open Go.Proofs
set_option linter.unusedSimpArgs false
set_option linter.unusedVariables false
set_option maxRecDepth 1000000
set_option maxHeartbeats 4000000
noncomputable def X63:Ctx:=⟨Try.f63,[],true⟩
noncomputable def L63_0:Code:=at_ Try.f63 [1,0,1,4,5]
def S63_0 (x1:aN) (bV:Int):St:=⟨mkT 46 [(0,(.sl 3 (List.map aA x1))),(6,(.sl 3 (List.map aA x1))),(7,(.int .i64 (nI x1.length))),(8,(.int .i64 bV))],[]⟩
def aN7:St:=⟨mkT 46 [],[]⟩
def O63_0 (x1:aN) (y:pO):GX:=match y with
 | .inl y=>.st (.exit 0) (aN7)
 | .inr y=>.fin (.bool y) []
def aKF (aY:Int × Int × Bool):Ans:=.row [(.int .u8 aY.1),(.int .i64 aY.2.1),(.bool aY.2.2)]
def aJH (aY:Int × Int × Bool):Ans:=.call ⟨true,[]⟩ (.bool (jM aY.2.1 aY.1)) []
def aP2 (cR:Int × Int × Bool):Ans:=.row [(.int .u8 cR.1),(.int .i64 cR.2.1),(.bool cR.2.2)]
def aOX (o8:Int):Ans:=.call ⟨true,[]⟩ (.int .i64 o8) []
theorem nY (x1:aN) (y:pO):∀(k:Nat) (bV:Int),f6 k x1 bV=some y→LT Try.prog X63 L63_0 (S63_0 x1 bV) (O63_0 x1 y)
 | 0,bV,h=>by cases h
 | k+1,bV,h=>by
  rw[f6] at h
  by_cases cL0:ltI bV (nI x1.length)=true
  · rw[if_pos cL0] at h
    by_cases cL1:inI bV x1.length=true
    · rw[if_pos cL1] at h
      obtain⟨aY,eL2,h⟩:=bsm h
      by_cases cL3:(jM aY.2.1 aY.1)=true
      · rw[if_pos cL3] at h
        by_cases cL4:eqI bV 0=true
        · rw[if_pos cL4] at h
          exact LT.next aK (hs:=⟨[(0,[]),(6,[]),(7,[]),(8,[])],[],false,[],[]⟩) (es:=none) [dt,.n x1.length,(aKF aY),(aJH aY),df,dt] [⟨cL4⟩,⟨(nF cL3)⟩,⟨(jZ aY.2.1 aY.1)⟩,⟨(aI (e:=aA) eL2 3 0 3 (by decide))⟩,⟨cL1⟩,⟨(aG aA x1)⟩,⟨cL0⟩] (by kernel_rfl) (nY x1 y k (aO .i64 bV 1) h)
        rw[if_neg cL4] at h;replace cL4:=eqf cL4
        by_cases cL5:inI (pN .i64 bV 1) x1.length=true
        · rw[if_pos cL5] at h
          obtain⟨cR,eL6,h⟩:=bsm h
          obtain⟨o8,eL7,h⟩:=bsm h
          by_cases cL8:ltI o8 0=true
          · rw[if_pos cL8] at h
            by_cases cL9:eqI cR.1 aY.1=true
            · rw[if_pos cL9] at h
              by_cases cL10:cR.2.2=true
              · rw[if_pos cL10] at h
                obtain rfl:=osi h
                show LT _ _ _ _ (.fin (.bool false) [])
                exact LT.done aK (hs:=⟨[],[],false,[],[]⟩) (es:=none) [dt,.n x1.length,(aKF aY),(aJH aY),df,df,.n x1.length,(aP2 cR),(aOX o8),df,df,df,df,df,df,dt,dt,dt,dt,dt,dt,dt,df,dt,df,dt] [⟨rT⟩,⟨(nF cL8)⟩,⟨cL9⟩,⟨(nF cL8)⟩,⟨cL10⟩,⟨cL9⟩,⟨cL10⟩,⟨cL10⟩,⟨cL9⟩,⟨cL9⟩,⟨cL9⟩,⟨(nF cL8)⟩,⟨(nF cL8)⟩,⟨(nF cL8)⟩,⟨(nF cL8)⟩,⟨(nF cL8)⟩,⟨(nF cL8)⟩,⟨(lI k cR.1 cR.2.1 cR.2.2 aY.1 aY.2.1 aY.2.2 _ eL7)⟩,⟨(aI (e:=aA) eL6 3 0 3 (by decide))⟩,⟨cL5⟩,⟨(aG aA x1)⟩,⟨cL4⟩,⟨(nF cL3)⟩,⟨(jZ aY.2.1 aY.1)⟩,⟨(aI (e:=aA) eL2 3 0 3 (by decide))⟩,⟨cL1⟩,⟨(aG aA x1)⟩,⟨cL0⟩] (by kernel_rfl) (fun s h=>by cases h)
              rw[if_neg cL10] at h;replace cL10:=eqf cL10
              by_cases cL11:aY.2.2=true
              · rw[if_pos cL11] at h
                obtain rfl:=osi h
                show LT _ _ _ _ (.fin (.bool false) [])
                exact LT.done aK (hs:=⟨[],[],false,[],[]⟩) (es:=none) [dt,.n x1.length,(aKF aY),(aJH aY),df,df,.n x1.length,(aP2 cR),(aOX o8),df,df,df,df,df,df,dt,dt,dt,df,df,dt,df,df,dt,df,dt] [⟨cL11⟩,⟨(nF cL8)⟩,⟨cL9⟩,⟨(nF cL8)⟩,⟨cL10⟩,⟨cL9⟩,⟨cL10⟩,⟨cL10⟩,⟨cL9⟩,⟨cL9⟩,⟨cL9⟩,⟨(nF cL8)⟩,⟨(nF cL8)⟩,⟨(nF cL8)⟩,⟨(nF cL8)⟩,⟨(nF cL8)⟩,⟨(nF cL8)⟩,⟨(lI k cR.1 cR.2.1 cR.2.2 aY.1 aY.2.1 aY.2.2 _ eL7)⟩,⟨(aI (e:=aA) eL6 3 0 3 (by decide))⟩,⟨cL5⟩,⟨(aG aA x1)⟩,⟨cL4⟩,⟨(nF cL3)⟩,⟨(jZ aY.2.1 aY.1)⟩,⟨(aI (e:=aA) eL2 3 0 3 (by decide))⟩,⟨cL1⟩,⟨(aG aA x1)⟩,⟨cL0⟩] (by kernel_rfl) (fun s h=>by cases h)
              rw[if_neg cL11] at h;replace cL11:=eqf cL11
              exact LT.next aK (hs:=⟨[(0,[]),(6,[]),(7,[]),(8,[])],[],false,[],[]⟩) (es:=none) [dt,.n x1.length,(aKF aY),(aJH aY),df,df,.n x1.length,(aP2 cR),(aOX o8),df,df,df,df,df,df,dt,dt,dt,df,df,dt,df,df,dt,df,df] [⟨cL11⟩,⟨(nF cL8)⟩,⟨cL9⟩,⟨(nF cL8)⟩,⟨cL10⟩,⟨cL9⟩,⟨cL10⟩,⟨cL10⟩,⟨cL9⟩,⟨cL9⟩,⟨cL9⟩,⟨(nF cL8)⟩,⟨(nF cL8)⟩,⟨(nF cL8)⟩,⟨(nF cL8)⟩,⟨(nF cL8)⟩,⟨(nF cL8)⟩,⟨(lI k cR.1 cR.2.1 cR.2.2 aY.1 aY.2.1 aY.2.2 _ eL7)⟩,⟨(aI (e:=aA) eL6 3 0 3 (by decide))⟩,⟨cL5⟩,⟨(aG aA x1)⟩,⟨cL4⟩,⟨(nF cL3)⟩,⟨(jZ aY.2.1 aY.1)⟩,⟨(aI (e:=aA) eL2 3 0 3 (by decide))⟩,⟨cL1⟩,⟨(aG aA x1)⟩,⟨cL0⟩] (by kernel_rfl) (nY x1 y k (aO .i64 bV 1) h)
            rw[if_neg cL9] at h;replace cL9:=eqf cL9
            exact LT.next aK (hs:=⟨[(0,[]),(6,[]),(7,[]),(8,[])],[],false,[],[]⟩) (es:=none) [dt,.n x1.length,(aKF aY),(aJH aY),df,df,.n x1.length,(aP2 cR),(aOX o8),df,df,df,df,df,df,df,df,df,df,df,df,df,df] [⟨rF⟩,⟨(nF cL8)⟩,⟨cL9⟩,⟨(nF cL8)⟩,⟨cL9⟩,⟨cL9⟩,⟨cL9⟩,⟨cL9⟩,⟨(nF cL8)⟩,⟨(nF cL8)⟩,⟨(nF cL8)⟩,⟨(nF cL8)⟩,⟨(nF cL8)⟩,⟨(nF cL8)⟩,⟨(lI k cR.1 cR.2.1 cR.2.2 aY.1 aY.2.1 aY.2.2 _ eL7)⟩,⟨(aI (e:=aA) eL6 3 0 3 (by decide))⟩,⟨cL5⟩,⟨(aG aA x1)⟩,⟨cL4⟩,⟨(nF cL3)⟩,⟨(jZ aY.2.1 aY.1)⟩,⟨(aI (e:=aA) eL2 3 0 3 (by decide))⟩,⟨cL1⟩,⟨(aG aA x1)⟩,⟨cL0⟩] (by kernel_rfl) (nY x1 y k (aO .i64 bV 1) h)
          rw[if_neg cL8] at h;replace cL8:=eqf cL8
          obtain rfl:=osi h
          show LT _ _ _ _ (.fin (.bool false) [])
          exact LT.done aK (hs:=⟨[],[],false,[],[]⟩) (es:=none) [dt,.n x1.length,(aKF aY),(aJH aY),df,df,.n x1.length,(aP2 cR),(aOX o8),dt,dt,dt,dt,dt,dt,dt,dt,dt] [⟨rT⟩,⟨(nT cL8)⟩,⟨(nT cL8)⟩,⟨(nT cL8)⟩,⟨(nT cL8)⟩,⟨(nT cL8)⟩,⟨(nT cL8)⟩,⟨(nT cL8)⟩,⟨(nT cL8)⟩,⟨(lI k cR.1 cR.2.1 cR.2.2 aY.1 aY.2.1 aY.2.2 _ eL7)⟩,⟨(aI (e:=aA) eL6 3 0 3 (by decide))⟩,⟨cL5⟩,⟨(aG aA x1)⟩,⟨cL4⟩,⟨(nF cL3)⟩,⟨(jZ aY.2.1 aY.1)⟩,⟨(aI (e:=aA) eL2 3 0 3 (by decide))⟩,⟨cL1⟩,⟨(aG aA x1)⟩,⟨cL0⟩] (by kernel_rfl) (fun s h=>by cases h)
        rw[if_neg cL5] at h;replace cL5:=eqf cL5
        cases h
      rw[if_neg cL3] at h;replace cL3:=eqf cL3
      obtain rfl:=osi h
      show LT _ _ _ _ (.fin (.bool false) [])
      exact LT.done aK (hs:=⟨[],[],false,[],[]⟩) (es:=none) [dt,.n x1.length,(aKF aY),(aJH aY),dt] [⟨(nT cL3)⟩,⟨(jZ aY.2.1 aY.1)⟩,⟨(aI (e:=aA) eL2 3 0 3 (by decide))⟩,⟨cL1⟩,⟨(aG aA x1)⟩,⟨cL0⟩] (by kernel_rfl) (fun s h=>by cases h)
    rw[if_neg cL1] at h;replace cL1:=eqf cL1
    cases h
  rw[if_neg cL0] at h;replace cL0:=eqf cL0
  obtain rfl:=osi h
  show LT _ _ _ _ (.st (.exit 0) (aN7))
  exact LT.done aK (hs:=⟨[],[],false,[],[]⟩) (es:=(some ⟨[],[],false,[],[]⟩)) [df] [⟨cL0⟩] (by kernel_rfl) (fun s h=>by cases h)
theorem pD (k:Nat) (x1:aN) (r:Bool) (h:uZ k x1=some r):Tri Try.prog 63 [(.sl 3 (List.map aA x1))] [] (.bool r) []:=by
 unfold uZ at h
 obtain⟨x2,e0,h⟩:=bsm h
 cases x2 with
 | inl x3 =>
  simp only[Sum.elim_inl] at h
  obtain rfl:=osi h
  exact Tri.of (x:=X63) aK aS2 [.n x1.length,.norm 2 ⟨[(0,[]),(6,[]),(7,[]),(8,[])],[],false,[],[]⟩,.out (.st .normal (aN7))] [⟨(LT.block (nY x1 _ k 0 e0))⟩,⟨(aG aA x1)⟩] (by kernel_rfl)
 | inr x3 =>
  simp only[Sum.elim_inr] at h
  obtain rfl:=osi h
  exact Tri.of (x:=X63) aK aS2 [.n x1.length,.norm 2 ⟨[(0,[]),(6,[]),(7,[]),(8,[])],[],false,[],[]⟩,.out (.fin (.bool x3) [])] [⟨(LT.blockFin (id:=0) (nY x1 _ k 0 e0))⟩,⟨(aG aA x1)⟩] (by kernel_rfl)
end Go.Ws

namespace Go.Ws
open Go.Proofs
set_option linter.unusedSimpArgs false
set_option linter.unusedVariables false
set_option maxRecDepth 1000000
set_option maxHeartbeats 4000000
noncomputable def X65:Ctx:=⟨Try.f65,[],true⟩
noncomputable def L65_0:Code:=at_ Try.f65 [1,1,1,0,4,5]
def S65_0 (x1:aN) (x2:Int) (x3:Int) (x4:Bool) (cI:Int) (cS:Int):St:=⟨mkT 49 [(0,(.sl 3 (List.map aA x1))),(2,(.fn 66 [])),(4,(.hp 0 0)),(8,(.int .i64 (nI x1.length))),(9,(.int .i64 cI)),(10,(.int .i64 cS))],[(.row [(.int .u8 x2),(.int .i64 x3),(.bool x4)])]⟩
def aIU (x1:aN) (x2:Int) (x3:Int) (x4:Bool) (v65002_1:Int):St:=⟨mkT 49 [(0,(.sl 3 (List.map aA x1))),(2,(.fn 66 [])),(4,(.hp 0 0)),(8,(.int .i64 (nI x1.length))),(9,(.int .i64 v65002_1))],[(.row [(.int .u8 x2),(.int .i64 x3),(.bool x4)])]⟩
def O65_0 (x1:aN) (x2:Int) (x3:Int) (x4:Bool) (y:(Int)):GX:=.st (.exit 0) (aIU x1 x2 x3 x4 y)
def A65_0:Ans:=.norm 2 ⟨[(0,[]),(2,[]),(4,[]),(8,[]),(9,[]),(10,[])],[⟨.tmp 4,[],none⟩],false,[],[]⟩
theorem iM (x1:aN) (x2:Int) (x3:Int) (x4:Bool) (y:(Int)):∀(k:Nat) (cI:Int) (cS:Int),bG k x1 x2 x3 x4 cI cS=some y→LT Try.prog X65 L65_0 (S65_0 x1 x2 x3 x4 cI cS) (O65_0 x1 x2 x3 x4 y)
 | 0,cI,cS,h=>by cases h
 | k+1,cI,cS,h=>by
  rw[bG] at h
  by_cases cL0:ltI cI cS=true
  · rw[if_pos cL0] at h
    by_cases cL1:inI (conv .i64 (vL .u64 (conv .u64 (aO .i64 cI cS)) 1)) x1.length=true
    · rw[if_pos cL1] at h
      obtain⟨jF,eL2,h⟩:=bsm h
      obtain⟨yA,eL3,h⟩:=bsm h
      by_cases cL4:ltI yA 0=true
      · rw[if_pos cL4] at h
        exact LT.next aK (hs:=⟨[(0,[]),(2,[]),(4,[]),(8,[]),(9,[]),(10,[])],[⟨.tmp 4,[],none⟩],false,[],[]⟩) (es:=none) [dt,.n x1.length,.row [(.int .u8 jF.1),(.int .i64 jF.2.1),(.bool jF.2.2)],.call ⟨true,[]⟩ (.int .i64 yA) [],dt] [⟨cL4⟩,⟨(lI k jF.1 jF.2.1 jF.2.2 x2 x3 x4 _ eL3)⟩,⟨(aI (e:=aA) eL2 3 0 3 (by decide))⟩,⟨cL1⟩,⟨(aG aA x1)⟩,⟨cL0⟩] (by kernel_rfl) (iM x1 x2 x3 x4 y k (aO .i64 (conv .i64 (vL .u64 (conv .u64 (aO .i64 cI cS)) 1)) 1) cS h)
      rw[if_neg cL4] at h;replace cL4:=eqf cL4
      exact LT.next aK (hs:=⟨[(0,[]),(2,[]),(4,[]),(8,[]),(9,[]),(10,[])],[⟨.tmp 4,[],none⟩],false,[],[]⟩) (es:=none) [dt,.n x1.length,.row [(.int .u8 jF.1),(.int .i64 jF.2.1),(.bool jF.2.2)],.call ⟨true,[]⟩ (.int .i64 yA) [],df] [⟨cL4⟩,⟨(lI k jF.1 jF.2.1 jF.2.2 x2 x3 x4 _ eL3)⟩,⟨(aI (e:=aA) eL2 3 0 3 (by decide))⟩,⟨cL1⟩,⟨(aG aA x1)⟩,⟨cL0⟩] (by kernel_rfl) (iM x1 x2 x3 x4 y k cI (conv .i64 (vL .u64 (conv .u64 (aO .i64 cI cS)) 1)) h)
    rw[if_neg cL1] at h;replace cL1:=eqf cL1
    cases h
  rw[if_neg cL0] at h;replace cL0:=eqf cL0
  obtain rfl:=osi h
  show LT _ _ _ _ (.st (.exit 0) (aIU x1 x2 x3 x4 cI))
  exact LT.done aK (hs:=⟨[],[],false,[],[]⟩) (es:=(some ⟨[(0,[]),(2,[]),(4,[]),(8,[]),(9,[])],[⟨.tmp 4,[],none⟩],false,[],[]⟩)) [df] [⟨cL0⟩] (by kernel_rfl) (fun s h=>by cases h)
theorem l8 (k:Nat) (x1:aN) (x2:Int) (x3:Int) (x4:Bool) (r:Int × Bool) (h:g4 k x1 x2 x3 x4=some r):Tri Try.prog 65 [(.sl 3 (List.map aA x1)),(.agg [(.int .u8 x2),(.int .i64 x3),(.bool x4)]),(.fn 66 [])] [] (.tup [(.int .i64 r.1),(.bool r.2)]) []:=by
 unfold g4 at h
 obtain⟨x6,e0,h⟩:=bsm h
 by_cases c2:ltI x6 (nI x1.length)=true
 · rw[if_pos c2] at h
   by_cases c3:inI x6 x1.length=true
   · rw[if_pos c3] at h
     obtain⟨x7,e4,h⟩:=bsm h
     obtain⟨x8,e5,h⟩:=bsm h
     obtain rfl:=osi h
     exact Tri.of (x:=X65) aK aSY [.n x1.length,A65_0,.out (.st .normal (aIU x1 x2 x3 x4 x6)),dt,dt,dt,dt,.n x1.length,dt,.row [(.int .u8 x7.1),(.int .i64 x7.2.1),(.bool x7.2.2)],dt,dt,.call ⟨true,[]⟩ (.int .i64 x8) [],dt,dt] [⟨c2⟩,⟨c2⟩,⟨(lI k x7.1 x7.2.1 x7.2.2 x2 x3 x4 _ e5)⟩,⟨c2⟩,⟨c2⟩,⟨(aI (e:=aA) e4 3 0 3 (by decide))⟩,⟨c2⟩,⟨c3⟩,⟨(aG aA x1)⟩,⟨c2⟩,⟨c2⟩,⟨c2⟩,⟨c2⟩,⟨(LT.block (iM x1 x2 x3 x4 _ k 0 (nI x1.length) e0))⟩,⟨(aG aA x1)⟩] (by kernel_rfl)
   rw[if_neg c3] at h;replace c3:=eqf c3
   cases h
 rw[if_neg c2] at h;replace c2:=eqf c2
 obtain rfl:=osi h
 exact Tri.of (x:=X65) aK aSY [.n x1.length,A65_0,.out (.st .normal (aIU x1 x2 x3 x4 x6)),df,df,df,df,df,df,df,df,df] [⟨c2⟩,⟨c2⟩,⟨c2⟩,⟨c2⟩,⟨c2⟩,⟨c2⟩,⟨c2⟩,⟨c2⟩,⟨c2⟩,⟨(LT.block (iM x1 x2 x3 x4 _ k 0 (nI x1.length) e0))⟩,⟨(aG aA x1)⟩] (by kernel_rfl)
end Go.Ws

namespace Go.Ws
open Go.Proofs
set_option linter.unusedSimpArgs false
set_option linter.unusedVariables false
set_option maxRecDepth 1000000
set_option maxHeartbeats 4000000
theorem aGV (k:Nat) (x1:Int) (x2:aN) (x3:aN) (r:aN) (h:rG k x1 x2 x3=some r):Tri Try.prog 67 [(.ref 3 0 0 0 x2.length .virt),(.int .i64 x1),(.ref 3 1 0 0 x3.length .full)] [(.arr 3 (List.map aA x2) 0 0 false),(.arr 3 (List.map aA x3) 0 0 false)] (.ref 3 0 1 0 r.length .full) [(.arr 3 (List.map aA r) 1 1 false),(.arr 3 (List.map aA x3) 0 0 false)]:=ins_ok67 _ h rfl
end Go.Ws

namespace Go.Ws
open Go.Proofs
set_option linter.unusedSimpArgs false
set_option linter.unusedVariables false
set_option maxRecDepth 1000000
set_option maxHeartbeats 4000000
noncomputable def X46:Ctx:=⟨Try.f46,[],true⟩
noncomputable def L46_0:Code:=at_ Try.f46 [1,1,1,0,1,4,5]
def S46_0 (x1:aN) (x2:Int) (x3:Int) (x4:Bool) (cT:Int):St:=⟨mkT 82 [(0,(.ref 3 0 0 0 x1.length .virt)),(1,(.int .i64 x2)),(2,(.int .u8 x3)),(3,(.bool x4)),(27,(.ref 3 0 0 0 x1.length .virt)),(28,(.int .i64 (nI x1.length))),(29,(.int .i64 cT))],[(.arr 3 (List.map aA x1) 0 0 false)]⟩
def aFC (x1:aN) (x2:Int) (x3:Int) (x4:Bool):St:=⟨mkT 82 [(0,(.ref 3 0 0 0 x1.length .virt)),(1,(.int .i64 x2)),(2,(.int .u8 x3)),(3,(.bool x4))],[(.arr 3 (List.map aA x1) 0 0 false)]⟩
def O46_0 (x1:aN) (x2:Int) (x3:Int) (x4:Bool) (y:(Sum (Unit) (aN × Int))):GX:=match y with
 | .inl y=>.st (.exit 0) (aFC x1 x2 x3 x4)
 | .inr y=>.fin (.tup [(.sl 3 (List.map aA y.1)),(.int .i64 y.2)]) []
def aPG (jG:Int × Int × Bool):Ans:=.row [(.int .u8 jG.1),(.int .i64 jG.2.1),(.bool jG.2.2)]
def aLH (x1:aN):Ans:=.call ⟨true,[]⟩ (.ref 3 0 0 0 x1.length .virt) [(.arr 3 (List.map aA x1) 0 0 false)]
def aQF (x2:Int) (x3:Int):Ans:=.call ⟨true,[]⟩ (.bool (jM x2 x3)) []
def A46_3:Ans:=.norm 2 ⟨[(0,[]),(1,[]),(2,[]),(3,[]),(27,[]),(28,[]),(29,[])],[⟨.tmp 0,[],none⟩],false,[],[]⟩
def A46_4 (x9:Int × Bool):Ans:=.call ⟨true,[]⟩ (.tup [(.int .i64 x9.1),(.bool x9.2)]) []
theorem kX (x1:aN) (x2:Int) (x3:Int) (x4:Bool) (y:(Sum (Unit) (aN × Int))):∀(k:Nat) (cT:Int),gV k x1 x2 x3 x4 cT=some y→LT Try.prog X46 L46_0 (S46_0 x1 x2 x3 x4 cT) (O46_0 x1 x2 x3 x4 y)
 | 0,cT,h=>by cases h
 | k+1,cT,h=>by
  rw[gV] at h
  by_cases cL0:ltI cT (nI x1.length)=true
  · rw[if_pos cL0] at h
    by_cases cL1:inI cT x1.length=true
    · rw[if_pos cL1] at h
      obtain⟨jG,eL2,h⟩:=bsm h
      by_cases cL3:eqI jG.1 x3=true
      · rw[if_pos cL3] at h
        by_cases cL4:eqI jG.2.1 x2=true
        · rw[if_pos cL4] at h
          exact LT.next aK (hs:=⟨[(0,[]),(1,[]),(2,[]),(3,[]),(27,[]),(28,[]),(29,[])],[⟨.tmp 0,[],none⟩],false,[],[]⟩) (es:=none) [dt,(aPG jG),dt,dt,dt,dt,dt,df,df,df,df,df] [⟨rF⟩,⟨(nF cL4)⟩,⟨(nF cL4)⟩,⟨(nF cL4)⟩,⟨(nF cL4)⟩,⟨cL3⟩,⟨cL3⟩,⟨cL3⟩,⟨cL3⟩,⟨cL3⟩,⟨(aI (e:=aA) eL2 3 0 3 (by decide))⟩,⟨cL1⟩,⟨cL0⟩] (by kernel_rfl) (kX x1 x2 x3 x4 y k (aO .i64 cT 1) h)
        rw[if_neg cL4] at h;replace cL4:=eqf cL4
        by_cases cL5:x4=true
        · rw[if_pos cL5] at h
          obtain rfl:=osi h
          show LT _ _ _ _ (.fin (.tup [(.sl 3 (List.map aA ((x1,9).1))),(.int .i64 ((x1,9).2))]) [])
          exact LT.done aK (hs:=⟨[],[],false,[],[]⟩) (es:=none) [dt,(aPG jG),dt,dt,dt,dt,dt,dt,dt,dt,dt,dt,dt,dt,dt,.rows (List.map aA x1)] [⟨(aQ aA (l:=x1) (n:=x1.length) rfl)⟩,⟨(a9 aA (Nat.le_refl x1.length):0+x1.length≤(List.map aA x1).length)⟩,⟨rT⟩,⟨(nT cL4)⟩,⟨cL5⟩,⟨(nT cL4)⟩,⟨cL5⟩,⟨cL5⟩,⟨(nT cL4)⟩,⟨(nT cL4)⟩,⟨cL3⟩,⟨cL3⟩,⟨cL3⟩,⟨cL3⟩,⟨cL3⟩,⟨(aI (e:=aA) eL2 3 0 3 (by decide))⟩,⟨cL1⟩,⟨cL0⟩] (by kernel_rfl) (fun s h=>by cases h)
        rw[if_neg cL5] at h;replace cL5:=eqf cL5
        by_cases cL6:jG.2.2=true
        · rw[if_pos cL6] at h
          obtain rfl:=osi h
          show LT _ _ _ _ (.fin (.tup [(.sl 3 (List.map aA ((x1,9).1))),(.int .i64 ((x1,9).2))]) [])
          exact LT.done aK (hs:=⟨[],[],false,[],[]⟩) (es:=none) [dt,(aPG jG),dt,dt,dt,dt,dt,dt,dt,df,df,dt,df,dt,dt,.rows (List.map aA x1)] [⟨(aQ aA (l:=x1) (n:=x1.length) rfl)⟩,⟨(a9 aA (Nat.le_refl x1.length):0+x1.length≤(List.map aA x1).length)⟩,⟨cL6⟩,⟨(nT cL4)⟩,⟨cL5⟩,⟨(nT cL4)⟩,⟨cL5⟩,⟨cL5⟩,⟨(nT cL4)⟩,⟨(nT cL4)⟩,⟨cL3⟩,⟨cL3⟩,⟨cL3⟩,⟨cL3⟩,⟨cL3⟩,⟨(aI (e:=aA) eL2 3 0 3 (by decide))⟩,⟨cL1⟩,⟨cL0⟩] (by kernel_rfl) (fun s h=>by cases h)
        rw[if_neg cL6] at h;replace cL6:=eqf cL6
        exact LT.next aK (hs:=⟨[(0,[]),(1,[]),(2,[]),(3,[]),(27,[]),(28,[]),(29,[])],[⟨.tmp 0,[],none⟩],false,[],[]⟩) (es:=none) [dt,(aPG jG),dt,dt,dt,dt,dt,dt,dt,df,df,dt,df,dt,df] [⟨cL6⟩,⟨(nT cL4)⟩,⟨cL5⟩,⟨(nT cL4)⟩,⟨cL5⟩,⟨cL5⟩,⟨(nT cL4)⟩,⟨(nT cL4)⟩,⟨cL3⟩,⟨cL3⟩,⟨cL3⟩,⟨cL3⟩,⟨cL3⟩,⟨(aI (e:=aA) eL2 3 0 3 (by decide))⟩,⟨cL1⟩,⟨cL0⟩] (by kernel_rfl) (kX x1 x2 x3 x4 y k (aO .i64 cT 1) h)
      rw[if_neg cL3] at h;replace cL3:=eqf cL3
      exact LT.next aK (hs:=⟨[(0,[]),(1,[]),(2,[]),(3,[]),(27,[]),(28,[]),(29,[])],[⟨.tmp 0,[],none⟩],false,[],[]⟩) (es:=none) [dt,(aPG jG),df,df,df,df,df,df,df,df,df,df] [⟨rF⟩,⟨rF⟩,⟨rF⟩,⟨rF⟩,⟨rF⟩,⟨cL3⟩,⟨cL3⟩,⟨cL3⟩,⟨cL3⟩,⟨cL3⟩,⟨(aI (e:=aA) eL2 3 0 3 (by decide))⟩,⟨cL1⟩,⟨cL0⟩] (by kernel_rfl) (kX x1 x2 x3 x4 y k (aO .i64 cT 1) h)
    rw[if_neg cL1] at h;replace cL1:=eqf cL1
    cases h
  rw[if_neg cL0] at h;replace cL0:=eqf cL0
  obtain rfl:=osi h
  show LT _ _ _ _ (.st (.exit 0) (aFC x1 x2 x3 x4))
  exact LT.done aK (hs:=⟨[],[],false,[],[]⟩) (es:=(some ⟨[(0,[]),(1,[]),(2,[]),(3,[])],[⟨.tmp 0,[],none⟩],false,[],[]⟩)) [df] [⟨cL0⟩] (by kernel_rfl) (fun s h=>by cases h)
theorem kE (k:Nat) (x1:aN) (x2:Int) (x3:Int) (x4:Bool) (r:aN × Int) (h:uL k x1 x2 x3 x4=some r):Tri Try.prog 46 [(.sl 3 (List.map aA x1)),(.int .i64 x2),(.int .u8 x3),(.bool x4)] [] (.tup [(.sl 3 (List.map aA r.1)),(.int .i64 r.2)]) []:=by
 unfold uL at h
 obtain⟨x5,e0,h⟩:=bsm h
 obtain⟨x6,e1,h⟩:=bsm h
 by_cases c2:x6=true
 · rw[if_pos c2] at h
   by_cases c3:(jM x2 x3)=true
   · rw[if_pos c3] at h
     obtain⟨x7,e4,h⟩:=bsm h
     cases x7 with
     | inl x8 =>
      simp only[Sum.elim_inl] at h
      obtain⟨x9,e6,h⟩:=bsm h
      by_cases c7:x9.2=true
      · rw[if_pos c7] at h
        by_cases c8:inI x9.1 x1.length=true
        · rw[if_pos c8] at h
          obtain⟨x10,e9,h⟩:=bsm h
          by_cases c10:x10.2.2=true
          · rw[if_pos c10] at h
            obtain rfl:=osi h
            exact Tri.of (x:=X46) aK aDF [(aLH x1),.call ⟨true,[]⟩ (.bool x6) [],.rows (List.map aA x1),df,df,df,(aQF x2 x3),df,df,df,A46_3,.out (.st .normal (aFC x1 x2 x3 x4)),(A46_4 x9),.rows (List.map aA x1),df,.row [(.bool x10.2.2)],dt,dt,.rows (List.map aA (List.set x1 (tN x9.1) (x10.1,x10.2.1,true))),.rows (List.map aA (List.set x1 (tN x9.1) (x10.1,x10.2.1,true)))] [⟨(aQ aA (l:=(List.set x1 (tN x9.1) (x10.1,x10.2.1,true))) (n:=x1.length) (by simp:x1.length=List.length (α:=Int × Int × Bool) (List.set x1 (tN x9.1) (x10.1,x10.2.1,true))))⟩,⟨(a9 aA (Nat.le_of_eq (by simp:x1.length=List.length (α:=Int × Int × Bool) (List.set x1 (tN x9.1) (x10.1,x10.2.1,true)))))⟩,⟨(s4 (e:=aA) e9 2 [(.bool true)] (x10.1,x10.2.1,true) rfl)⟩,⟨c8⟩,⟨c10⟩,⟨c10⟩,⟨(aI (e:=aA) e9 3 2 1 (by decide))⟩,⟨c8⟩,⟨(nF c7)⟩,⟨(l8 k x1 x3 x2 x4 _ e6)⟩,⟨(aQ aA (l:=x1) (n:=x1.length) rfl)⟩,⟨(a9 aA (Nat.le_refl x1.length):0+x1.length≤(List.map aA x1).length)⟩,⟨(LT.block (kX x1 x2 x3 x4 _ k 0 e4))⟩,⟨(nF c3)⟩,⟨(nF c2)⟩,⟨(nF c2)⟩,⟨(jZ x2 x3)⟩,⟨(nF c2)⟩,⟨(nF c2)⟩,⟨(nF c2)⟩,⟨(pD k x1 _ e1)⟩,⟨(aQ aA (l:=x1) (n:=x1.length) rfl)⟩,⟨(a9 aA (Nat.le_refl x1.length):0+x1.length≤(List.map aA x1).length)⟩,⟨(kY k x1 _ e0)⟩] (by kernel_rfl)
          rw[if_neg c10] at h;replace c10:=eqf c10
          obtain rfl:=osi h
          exact Tri.of (x:=X46) aK aDF [(aLH x1),.call ⟨true,[]⟩ (.bool x6) [],.rows (List.map aA x1),df,df,df,(aQF x2 x3),df,df,df,A46_3,.out (.st .normal (aFC x1 x2 x3 x4)),(A46_4 x9),.rows (List.map aA x1),df,.row [(.bool x10.2.2)],df,df,.rows (List.map aA (List.set x1 (tN x9.1) (x10.1,x10.2.1,x4))),.rows (List.map aA (List.set x1 (tN x9.1) (x10.1,x10.2.1,x4)))] [⟨(aQ aA (l:=(List.set x1 (tN x9.1) (x10.1,x10.2.1,x4))) (n:=x1.length) (by simp:x1.length=List.length (α:=Int × Int × Bool) (List.set x1 (tN x9.1) (x10.1,x10.2.1,x4))))⟩,⟨(a9 aA (Nat.le_of_eq (by simp:x1.length=List.length (α:=Int × Int × Bool) (List.set x1 (tN x9.1) (x10.1,x10.2.1,x4)))))⟩,⟨(s4 (e:=aA) e9 2 [(.bool x4)] (x10.1,x10.2.1,x4) rfl)⟩,⟨c8⟩,⟨c10⟩,⟨c10⟩,⟨(aI (e:=aA) e9 3 2 1 (by decide))⟩,⟨c8⟩,⟨(nF c7)⟩,⟨(l8 k x1 x3 x2 x4 _ e6)⟩,⟨(aQ aA (l:=x1) (n:=x1.length) rfl)⟩,⟨(a9 aA (Nat.le_refl x1.length):0+x1.length≤(List.map aA x1).length)⟩,⟨(LT.block (kX x1 x2 x3 x4 _ k 0 e4))⟩,⟨(nF c3)⟩,⟨(nF c2)⟩,⟨(nF c2)⟩,⟨(jZ x2 x3)⟩,⟨(nF c2)⟩,⟨(nF c2)⟩,⟨(nF c2)⟩,⟨(pD k x1 _ e1)⟩,⟨(aQ aA (l:=x1) (n:=x1.length) rfl)⟩,⟨(a9 aA (Nat.le_refl x1.length):0+x1.length≤(List.map aA x1).length)⟩,⟨(kY k x1 _ e0)⟩] (by kernel_rfl)
        rw[if_neg c8] at h;replace c8:=eqf c8
        cases h
      rw[if_neg c7] at h;replace c7:=eqf c7
      obtain⟨x10,e8,h⟩:=bsm h
      obtain rfl:=osi h
      exact Tri.of (x:=X46) aK aDF [(aLH x1),.call ⟨true,[]⟩ (.bool x6) [],.rows (List.map aA x1),df,df,df,(aQF x2 x3),df,df,df,A46_3,.out (.st .normal (aFC x1 x2 x3 x4)),(A46_4 x9),.rows (List.map aA x1),dt,.call ⟨false,[]⟩ (.ref 3 0 1 0 x10.length .full) [(.arr 3 (List.map aA x10) 1 1 false),(.arr 3 (List.map aA [(x3,x2,x4)]) 0 0 false)],.rows (List.map aA x10)] [⟨(aQ aA (l:=x10) (n:=x10.length) rfl)⟩,⟨(a9 aA (Nat.le_refl x10.length):0+x10.length≤(List.map aA x10).length)⟩,⟨(aGV k x9.1 x1 [(x3,x2,x4)] _ e8)⟩,⟨(nT c7)⟩,⟨(l8 k x1 x3 x2 x4 _ e6)⟩,⟨(aQ aA (l:=x1) (n:=x1.length) rfl)⟩,⟨(a9 aA (Nat.le_refl x1.length):0+x1.length≤(List.map aA x1).length)⟩,⟨(LT.block (kX x1 x2 x3 x4 _ k 0 e4))⟩,⟨(nF c3)⟩,⟨(nF c2)⟩,⟨(nF c2)⟩,⟨(jZ x2 x3)⟩,⟨(nF c2)⟩,⟨(nF c2)⟩,⟨(nF c2)⟩,⟨(pD k x1 _ e1)⟩,⟨(aQ aA (l:=x1) (n:=x1.length) rfl)⟩,⟨(a9 aA (Nat.le_refl x1.length):0+x1.length≤(List.map aA x1).length)⟩,⟨(kY k x1 _ e0)⟩] (by kernel_rfl)
     | inr x8 =>
      simp only[Sum.elim_inr] at h
      obtain rfl:=osi h
      exact Tri.of (x:=X46) aK aDF [(aLH x1),.call ⟨true,[]⟩ (.bool x6) [],.rows (List.map aA x1),df,df,df,(aQF x2 x3),df,df,df,A46_3,.out (.fin (.tup [(.sl 3 (List.map aA x8.1)),(.int .i64 x8.2)]) [])] [⟨(LT.blockFin (id:=0) (kX x1 x2 x3 x4 _ k 0 e4))⟩,⟨(nF c3)⟩,⟨(nF c2)⟩,⟨(nF c2)⟩,⟨(jZ x2 x3)⟩,⟨(nF c2)⟩,⟨(nF c2)⟩,⟨(nF c2)⟩,⟨(pD k x1 _ e1)⟩,⟨(aQ aA (l:=x1) (n:=x1.length) rfl)⟩,⟨(a9 aA (Nat.le_refl x1.length):0+x1.length≤(List.map aA x1).length)⟩,⟨(kY k x1 _ e0)⟩] (by kernel_rfl)
   rw[if_neg c3] at h;replace c3:=eqf c3
   obtain rfl:=osi h
   exact Tri.of (x:=X46) aK aDF [(aLH x1),.call ⟨true,[]⟩ (.bool x6) [],.rows (List.map aA x1),df,df,df,(aQF x2 x3),df,df,dt,.rows (List.map aA x1)] [⟨(aQ aA (l:=x1) (n:=x1.length) rfl)⟩,⟨(a9 aA (Nat.le_refl x1.length):0+x1.length≤(List.map aA x1).length)⟩,⟨(nT c3)⟩,⟨(nF c2)⟩,⟨(nF c2)⟩,⟨(jZ x2 x3)⟩,⟨(nF c2)⟩,⟨(nF c2)⟩,⟨(nF c2)⟩,⟨(pD k x1 _ e1)⟩,⟨(aQ aA (l:=x1) (n:=x1.length) rfl)⟩,⟨(a9 aA (Nat.le_refl x1.length):0+x1.length≤(List.map aA x1).length)⟩,⟨(kY k x1 _ e0)⟩] (by kernel_rfl)
 rw[if_neg c2] at h;replace c2:=eqf c2
 obtain rfl:=osi h
 exact Tri.of (x:=X46) aK aDF [(aLH x1),.call ⟨true,[]⟩ (.bool x6) [],.rows (List.map aA x1),dt,dt,dt,dt,dt,dt,.rows (List.map aA x1)] [⟨(aQ aA (l:=x1) (n:=x1.length) rfl)⟩,⟨(a9 aA (Nat.le_refl x1.length):0+x1.length≤(List.map aA x1).length)⟩,⟨rT⟩,⟨(nT c2)⟩,⟨(nT c2)⟩,⟨(nT c2)⟩,⟨(nT c2)⟩,⟨(nT c2)⟩,⟨(pD k x1 _ e1)⟩,⟨(aQ aA (l:=x1) (n:=x1.length) rfl)⟩,⟨(a9 aA (Nat.le_refl x1.length):0+x1.length≤(List.map aA x1).length)⟩,⟨(kY k x1 _ e0)⟩] (by kernel_rfl)
end Go.Ws

namespace Go.Ws
open Go.Proofs
set_option linter.unusedSimpArgs false
set_option linter.unusedVariables false
set_option maxRecDepth 1000000
set_option maxHeartbeats 4000000
noncomputable def X76 (x4:Int):Ctx:=⟨Try.f76,[(.row [(.int .i64 x4)])],false⟩
theorem tJ (x1:Int) (x2:Int) (x3:Bool) (x4:Int):Tri Try.prog 76 [(.agg [(.int .u8 x1),(.int .i64 x2),(.bool x3)]),(.hp 0 0)] [(.row [(.int .i64 x4)])] (.bool (eqI x2 x4)) [(.row [(.int .i64 x4)])]:=by
 obtain⟨r,h⟩:∃r,aBP x1 x2 x3 x4=r:=⟨_,rfl⟩
 try rw[h]
 unfold aBP at h
 obtain rfl:=h
 exact Tri.of (x:=(X76 x4)) aK facts76 [.norm 0 ⟨[(3,[])],[],false,[],[]⟩] [] (by kernel_rfl)
end Go.Ws

namespace Go.Ws
open Go.Proofs
set_option linter.unusedSimpArgs false
set_option linter.unusedVariables false
set_option maxRecDepth 1000000
set_option maxHeartbeats 4000000
noncomputable def X93 (x1:aN) (x2:Int):Ctx:=⟨Try.f93,[(.arr 3 (List.map aA x1) 0 0 false),(.row [(.int .i64 x2)])],false⟩
noncomputable def L93_0:Code:=at_ Try.f93 [1,0,1,4,5]
def S93_0 (x1:aN) (x2:Int) (dF:Int):St:=⟨mkT 19 [(0,(.ref 3 0 0 0 x1.length .virt)),(1,(.fn 76 [(.hp 1 0)])),(7,(.int .i64 (nI x1.length))),(8,(.int .i64 dF))],[(.arr 3 (List.map aA x1) 0 0 false),(.row [(.int .i64 x2)])]⟩
def aM3 (x1:aN) (x2:Int):St:=⟨mkT 19 [],[(.arr 3 (List.map aA x1) 0 0 false),(.row [(.int .i64 x2)])]⟩
def O93_0 (x1:aN) (x2:Int) (y:(Sum (Unit) (Int))):GX:=match y with
 | .inl y=>.st (.exit 0) (aM3 x1 x2)
 | .inr y=>.fin (.int .i64 y) [(.arr 3 (List.map aA x1) 0 0 false),(.row [(.int .i64 x2)])]
theorem oN (x1:aN) (x2:Int) (y:(Sum (Unit) (Int))):∀(k:Nat) (dF:Int),dC k x1 x2 dF=some y→LT Try.prog (X93 x1 x2) L93_0 (S93_0 x1 x2 dF) (O93_0 x1 x2 y)
 | 0,dF,h=>by cases h
 | k+1,dF,h=>by
  rw[dC] at h
  by_cases cL0:ltI dF (nI x1.length)=true
  · rw[if_pos cL0] at h
    by_cases cL1:inI dF x1.length=true
    · rw[if_pos cL1] at h
      obtain⟨jQ,eL2,h⟩:=bsm h
      by_cases cL3:eqI jQ.2.1 x2=true
      · rw[if_pos cL3] at h
        obtain rfl:=osi h
        show LT _ _ _ _ (.fin (.int .i64 dF) [(.arr 3 (List.map aA x1) 0 0 false),(.row [(.int .i64 x2)])])
        exact LT.done aK (hs:=⟨[],[],false,[],[]⟩) (es:=none) [dt,.row [(.int .u8 jQ.1),(.int .i64 jQ.2.1),(.bool jQ.2.2)],.call ⟨false,[]⟩ (.bool (eqI jQ.2.1 x2)) [(.row [(.int .i64 x2)])],dt,.norm 0 ⟨[(4,[])],[],false,[],[]⟩] [⟨cL3⟩,⟨(tJ jQ.1 jQ.2.1 jQ.2.2 x2)⟩,⟨(aI (e:=aA) eL2 3 0 3 (by decide))⟩,⟨cL1⟩,⟨cL0⟩] (by kernel_rfl) (fun s h=>by cases h)
      rw[if_neg cL3] at h;replace cL3:=eqf cL3
      exact LT.next aK (hs:=⟨[(0,[]),(1,[]),(7,[]),(8,[])],[],false,[],[]⟩) (es:=none) [dt,.row [(.int .u8 jQ.1),(.int .i64 jQ.2.1),(.bool jQ.2.2)],.call ⟨false,[]⟩ (.bool (eqI jQ.2.1 x2)) [(.row [(.int .i64 x2)])],df] [⟨cL3⟩,⟨(tJ jQ.1 jQ.2.1 jQ.2.2 x2)⟩,⟨(aI (e:=aA) eL2 3 0 3 (by decide))⟩,⟨cL1⟩,⟨cL0⟩] (by kernel_rfl) (oN x1 x2 y k (aO .i64 dF 1) h)
    rw[if_neg cL1] at h;replace cL1:=eqf cL1
    cases h
  rw[if_neg cL0] at h;replace cL0:=eqf cL0
  obtain rfl:=osi h
  show LT _ _ _ _ (.st (.exit 0) (aM3 x1 x2))
  exact LT.done aK (hs:=⟨[],[],false,[],[]⟩) (es:=(some ⟨[],[],false,[],[]⟩)) [df] [⟨cL0⟩] (by kernel_rfl) (fun s h=>by cases h)
theorem rB (k:Nat) (x1:aN) (x2:Int) (r:Int) (h:lM k x1 x2=some r):Tri Try.prog 93 [(.ref 3 0 0 0 x1.length .virt),(.fn 76 [(.hp 1 0)])] [(.arr 3 (List.map aA x1) 0 0 false),(.row [(.int .i64 x2)])] (.int .i64 r) [(.arr 3 (List.map aA x1) 0 0 false),(.row [(.int .i64 x2)])]:=by
 unfold lM at h
 obtain⟨x3,e0,h⟩:=bsm h
 cases x3 with
 | inl x4 =>
  simp only[Sum.elim_inl] at h
  obtain rfl:=osi h
  exact Tri.of (x:=(X93 x1 x2)) aK aSA [.norm 2 ⟨[(0,[]),(1,[]),(7,[]),(8,[])],[],false,[],[]⟩,.out (.st .normal (aM3 x1 x2)),.norm 0 ⟨[(4,[])],[],false,[],[]⟩] [⟨(LT.block (oN x1 x2 _ k 0 e0))⟩] (by kernel_rfl)
 | inr x4 =>
  simp only[Sum.elim_inr] at h
  obtain rfl:=osi h
  exact Tri.of (x:=(X93 x1 x2)) aK aSA [.norm 2 ⟨[(0,[]),(1,[]),(7,[]),(8,[])],[],false,[],[]⟩,.out (.fin (.int .i64 x4) [(.arr 3 (List.map aA x1) 0 0 false),(.row [(.int .i64 x2)])])] [⟨(LT.blockFin (id:=0) (oN x1 x2 _ k 0 e0))⟩] (by kernel_rfl)
end Go.Ws

namespace Go.Ws
open Go.Proofs
set_option linter.unusedSimpArgs false
set_option linter.unusedVariables false
set_option maxRecDepth 1000000
set_option maxHeartbeats 4000000
noncomputable def X75 (x1:aN) (x2:Int):Ctx:=⟨Try.f75,[(.arr 3 (List.map aA x1) 0 0 false),(.row [(.int .i64 x2)])],false⟩
noncomputable def L75_0:Code:=at_ Try.f75 [1,1,1,0,1,4,5]
def S75_0 (x1:aN) (x2:Int) (dG:Int) (cP:Int) (dH:aN):St:=⟨mkT 42 [(0,(.ref 3 0 0 0 x1.length .virt)),(1,(.fn 76 [(.hp 1 0)])),(5,(.int .i64 cP)),(6,(.int .i64 dG))],[(.arr 3 (List.map aA dH) 0 0 false),(.row [(.int .i64 x2)])]⟩
def aIM (x1:aN) (x2:Int) (v75002_1:Int) (v75002_2:aN):St:=⟨mkT 42 [(0,(.ref 3 0 0 0 x1.length .virt)),(5,(.int .i64 v75002_1))],[(.arr 3 (List.map aA v75002_2) 0 0 false),(.row [(.int .i64 x2)])]⟩
def O75_0 (x1:aN) (x2:Int) (y:(Int × aN)):GX:=.st (.exit 0) (aIM x1 x2 y.1 y.2)
def A75_0 (x1:aN) (x2:Int) (x3:Int):Ans:=.call ⟨false,[]⟩ (.int .i64 x3) [(.arr 3 (List.map aA x1) 0 0 false),(.row [(.int .i64 x2)])]
theorem kQ (x1:aN) (x2:Int) (y:(Int × aN)):∀(k:Nat) (dG:Int) (cP:Int) (dH:aN),cH k x1 x2 dG cP dH=some y→LT Try.prog (X75 x1 x2) L75_0 (S75_0 x1 x2 dG cP dH) (O75_0 x1 x2 y)
 | 0,dG,cP,dH,h=>by cases h
 | k+1,dG,cP,dH,h=>by
  rw[cH] at h
  by_cases cL0:ltI dG (nI x1.length)=true
  · rw[if_pos cL0] at h
    by_cases cL1:inI dG x1.length=true
    · rw[if_pos cL1] at h
      obtain⟨fY,eL2,h⟩:=bsm h
      by_cases cL3:eqI fY.2.1 x2=true
      · rw[if_pos cL3] at h
        exact LT.next aK (hs:=⟨[(0,[]),(1,[]),(5,[]),(6,[])],[],false,[],[]⟩) (es:=none) [dt,.row [(.int .u8 fY.1),(.int .i64 fY.2.1),(.bool fY.2.2)],.call ⟨false,[]⟩ (.bool (eqI fY.2.1 x2)) [(.row [(.int .i64 x2)])],df] [⟨(nF cL3)⟩,⟨(tJ fY.1 fY.2.1 fY.2.2 x2)⟩,⟨(aI (e:=aA) eL2 3 0 3 (by decide))⟩,⟨cL1⟩,⟨cL0⟩] (by kernel_rfl) (kQ x1 x2 y k (aO .i64 dG 1) cP dH h)
      rw[if_neg cL3] at h;replace cL3:=eqf cL3
      by_cases cL4:inI cP x1.length=true
      · rw[if_pos cL4] at h
        obtain⟨aQH,eL5,h⟩:=bsm h
        exact LT.next aK (hs:=⟨[(0,[]),(1,[]),(5,[]),(6,[])],[],false,[],[]⟩) (es:=none) [dt,.row [(.int .u8 fY.1),(.int .i64 fY.2.1),(.bool fY.2.2)],.call ⟨false,[]⟩ (.bool (eqI fY.2.1 x2)) [(.row [(.int .i64 x2)])],dt,.rows (List.map aA (List.set dH (tN cP) fY))] [⟨(s4 (e:=aA) eL5 0 [(.int .u8 fY.1),(.int .i64 fY.2.1),(.bool fY.2.2)] fY rfl)⟩,⟨cL4⟩,⟨(nT cL3)⟩,⟨(tJ fY.1 fY.2.1 fY.2.2 x2)⟩,⟨(aI (e:=aA) eL2 3 0 3 (by decide))⟩,⟨cL1⟩,⟨cL0⟩] (by kernel_rfl) (kQ x1 x2 y k (aO .i64 dG 1) (aO .i64 cP 1) (List.set dH (tN cP) fY) h)
      rw[if_neg cL4] at h;replace cL4:=eqf cL4
      cases h
    rw[if_neg cL1] at h;replace cL1:=eqf cL1
    cases h
  rw[if_neg cL0] at h;replace cL0:=eqf cL0
  obtain rfl:=osi h
  show LT _ _ _ _ (.st (.exit 0) (aIM x1 x2 cP dH))
  exact LT.done aK (hs:=⟨[],[],false,[],[]⟩) (es:=(some ⟨[(0,[]),(5,[])],[],false,[],[]⟩)) [df] [⟨cL0⟩] (by kernel_rfl) (fun s h=>by cases h)
theorem aCH (k:Nat) (x1:aN) (x2:Int) (r:Nat × aN) (h:kU k x1 x2=some r):Tri Try.prog 75 [(.ref 3 0 0 0 x1.length .virt),(.fn 76 [(.hp 1 0)])] [(.arr 3 (List.map aA x1) 0 0 false),(.row [(.int .i64 x2)])] (.ref 3 0 0 0 r.1 .virt) [(.arr 3 (List.map aA r.2) 0 0 false),(.row [(.int .i64 x2)])]:=by
 unfold kU at h
 obtain⟨x3,e0,h⟩:=bsm h
 by_cases c1:eqI x3 (-1)=true
 · rw[if_pos c1] at h
   obtain rfl:=osi h
   exact Tri.of (x:=(X75 x1 x2)) aK aOI [(A75_0 x1 x2 x3),dt,.norm 0 ⟨[(4,[])],[],false,[],[]⟩] [⟨c1⟩,⟨(rB k x1 x2 _ e0)⟩] (by kernel_rfl)
 rw[if_neg c1] at h;replace c1:=eqf c1
 obtain⟨x5,e2,h⟩:=bsm h
 by_cases c4:isZ x1.length=true
 · rw[if_pos c4] at h
   cases h
 rw[if_neg c4] at h;replace c4:=eqf c4
 by_cases c5:v6 x1.length x5.2.length=true
 · rw[if_pos c5] at h
   by_cases c6:leI x5.1 x1.length=true
   · rw[if_pos c6] at h
     by_cases c7:isZ (x1.length - (tN x5.1))=true
     · rw[if_pos c7] at h
       by_cases c8:leI x5.1 x5.2.length=true
       · rw[if_pos c8] at h
         obtain rfl:=osi h
         exact Tri.of (x:=(X75 x1 x2)) aK aOI [(A75_0 x1 x2 x3),df,.norm 2 ⟨[(0,[]),(1,[]),(5,[]),(6,[])],[],false,[],[]⟩,.out (.st .normal (aIM x1 x2 x5.1 x5.2)),df,.n x5.2.length,.n x5.2.length,.n (tN x5.1),.n (x1.length - (tN x5.1)),dt,df,.n x5.2.length,.n x5.2.length,.n 0,.n (tN x5.1),.norm 0 ⟨[(4,[])],[],false,[],[]⟩] [⟨(rfl:(tN x5.1) - 0=tN x5.1)⟩,⟨((Nat.zero_add _):0+0=0)⟩,⟨c8⟩,⟨(rfl:x5.2.length - 0=x5.2.length)⟩,⟨(aIZ ((aG7 c5):x1.length≤x5.2.length))⟩,⟨(aG aA x5.2)⟩,⟨c4⟩,⟨c7⟩,⟨(rfl:x1.length - (tN x5.1)=x1.length - (tN x5.1))⟩,⟨((Nat.zero_add _):0+(tN x5.1)=tN x5.1)⟩,⟨c6⟩,⟨(rfl:x5.2.length - 0=x5.2.length)⟩,⟨(aIZ ((aG7 c5):x1.length≤x5.2.length))⟩,⟨(aG aA x5.2)⟩,⟨c4⟩,⟨(LT.block (kQ x1 x2 _ k (aO .i64 x3 1) x3 x1 e2))⟩,⟨c1⟩,⟨(rB k x1 x2 _ e0)⟩] (by kernel_rfl)
       rw[if_neg c8] at h;replace c8:=eqf c8
       cases h
     rw[if_neg c7] at h;replace c7:=eqf c7
     by_cases c8:v6 (tN x5.1+(x1.length - (tN x5.1))) x5.2.length=true
     · rw[if_pos c8] at h
       by_cases c9:v6 (tN x5.1) x5.2.length=true
       · rw[if_pos c9] at h
         by_cases c10:v6 x1.length ((((List.take (tN x5.1) x5.2)++(List.replicate (x1.length - (tN x5.1)) (0,0,false)))++(List.drop (tN x5.1+(x1.length - (tN x5.1))) x5.2)).length)=true
         · rw[if_pos c10] at h
           by_cases c11:leI x5.1 ((((List.take (tN x5.1) x5.2)++(List.replicate (x1.length - (tN x5.1)) (0,0,false)))++(List.drop (tN x5.1+(x1.length - (tN x5.1))) x5.2)).length)=true
           · rw[if_pos c11] at h
             obtain rfl:=osi h
             exact Tri.of (x:=(X75 x1 x2)) aK aOI [(A75_0 x1 x2 x3),df,.norm 2 ⟨[(0,[]),(1,[]),(5,[]),(6,[])],[],false,[],[]⟩,.out (.st .normal (aIM x1 x2 x5.1 x5.2)),df,.n x5.2.length,.n x5.2.length,.n (tN x5.1),.n (x1.length - (tN x5.1)),df,.rows (List.map aA (((List.take (tN x5.1) x5.2)++(List.replicate (x1.length - (tN x5.1)) (0,0,false)))++(List.drop (tN x5.1+(x1.length - (tN x5.1))) x5.2))),df,.n ((((List.take (tN x5.1) x5.2)++(List.replicate (x1.length - (tN x5.1)) (0,0,false)))++(List.drop (tN x5.1+(x1.length - (tN x5.1))) x5.2)).length),.n ((((List.take (tN x5.1) x5.2)++(List.replicate (x1.length - (tN x5.1)) (0,0,false)))++(List.drop (tN x5.1+(x1.length - (tN x5.1))) x5.2)).length),.n 0,.n (tN x5.1),.norm 0 ⟨[(4,[])],[],false,[],[]⟩] [⟨(rfl:(tN x5.1) - 0=tN x5.1)⟩,⟨((Nat.zero_add _):0+0=0)⟩,⟨c11⟩,⟨(rfl:((((List.take (tN x5.1) x5.2)++(List.replicate (x1.length - (tN x5.1)) (0,0,false)))++(List.drop (tN x5.1+(x1.length - (tN x5.1))) x5.2)).length) - 0=(((List.take (tN x5.1) x5.2)++(List.replicate (x1.length - (tN x5.1)) (0,0,false)))++(List.drop (tN x5.1+(x1.length - (tN x5.1))) x5.2)).length)⟩,⟨(aIZ ((aG7 c10):x1.length≤(((List.take (tN x5.1) x5.2)++(List.replicate (x1.length - (tN x5.1)) (0,0,false)))++(List.drop (tN x5.1+(x1.length - (tN x5.1))) x5.2)).length))⟩,⟨(aG aA (((List.take (tN x5.1) x5.2)++(List.replicate (x1.length - (tN x5.1)) (0,0,false)))++(List.drop (tN x5.1+(x1.length - (tN x5.1))) x5.2)))⟩,⟨c4⟩,⟨(aTT aA x5.2 (tN x5.1) (x1.length - (tN x5.1)) (0,0,false))⟩,⟨(le_mapI aA (aG7 c8))⟩,⟨c7⟩,⟨(rfl:x1.length - (tN x5.1)=x1.length - (tN x5.1))⟩,⟨((Nat.zero_add _):0+(tN x5.1)=tN x5.1)⟩,⟨c6⟩,⟨(rfl:x5.2.length - 0=x5.2.length)⟩,⟨(aIZ ((aG7 c5):x1.length≤x5.2.length))⟩,⟨(aG aA x5.2)⟩,⟨c4⟩,⟨(LT.block (kQ x1 x2 _ k (aO .i64 x3 1) x3 x1 e2))⟩,⟨c1⟩,⟨(rB k x1 x2 _ e0)⟩] (by kernel_rfl)
           rw[if_neg c11] at h;replace c11:=eqf c11
           cases h
         rw[if_neg c10] at h;replace c10:=eqf c10
         cases h
       rw[if_neg c9] at h;replace c9:=eqf c9
       cases h
     rw[if_neg c8] at h;replace c8:=eqf c8
     cases h
   rw[if_neg c6] at h;replace c6:=eqf c6
   cases h
 rw[if_neg c5] at h;replace c5:=eqf c5
 cases h
end Go.Ws

namespace Go.Ws
open Go.Proofs
set_option linter.unusedSimpArgs false
set_option linter.unusedVariables false
set_option maxRecDepth 1000000
set_option maxHeartbeats 4000000
noncomputable def X52:Ctx:=⟨Try.f52,[],true⟩
theorem mQ (k:Nat) (x1:aN) (x2:Int) (r:aN) (h:lK k x1 x2=some r):Tri Try.prog 52 [(.sl 3 (List.map aA x1)),(.int .i64 x2)] [] (.sl 3 (List.map aA r)) []:=by
 unfold lK at h
 obtain⟨x3,e0,h⟩:=bsm h
 obtain⟨x4,e1,h⟩:=bsm h
 by_cases c2:v6 x4.1 x4.2.length=true
 · rw[if_pos c2] at h
   obtain rfl:=osi h
   exact Tri.of (x:=X52) aK facts52 [.call ⟨true,[]⟩ (.ref 3 0 0 0 x1.length .virt) [(.arr 3 (List.map aA x1) 0 0 false)],.call ⟨false,[]⟩ (.ref 3 0 0 0 x4.1 .virt) [(.arr 3 (List.map aA x4.2) 0 0 false),(.row [(.int .i64 x2)])],.rows (List.map aA (List.take x4.1 x4.2))] [⟨(aTS aA x4.2 x4.1)⟩,⟨(a9 aA (aG7 c2))⟩,⟨(aCH k x1 x2 _ e1)⟩,⟨(kY k x1 _ e0)⟩] (by kernel_rfl)
 rw[if_neg c2] at h;replace c2:=eqf c2
 cases h
end Go.Ws

namespace Go.Ws
open Go.Proofs
set_option linter.unusedSimpArgs false
set_option linter.unusedVariables false
set_option maxRecDepth 1000000
set_option maxHeartbeats 4000000
noncomputable def X70_1001:Ctx:=⟨Try.f70,[],false⟩
theorem aAM (k:Nat) (x1:aL) (r:Unit) (h:i9 k x1=some r):Tri Try.prog 70 [(.inl 2 (List.map aC x1))] [] (.ref 2 0 0 0 x1.length .virt) [(.arr 2 (List.map aC x1) 0 0 false)]:=by
 unfold i9 at h
 by_cases c0:bB (x1.length*16)=true
 · rw[if_pos c0] at h
   obtain rfl:=osi h
   exact Tri.of (x:=X70_1001) aK aSB [df,.n x1.length,.norm 0 ⟨[(2,[])],[⟨.tmp 2,[],some 2⟩],false,[],[]⟩,.n x1.length,.rows (List.map aC x1)] [⟨(bL aC (l:=x1) (n:=x1.length) rfl)⟩,⟨(rfl:x1.length=x1.length)⟩,⟨(zle x1.length)⟩,⟨c0⟩,⟨(aG aC x1)⟩,⟨rF⟩] (by kernel_rfl)
 rw[if_neg c0] at h;replace c0:=eqf c0
 cases h
end Go.Ws

namespace Go.Ws
open Go.Proofs
set_option linter.unusedSimpArgs false
set_option linter.unusedVariables false
set_option maxRecDepth 1000000
set_option maxHeartbeats 4000000
noncomputable def X70_1002:Ctx:=⟨Try.f70,[],false⟩
theorem z4:Tri Try.prog 70 [.nils] [] (.ref 2 0 0 0 0 .virt) [(.arr 2 (List.map aC []) 0 0 false)]:=by
 obtain⟨r,h⟩:∃r,qD=r:=⟨_,rfl⟩
 try rw[h]
 unfold qD at h
 obtain rfl:=h
 exact Tri.of (x:=X70_1002) aK aSB [dt,.norm 0 ⟨[(2,[])],[⟨.tmp 2,[],some 2⟩],false,[],[]⟩,.n 0,.rows (List.map aC [])] [⟨(bL aC (l:=[]) (n:=0) rfl)⟩,⟨(rfl:0=0)⟩,⟨(zle 0)⟩,⟨rT⟩] (by kernel_rfl)
end Go.Ws

namespace Go.Ws
open Go.Proofs
set_option linter.unusedSimpArgs false
set_option linter.unusedVariables false
set_option maxRecDepth 1000000
set_option maxHeartbeats 4000000
theorem r7 (k:Nat) (x1:aL) (r:Unit) (h:oX k x1=some r):Tri Try.prog 70 [(.sl 2 (List.map aC x1))] [] (.ref 2 0 0 0 x1.length .virt) [(.arr 2 (List.map aC x1) 0 0 false)]:=by
 refine Tri.slOf (aAM k x1 r h) fun h0=>?_
 have hx:x1=[]:=by simpa using h0
 subst hx
 exact z4
end Go.Ws

namespace Go.Ws
open Go.Proofs
set_option linter.unusedSimpArgs false
set_option linter.unusedVariables false
set_option maxRecDepth 1000000
set_option maxHeartbeats 4000000
noncomputable def X71:Ctx:=⟨Try.f71,[],true⟩
noncomputable def L71_0:Code:=at_ Try.f71 [1,0,1,4,5]
def S71_0 (x1:aL) (b8:Int):St:=⟨mkT 36 [(0,(.sl 2 (List.map aC x1))),(5,(.sl 2 (List.map aC x1))),(6,(.int .i64 (nI x1.length))),(7,(.int .i64 b8))],[]⟩
def aNU:St:=⟨mkT 36 [],[]⟩
def O71_0 (x1:aL) (y:pO):GX:=match y with
 | .inl y=>.st (.exit 0) (aNU)
 | .inr y=>.fin (.bool y) []
def aPN (jR:Int × Int):Ans:=.row [(.int .u8 jR.1),(.int .i64 jR.2)]
theorem oM (x1:aL) (y:pO):∀(k:Nat) (b8:Int),eU k x1 b8=some y→LT Try.prog X71 L71_0 (S71_0 x1 b8) (O71_0 x1 y)
 | 0,b8,h=>by cases h
 | k+1,b8,h=>by
  rw[eU] at h
  by_cases cL0:ltI b8 (nI x1.length)=true
  · rw[if_pos cL0] at h
    by_cases cL1:inI b8 x1.length=true
    · rw[if_pos cL1] at h
      obtain⟨jR,eL2,h⟩:=bsm h
      by_cases cL3:ltI jR.1 64=true
      · rw[if_pos cL3] at h
        by_cases cL4:eqI jR.2 0=true
        · rw[if_pos cL4] at h
          obtain rfl:=osi h
          show LT _ _ _ _ (.fin (.bool false) [])
          exact LT.done aK (hs:=⟨[],[],false,[],[]⟩) (es:=none) [dt,.n x1.length,(aPN jR),df,df,df,df,dt,dt,dt,dt,dt,dt] [⟨rT⟩,⟨cL4⟩,⟨cL4⟩,⟨cL4⟩,⟨cL4⟩,⟨cL4⟩,⟨(nF cL3)⟩,⟨(nF cL3)⟩,⟨(nF cL3)⟩,⟨(nF cL3)⟩,⟨(aI (e:=aC) eL2 2 0 2 (by decide))⟩,⟨cL1⟩,⟨(aG aC x1)⟩,⟨cL0⟩] (by kernel_rfl) (fun s h=>by cases h)
        rw[if_neg cL4] at h;replace cL4:=eqf cL4
        by_cases cL5:ltI 0 b8=true
        · rw[if_pos cL5] at h
          by_cases cL6:inI (pN .i64 b8 1) x1.length=true
          · rw[if_pos cL6] at h
            obtain⟨yB,eL7,h⟩:=bsm h
            by_cases cL8:ltI yB.1 jR.1=true
            · rw[if_pos cL8] at h
              exact LT.next aK (hs:=⟨[(0,[]),(5,[]),(6,[]),(7,[])],[],false,[],[]⟩) (es:=none) [dt,.n x1.length,(aPN jR),df,df,df,df,df,df,df,dt,dt,dt,dt,.n x1.length,dt,dt,.row [(.int .u8 yB.1)],dt,dt,dt,df,dt,df,df] [⟨(nF cL8)⟩,⟨cL4⟩,⟨cL5⟩,⟨cL4⟩,⟨cL5⟩,⟨cL5⟩,⟨cL5⟩,⟨(aI (e:=aC) eL7 2 0 1 (by decide))⟩,⟨cL5⟩,⟨cL5⟩,⟨cL6⟩,⟨(aG aC x1)⟩,⟨cL5⟩,⟨cL5⟩,⟨cL5⟩,⟨cL5⟩,⟨cL4⟩,⟨cL4⟩,⟨cL4⟩,⟨(nF cL3)⟩,⟨(nF cL3)⟩,⟨(nF cL3)⟩,⟨(nF cL3)⟩,⟨(aI (e:=aC) eL2 2 0 2 (by decide))⟩,⟨cL1⟩,⟨(aG aC x1)⟩,⟨cL0⟩] (by kernel_rfl) (oM x1 y k (aO .i64 b8 1) h)
            rw[if_neg cL8] at h;replace cL8:=eqf cL8
            obtain rfl:=osi h
            show LT _ _ _ _ (.fin (.bool false) [])
            exact LT.done aK (hs:=⟨[],[],false,[],[]⟩) (es:=none) [dt,.n x1.length,(aPN jR),df,df,df,df,df,df,df,dt,dt,dt,dt,.n x1.length,dt,dt,.row [(.int .u8 yB.1)],dt,dt,dt,df,dt,df,dt] [⟨(nT cL8)⟩,⟨cL4⟩,⟨cL5⟩,⟨cL4⟩,⟨cL5⟩,⟨cL5⟩,⟨cL5⟩,⟨(aI (e:=aC) eL7 2 0 1 (by decide))⟩,⟨cL5⟩,⟨cL5⟩,⟨cL6⟩,⟨(aG aC x1)⟩,⟨cL5⟩,⟨cL5⟩,⟨cL5⟩,⟨cL5⟩,⟨cL4⟩,⟨cL4⟩,⟨cL4⟩,⟨(nF cL3)⟩,⟨(nF cL3)⟩,⟨(nF cL3)⟩,⟨(nF cL3)⟩,⟨(aI (e:=aC) eL2 2 0 2 (by decide))⟩,⟨cL1⟩,⟨(aG aC x1)⟩,⟨cL0⟩] (by kernel_rfl) (fun s h=>by cases h)
          rw[if_neg cL6] at h;replace cL6:=eqf cL6
          cases h
        rw[if_neg cL5] at h;replace cL5:=eqf cL5
        exact LT.next aK (hs:=⟨[(0,[]),(5,[]),(6,[]),(7,[])],[],false,[],[]⟩) (es:=none) [dt,.n x1.length,(aPN jR),df,df,df,df,df,df,df,df,df,df,df,df,df,df,df,df,df,df,df,df] [⟨rF⟩,⟨cL4⟩,⟨cL5⟩,⟨cL4⟩,⟨cL5⟩,⟨cL5⟩,⟨cL5⟩,⟨cL5⟩,⟨cL5⟩,⟨cL5⟩,⟨cL5⟩,⟨cL5⟩,⟨cL5⟩,⟨cL4⟩,⟨cL4⟩,⟨cL4⟩,⟨(nF cL3)⟩,⟨(nF cL3)⟩,⟨(nF cL3)⟩,⟨(nF cL3)⟩,⟨(aI (e:=aC) eL2 2 0 2 (by decide))⟩,⟨cL1⟩,⟨(aG aC x1)⟩,⟨cL0⟩] (by kernel_rfl) (oM x1 y k (aO .i64 b8 1) h)
      rw[if_neg cL3] at h;replace cL3:=eqf cL3
      obtain rfl:=osi h
      show LT _ _ _ _ (.fin (.bool false) [])
      exact LT.done aK (hs:=⟨[],[],false,[],[]⟩) (es:=none) [dt,.n x1.length,(aPN jR),dt,dt,dt,dt,dt,dt,dt,dt,dt,dt] [⟨rT⟩,⟨rT⟩,⟨rT⟩,⟨rT⟩,⟨rT⟩,⟨rT⟩,⟨(nT cL3)⟩,⟨(nT cL3)⟩,⟨(nT cL3)⟩,⟨(nT cL3)⟩,⟨(aI (e:=aC) eL2 2 0 2 (by decide))⟩,⟨cL1⟩,⟨(aG aC x1)⟩,⟨cL0⟩] (by kernel_rfl) (fun s h=>by cases h)
    rw[if_neg cL1] at h;replace cL1:=eqf cL1
    cases h
  rw[if_neg cL0] at h;replace cL0:=eqf cL0
  obtain rfl:=osi h
  show LT _ _ _ _ (.st (.exit 0) (aNU))
  exact LT.done aK (hs:=⟨[],[],false,[],[]⟩) (es:=(some ⟨[],[],false,[],[]⟩)) [df] [⟨cL0⟩] (by kernel_rfl) (fun s h=>by cases h)
theorem vY (k:Nat) (x1:aL) (r:Bool) (h:qR k x1=some r):Tri Try.prog 71 [(.sl 2 (List.map aC x1))] [] (.bool r) []:=by
 unfold qR at h
 obtain⟨x2,e0,h⟩:=bsm h
 cases x2 with
 | inl x3 =>
  simp only[Sum.elim_inl] at h
  obtain rfl:=osi h
  exact Tri.of (x:=X71) aK aS6 [.n x1.length,.norm 2 ⟨[(0,[]),(5,[]),(6,[]),(7,[])],[],false,[],[]⟩,.out (.st .normal (aNU))] [⟨(LT.block (oM x1 _ k 0 e0))⟩,⟨(aG aC x1)⟩] (by kernel_rfl)
 | inr x3 =>
  simp only[Sum.elim_inr] at h
  obtain rfl:=osi h
  exact Tri.of (x:=X71) aK aS6 [.n x1.length,.norm 2 ⟨[(0,[]),(5,[]),(6,[]),(7,[])],[],false,[],[]⟩,.out (.fin (.bool x3) [])] [⟨(LT.blockFin (id:=0) (oM x1 _ k 0 e0))⟩,⟨(aG aC x1)⟩] (by kernel_rfl)
end Go.Ws

namespace Go.Ws
open Go.Proofs
set_option linter.unusedSimpArgs false
set_option linter.unusedVariables false
set_option maxRecDepth 1000000
set_option maxHeartbeats 4000000
noncomputable def X69:Ctx:=⟨Try.f69,[],false⟩
theorem aBM (x1:Int) (x2:Int):Tri Try.prog 69 [(.agg [(.int .u8 x1),(.int .i64 x2)])] [] (.bool (!ltI x1 64)) []:=by
 obtain⟨r,h⟩:∃r,aAU x1 x2=r:=⟨_,rfl⟩
 try rw[h]
 unfold aAU at h
 obtain rfl:=h
 exact Tri.of (x:=X69) aK facts69 [.norm 0 ⟨[(2,[])],[],false,[],[]⟩] [] (by kernel_rfl)
end Go.Ws

namespace Go.Ws
open Go.Proofs
set_option linter.unusedSimpArgs false
set_option linter.unusedVariables false
set_option maxRecDepth 1000000
set_option maxHeartbeats 4000000
noncomputable def X60:Ctx:=⟨Try.f60,[],true⟩
noncomputable def L60_0:Code:=at_ Try.f60 [1,0,1,4,5]
def S60_0 (x1:aL) (dI:Int):St:=⟨mkT 19 [(0,(.sl 2 (List.map aC x1))),(1,(.fn 69 [])),(7,(.int .i64 (nI x1.length))),(8,(.int .i64 dI))],[]⟩
def aOE:St:=⟨mkT 19 [],[]⟩
def O60_0 (x1:aL) (y:(Sum (Unit) (Int))):GX:=match y with
 | .inl y=>.st (.exit 0) (aOE)
 | .inr y=>.fin (.int .i64 y) []
theorem mF (x1:aL) (y:(Sum (Unit) (Int))):∀(k:Nat) (dI:Int),cB k x1 dI=some y→LT Try.prog X60 L60_0 (S60_0 x1 dI) (O60_0 x1 y)
 | 0,dI,h=>by cases h
 | k+1,dI,h=>by
  rw[cB] at h
  by_cases cL0:ltI dI (nI x1.length)=true
  · rw[if_pos cL0] at h
    by_cases cL1:inI dI x1.length=true
    · rw[if_pos cL1] at h
      obtain⟨l9,eL2,h⟩:=bsm h
      by_cases cL3:ltI l9.1 64=true
      · rw[if_pos cL3] at h
        exact LT.next aK (hs:=⟨[(0,[]),(1,[]),(7,[]),(8,[])],[],false,[],[]⟩) (es:=none) [dt,.n x1.length,.row [(.int .u8 l9.1),(.int .i64 l9.2)],.call ⟨false,[]⟩ (.bool (!ltI l9.1 64)) [],df] [⟨(nF cL3)⟩,⟨(aBM l9.1 l9.2)⟩,⟨(aI (e:=aC) eL2 2 0 2 (by decide))⟩,⟨cL1⟩,⟨(aG aC x1)⟩,⟨cL0⟩] (by kernel_rfl) (mF x1 y k (aO .i64 dI 1) h)
      rw[if_neg cL3] at h;replace cL3:=eqf cL3
      obtain rfl:=osi h
      show LT _ _ _ _ (.fin (.int .i64 dI) [])
      exact LT.done aK (hs:=⟨[],[],false,[],[]⟩) (es:=none) [dt,.n x1.length,.row [(.int .u8 l9.1),(.int .i64 l9.2)],.call ⟨false,[]⟩ (.bool (!ltI l9.1 64)) [],dt] [⟨(nT cL3)⟩,⟨(aBM l9.1 l9.2)⟩,⟨(aI (e:=aC) eL2 2 0 2 (by decide))⟩,⟨cL1⟩,⟨(aG aC x1)⟩,⟨cL0⟩] (by kernel_rfl) (fun s h=>by cases h)
    rw[if_neg cL1] at h;replace cL1:=eqf cL1
    cases h
  rw[if_neg cL0] at h;replace cL0:=eqf cL0
  obtain rfl:=osi h
  show LT _ _ _ _ (.st (.exit 0) (aOE))
  exact LT.done aK (hs:=⟨[],[],false,[],[]⟩) (es:=(some ⟨[],[],false,[],[]⟩)) [df] [⟨cL0⟩] (by kernel_rfl) (fun s h=>by cases h)
theorem aBC (k:Nat) (x1:aL) (r:Int) (h:jS k x1=some r):Tri Try.prog 60 [(.sl 2 (List.map aC x1)),(.fn 69 [])] [] (.int .i64 r) []:=by
 unfold jS at h
 obtain⟨x2,e0,h⟩:=bsm h
 cases x2 with
 | inl x3 =>
  simp only[Sum.elim_inl] at h
  obtain rfl:=osi h
  exact Tri.of (x:=X60) aK aIX [.n x1.length,.norm 2 ⟨[(0,[]),(1,[]),(7,[]),(8,[])],[],false,[],[]⟩,.out (.st .normal (aOE))] [⟨(LT.block (mF x1 _ k 0 e0))⟩,⟨(aG aC x1)⟩] (by kernel_rfl)
 | inr x3 =>
  simp only[Sum.elim_inr] at h
  obtain rfl:=osi h
  exact Tri.of (x:=X60) aK aIX [.n x1.length,.norm 2 ⟨[(0,[]),(1,[]),(7,[]),(8,[])],[],false,[],[]⟩,.out (.fin (.int .i64 x3) [])] [⟨(LT.blockFin (id:=0) (mF x1 _ k 0 e0))⟩,⟨(aG aC x1)⟩] (by kernel_rfl)
end Go.Ws

namespace Go.Ws
open Go.Proofs
set_option linter.unusedSimpArgs false
set_option linter.unusedVariables false
set_option maxRecDepth 1000000
set_option maxHeartbeats 4000000
noncomputable def X42:Ctx:=⟨Try.f42,[],true⟩
theorem tL (k:Nat) (x1:aL) (r:Bool) (h:jU k x1=some r):Tri Try.prog 42 [(.sl 2 (List.map aC x1)),(.fn 69 [])] [] (.bool r) []:=by
 unfold jU at h
 obtain⟨x2,e0,h⟩:=bsm h
 obtain rfl:=osi h
 exact Tri.of (x:=X42) aK aR6 [.call ⟨true,[]⟩ (.int .i64 x2) []] [⟨(aBC k x1 _ e0)⟩] (by kernel_rfl)
end Go.Ws

namespace Go.Ws
open Go.Proofs
set_option linter.unusedSimpArgs false
set_option linter.unusedVariables false
set_option maxRecDepth 1000000
set_option maxHeartbeats 4000000
noncomputable def X90:Ctx:=⟨Try.f90,[],false⟩
theorem uP (x1:Int) (x2:Int) (x3:Int):Tri Try.prog 90 [(.agg [(.int .u8 x1),(.int .i64 x2)]),(.int .u8 x3)] [] (.int .i64 (bM x1 x3)) []:=by
 obtain⟨r,h⟩:∃r,zC x1 x2 x3=r:=⟨_,rfl⟩
 try rw[h]
 unfold zC at h
 obtain rfl:=h
 exact Tri.of (x:=X90) aK facts90 [.call ⟨true,[]⟩ (.int .i64 (bM x1 x3)) [],.norm 0 ⟨[(4,[])],[],false,[],[]⟩] [⟨(aB1 x1 x3)⟩] (by kernel_rfl)
end Go.Ws

namespace Go.Ws
open Go.Proofs
set_option linter.unusedSimpArgs false
set_option linter.unusedVariables false
set_option maxRecDepth 1000000
set_option maxHeartbeats 4000000
noncomputable def X89:Ctx:=⟨Try.f89,[],true⟩
noncomputable def L89_0:Code:=at_ Try.f89 [1,1,1,0,4,5]
def S89_0 (x1:aL) (x2:Int) (cJ:Int) (cU:Int):St:=⟨mkT 49 [(0,(.sl 2 (List.map aC x1))),(1,(.int .u8 x2)),(2,(.fn 90 [])),(8,(.int .i64 (nI x1.length))),(9,(.int .i64 cJ)),(10,(.int .i64 cU))],[]⟩
def aIE (x1:aL) (x2:Int) (v89002_1:Int):St:=⟨mkT 49 [(0,(.sl 2 (List.map aC x1))),(1,(.int .u8 x2)),(2,(.fn 90 [])),(8,(.int .i64 (nI x1.length))),(9,(.int .i64 v89002_1))],[]⟩
def O89_0 (x1:aL) (x2:Int) (y:(Int)):GX:=.st (.exit 0) (aIE x1 x2 y)
def A89_0:Ans:=.norm 2 ⟨[(0,[]),(1,[]),(2,[]),(8,[]),(9,[]),(10,[])],[],false,[],[]⟩
theorem gT (x1:aL) (x2:Int) (y:(Int)):∀(k:Nat) (cJ:Int) (cU:Int),bA k x1 x2 cJ cU=some y→LT Try.prog X89 L89_0 (S89_0 x1 x2 cJ cU) (O89_0 x1 x2 y)
 | 0,cJ,cU,h=>by cases h
 | k+1,cJ,cU,h=>by
  rw[bA] at h
  by_cases cL0:ltI cJ cU=true
  · rw[if_pos cL0] at h
    by_cases cL1:inI (conv .i64 (vL .u64 (conv .u64 (aO .i64 cJ cU)) 1)) x1.length=true
    · rw[if_pos cL1] at h
      obtain⟨mA,eL2,h⟩:=bsm h
      by_cases cL3:ltI (bM mA.1 x2) 0=true
      · rw[if_pos cL3] at h
        exact LT.next aK (hs:=⟨[(0,[]),(1,[]),(2,[]),(8,[]),(9,[]),(10,[])],[],false,[],[]⟩) (es:=none) [dt,.n x1.length,.row [(.int .u8 mA.1),(.int .i64 mA.2)],.call ⟨false,[]⟩ (.int .i64 (bM mA.1 x2)) [],dt] [⟨cL3⟩,⟨(uP mA.1 mA.2 x2)⟩,⟨(aI (e:=aC) eL2 2 0 2 (by decide))⟩,⟨cL1⟩,⟨(aG aC x1)⟩,⟨cL0⟩] (by kernel_rfl) (gT x1 x2 y k (aO .i64 (conv .i64 (vL .u64 (conv .u64 (aO .i64 cJ cU)) 1)) 1) cU h)
      rw[if_neg cL3] at h;replace cL3:=eqf cL3
      exact LT.next aK (hs:=⟨[(0,[]),(1,[]),(2,[]),(8,[]),(9,[]),(10,[])],[],false,[],[]⟩) (es:=none) [dt,.n x1.length,.row [(.int .u8 mA.1),(.int .i64 mA.2)],.call ⟨false,[]⟩ (.int .i64 (bM mA.1 x2)) [],df] [⟨cL3⟩,⟨(uP mA.1 mA.2 x2)⟩,⟨(aI (e:=aC) eL2 2 0 2 (by decide))⟩,⟨cL1⟩,⟨(aG aC x1)⟩,⟨cL0⟩] (by kernel_rfl) (gT x1 x2 y k cJ (conv .i64 (vL .u64 (conv .u64 (aO .i64 cJ cU)) 1)) h)
    rw[if_neg cL1] at h;replace cL1:=eqf cL1
    cases h
  rw[if_neg cL0] at h;replace cL0:=eqf cL0
  obtain rfl:=osi h
  show LT _ _ _ _ (.st (.exit 0) (aIE x1 x2 cJ))
  exact LT.done aK (hs:=⟨[],[],false,[],[]⟩) (es:=(some ⟨[(0,[]),(1,[]),(2,[]),(8,[]),(9,[])],[],false,[],[]⟩)) [df] [⟨cL0⟩] (by kernel_rfl) (fun s h=>by cases h)
theorem vQ (k:Nat) (x1:aL) (x2:Int) (r:Int × Bool) (h:fX k x1 x2=some r):Tri Try.prog 89 [(.sl 2 (List.map aC x1)),(.int .u8 x2),(.fn 90 [])] [] (.tup [(.int .i64 r.1),(.bool r.2)]) []:=by
 unfold fX at h
 obtain⟨x4,e0,h⟩:=bsm h
 by_cases c2:ltI x4 (nI x1.length)=true
 · rw[if_pos c2] at h
   by_cases c3:inI x4 x1.length=true
   · rw[if_pos c3] at h
     obtain⟨x5,e4,h⟩:=bsm h
     obtain rfl:=osi h
     exact Tri.of (x:=X89) aK aTG [.n x1.length,A89_0,.out (.st .normal (aIE x1 x2 x4)),dt,dt,dt,dt,.n x1.length,dt,.row [(.int .u8 x5.1),(.int .i64 x5.2)],dt,dt,.call ⟨false,[]⟩ (.int .i64 (bM x5.1 x2)) [],dt,dt] [⟨c2⟩,⟨c2⟩,⟨(uP x5.1 x5.2 x2)⟩,⟨c2⟩,⟨c2⟩,⟨(aI (e:=aC) e4 2 0 2 (by decide))⟩,⟨c2⟩,⟨c3⟩,⟨(aG aC x1)⟩,⟨c2⟩,⟨c2⟩,⟨c2⟩,⟨c2⟩,⟨(LT.block (gT x1 x2 _ k 0 (nI x1.length) e0))⟩,⟨(aG aC x1)⟩] (by kernel_rfl)
   rw[if_neg c3] at h;replace c3:=eqf c3
   cases h
 rw[if_neg c2] at h;replace c2:=eqf c2
 obtain rfl:=osi h
 exact Tri.of (x:=X89) aK aTG [.n x1.length,A89_0,.out (.st .normal (aIE x1 x2 x4)),df,df,df,df,df,df,df,df,df] [⟨c2⟩,⟨c2⟩,⟨c2⟩,⟨c2⟩,⟨c2⟩,⟨c2⟩,⟨c2⟩,⟨c2⟩,⟨c2⟩,⟨(LT.block (gT x1 x2 _ k 0 (nI x1.length) e0))⟩,⟨(aG aC x1)⟩] (by kernel_rfl)
end Go.Ws

namespace Go.Ws
open Go.Proofs
set_option linter.unusedSimpArgs false
set_option linter.unusedVariables false
set_option maxRecDepth 1000000
set_option maxHeartbeats 4000000
noncomputable def X72:Ctx:=⟨Try.f72,[],true⟩
theorem tW (k:Nat) (x1:aL) (x2:Int) (r:Int × Bool) (h:sS k x1 x2=some r):Tri Try.prog 72 [(.sl 2 (List.map aC x1)),(.int .u8 x2)] [] (.tup [(.int .i64 r.1),(.bool r.2)]) []:=by
 unfold sS at h
 obtain⟨x3,e0,h⟩:=bsm h
 obtain rfl:=osi h
 exact Tri.of (x:=X72) aK facts72 [.call ⟨true,[]⟩ (.tup [(.int .i64 x3.1),(.bool x3.2)]) []] [⟨(vQ k x1 x2 _ e0)⟩] (by kernel_rfl)
end Go.Ws

namespace Go.Ws
open Go.Proofs
set_option linter.unusedSimpArgs false
set_option linter.unusedVariables false
set_option maxRecDepth 1000000
set_option maxHeartbeats 4000000
theorem aGU (k:Nat) (x1:Int) (x2:Int) (x3:aL) (r:aL) (h:rI k x1 x2 x3=some r):Tri Try.prog 74 [(.ref 2 0 0 0 x3.length .virt),(.int .i64 x1),(.int .i64 x2)] [(.arr 2 (List.map aC x3) 0 0 false)] (.ref 2 0 1 0 r.length .full) [(.arr 2 (List.map aC r) 1 1 false)]:=aP6 _ h
end Go.Ws

namespace Go.Ws
open Go.Proofs
set_option linter.unusedSimpArgs false
set_option linter.unusedVariables false
set_option maxRecDepth 1000000
set_option maxHeartbeats 4000000
theorem wH (k:Nat) (x1:Int) (x2:aL) (x3:aL) (r:aL) (h:nV k x1 x2 x3=some r):Tri Try.prog 73 [(.ref 2 0 0 0 x2.length .virt),(.int .i64 x1),(.ref 2 1 0 0 x3.length .full)] [(.arr 2 (List.map aC x2) 0 0 false),(.arr 2 (List.map aC x3) 0 0 false)] (.ref 2 0 1 0 r.length .full) [(.arr 2 (List.map aC r) 1 1 false),(.arr 2 (List.map aC x3) 0 0 false)]:=ins_ok73 _ h rfl
end Go.Ws

namespace Go.Ws
open Go.Proofs
set_option linter.unusedSimpArgs false
set_option linter.unusedVariables false
set_option maxRecDepth 1000000
set_option maxHeartbeats 4000000
theorem aD5 (k:Nat) (x1:Int) (x2:Int) (x3:aL) (r:aL) (h:o4 k x1 x2 x3=some r):Tri Try.prog 74 [(.ref 2 0 1 0 x3.length .full),(.int .i64 x1),(.int .i64 x2)] [(.arr 2 (List.map aC x3) 1 1 false)] (.ref 2 0 2 0 r.length .full) [(.arr 2 (List.map aC r) 2 2 false)]:=aP6 _ h
end Go.Ws

namespace Go.Ws
open Go.Proofs
set_option linter.unusedSimpArgs false
set_option linter.unusedVariables false
set_option maxRecDepth 1000000
set_option maxHeartbeats 4000000
noncomputable def X51:Ctx:=⟨Try.f51,[],true⟩
noncomputable def L51_0:Code:=at_ Try.f51 [1,1,1,1,0,1,4,5]
def S51_0 (x2:aL) (cK:Int) (aS:aL):St:=⟨mkT 67 [(0,(.ref 2 0 0 0 aS.length .virt)),(22,(.sl 2 (List.map aC x2))),(23,(.int .i64 (nI x2.length))),(24,(.int .i64 cK))],[(.arr 2 (List.map aC aS) 0 0 false)]⟩
def aM2 (aQI:aL):St:=⟨mkT 67 [(0,(.ref 2 0 0 0 aQI.length .virt))],[(.arr 2 (List.map aC aQI) 0 0 false)]⟩
def O51_0 (x2:aL) (y:(aL)):GX:=.st (.exit 0) (aM2 y)
def A51_0 (bC:Int × Int):Ans:=.row [(.int .u8 bC.1),(.int .i64 bC.2)]
def A51_1 (aX:Int × Bool):Ans:=.call ⟨true,[]⟩ (.tup [(.int .i64 aX.1),(.bool aX.2)]) []
def A51_2 (x1:aL):Ans:=.call ⟨true,[]⟩ (.ref 2 0 0 0 x1.length .virt) [(.arr 2 (List.map aC x1) 0 0 false)]
theorem n9 (x2:aL) (y:(aL)):∀(k:Nat) (cK:Int) (aS:aL),fE k x2 cK aS=some y→LT Try.prog X51 L51_0 (S51_0 x2 cK aS) (O51_0 x2 y)
 | 0,cK,aS,h=>by cases h
 | k+1,cK,aS,h=>by
  rw[fE] at h
  by_cases cL0:ltI cK (nI x2.length)=true
  · rw[if_pos cL0] at h
    by_cases cL1:inI cK x2.length=true
    · rw[if_pos cL1] at h
      obtain⟨bC,eL2,h⟩:=bsm h
      obtain⟨aX,eL3,h⟩:=bsm h
      by_cases cL4:aX.2=true
      · rw[if_pos cL4] at h
        by_cases cL5:inI aX.1 aS.length=true
        · rw[if_pos cL5] at h
          obtain⟨aV,eL6,h⟩:=bsm h
          obtain⟨bQ,eL7,h⟩:=bsm h
          by_cases cL8:eqI bQ.2 0=true
          · rw[if_pos cL8] at h
            obtain⟨iG,eL9,h⟩:=bsm h
            exact LT.next aK (hs:=⟨[(0,[]),(22,[]),(23,[]),(24,[])],[⟨.tmp 0,[],some 2⟩],false,[],[]⟩) (es:=none) [dt,.n x2.length,(A51_0 bC),(A51_1 aX),.rows (List.map aC aS),df,.row [(.int .i64 aV.2)],.rows (List.map aC (List.set aS (tN aX.1) (aV.1,aO .i64 aV.2 bC.2))),.row [(.int .i64 bQ.2)],dt,.call ⟨false,[]⟩ (.ref 2 0 1 0 iG.length .full) [(.arr 2 (List.map aC iG) 1 1 false)],.n iG.length,.rows (List.map aC iG)] [⟨(bL aC (l:=iG) (n:=iG.length) rfl)⟩,⟨(rfl:iG.length=iG.length)⟩,⟨(zle iG.length)⟩,⟨(by have hh:=(aGU k aX.1 (aO .i64 aX.1 1) (List.set aS (tN aX.1) (aV.1,aO .i64 aV.2 bC.2)) _ eL9);simp only[List.length_set] at hh;exact hh)⟩,⟨cL8⟩,⟨(aI (e:=aC) eL7 2 1 1 (by decide))⟩,⟨cL5⟩,⟨(s4 (e:=aC) eL6 1 [(.int .i64 (aO .i64 aV.2 bC.2))] (aV.1,aO .i64 aV.2 bC.2) rfl)⟩,⟨cL5⟩,⟨(aI (e:=aC) eL6 2 1 1 (by decide))⟩,⟨cL5⟩,⟨(nF cL4)⟩,⟨(tW k aS bC.1 _ eL3)⟩,⟨(aQ aC (l:=aS) (n:=aS.length) rfl)⟩,⟨(a9 aC (Nat.le_refl aS.length):0+aS.length≤(List.map aC aS).length)⟩,⟨(aI (e:=aC) eL2 2 0 2 (by decide))⟩,⟨cL1⟩,⟨(aG aC x2)⟩,⟨cL0⟩] (by kernel_rfl) (n9 x2 y k (aO .i64 cK 1) iG h)
          rw[if_neg cL8] at h;replace cL8:=eqf cL8
          exact LT.next aK (hs:=⟨[(0,[]),(22,[]),(23,[]),(24,[])],[⟨.tmp 0,[],some 2⟩],false,[],[]⟩) (es:=none) [dt,.n x2.length,(A51_0 bC),(A51_1 aX),.rows (List.map aC aS),df,.row [(.int .i64 aV.2)],.rows (List.map aC (List.set aS (tN aX.1) (aV.1,aO .i64 aV.2 bC.2))),.row [(.int .i64 bQ.2)],df,.n ((List.set aS (tN aX.1) (aV.1,aO .i64 aV.2 bC.2)).length),.rows (List.map aC (List.set aS (tN aX.1) (aV.1,aO .i64 aV.2 bC.2)))] [⟨(bL aC (l:=(List.set aS (tN aX.1) (aV.1,aO .i64 aV.2 bC.2))) (n:=aS.length) (by simp:aS.length=(List.set aS (tN aX.1) (aV.1,aO .i64 aV.2 bC.2)).length))⟩,⟨((by simp:aS.length=List.length (α:=Int × Int) (List.set aS (tN aX.1) (aV.1,aO .i64 aV.2 bC.2))):aS.length=(List.set aS (tN aX.1) (aV.1,aO .i64 aV.2 bC.2)).length)⟩,⟨(zle aS.length)⟩,⟨cL8⟩,⟨(aI (e:=aC) eL7 2 1 1 (by decide))⟩,⟨cL5⟩,⟨(s4 (e:=aC) eL6 1 [(.int .i64 (aO .i64 aV.2 bC.2))] (aV.1,aO .i64 aV.2 bC.2) rfl)⟩,⟨cL5⟩,⟨(aI (e:=aC) eL6 2 1 1 (by decide))⟩,⟨cL5⟩,⟨(nF cL4)⟩,⟨(tW k aS bC.1 _ eL3)⟩,⟨(aQ aC (l:=aS) (n:=aS.length) rfl)⟩,⟨(a9 aC (Nat.le_refl aS.length):0+aS.length≤(List.map aC aS).length)⟩,⟨(aI (e:=aC) eL2 2 0 2 (by decide))⟩,⟨cL1⟩,⟨(aG aC x2)⟩,⟨cL0⟩] (by kernel_rfl) (n9 x2 y k (aO .i64 cK 1) (List.set aS (tN aX.1) (aV.1,aO .i64 aV.2 bC.2)) h)
        rw[if_neg cL5] at h;replace cL5:=eqf cL5
        cases h
      rw[if_neg cL4] at h;replace cL4:=eqf cL4
      obtain⟨aV,eL5,h⟩:=bsm h
      by_cases cL6:inI aX.1 aV.length=true
      · rw[if_pos cL6] at h
        obtain⟨bQ,eL7,h⟩:=bsm h
        obtain⟨iG,eL8,h⟩:=bsm h
        by_cases cL9:eqI iG.2 0=true
        · rw[if_pos cL9] at h
          obtain⟨m8,eL10,h⟩:=bsm h
          exact LT.next aK (hs:=⟨[(0,[]),(22,[]),(23,[]),(24,[])],[⟨.tmp 0,[],some 2⟩],false,[],[]⟩) (es:=none) [dt,.n x2.length,(A51_0 bC),(A51_1 aX),.rows (List.map aC aS),dt,.call ⟨false,[]⟩ (.ref 2 0 1 0 aV.length .full) [(.arr 2 (List.map aC aV) 1 1 false),(.arr 2 (List.map aC [(bC.1,0)]) 0 0 false)],.row [(.int .i64 bQ.2)],.rows (List.map aC (List.set aV (tN aX.1) (bQ.1,aO .i64 bQ.2 bC.2))),.row [(.int .i64 iG.2)],dt,.call ⟨false,[]⟩ (.ref 2 0 2 0 m8.length .full) [(.arr 2 (List.map aC m8) 2 2 false)],.n m8.length,.rows (List.map aC m8)] [⟨(bL aC (l:=m8) (n:=m8.length) rfl)⟩,⟨(rfl:m8.length=m8.length)⟩,⟨(zle m8.length)⟩,⟨(by have hh:=(aD5 k aX.1 (aO .i64 aX.1 1) (List.set aV (tN aX.1) (bQ.1,aO .i64 bQ.2 bC.2)) _ eL10);simp only[List.length_set] at hh;exact hh)⟩,⟨cL9⟩,⟨(aI (e:=aC) eL8 2 1 1 (by decide))⟩,⟨cL6⟩,⟨(s4 (e:=aC) eL7 1 [(.int .i64 (aO .i64 bQ.2 bC.2))] (bQ.1,aO .i64 bQ.2 bC.2) rfl)⟩,⟨cL6⟩,⟨(aI (e:=aC) eL7 2 1 1 (by decide))⟩,⟨cL6⟩,⟨(wH k aX.1 aS [(bC.1,0)] _ eL5)⟩,⟨(nT cL4)⟩,⟨(tW k aS bC.1 _ eL3)⟩,⟨(aQ aC (l:=aS) (n:=aS.length) rfl)⟩,⟨(a9 aC (Nat.le_refl aS.length):0+aS.length≤(List.map aC aS).length)⟩,⟨(aI (e:=aC) eL2 2 0 2 (by decide))⟩,⟨cL1⟩,⟨(aG aC x2)⟩,⟨cL0⟩] (by kernel_rfl) (n9 x2 y k (aO .i64 cK 1) m8 h)
        rw[if_neg cL9] at h;replace cL9:=eqf cL9
        exact LT.next aK (hs:=⟨[(0,[]),(22,[]),(23,[]),(24,[])],[⟨.tmp 0,[],some 2⟩],false,[],[]⟩) (es:=none) [dt,.n x2.length,(A51_0 bC),(A51_1 aX),.rows (List.map aC aS),dt,.call ⟨false,[]⟩ (.ref 2 0 1 0 aV.length .full) [(.arr 2 (List.map aC aV) 1 1 false),(.arr 2 (List.map aC [(bC.1,0)]) 0 0 false)],.row [(.int .i64 bQ.2)],.rows (List.map aC (List.set aV (tN aX.1) (bQ.1,aO .i64 bQ.2 bC.2))),.row [(.int .i64 iG.2)],df,.n ((List.set aV (tN aX.1) (bQ.1,aO .i64 bQ.2 bC.2)).length),.rows (List.map aC (List.set aV (tN aX.1) (bQ.1,aO .i64 bQ.2 bC.2)))] [⟨(bL aC (l:=(List.set aV (tN aX.1) (bQ.1,aO .i64 bQ.2 bC.2))) (n:=aV.length) (by simp:aV.length=(List.set aV (tN aX.1) (bQ.1,aO .i64 bQ.2 bC.2)).length))⟩,⟨((by simp:aV.length=List.length (α:=Int × Int) (List.set aV (tN aX.1) (bQ.1,aO .i64 bQ.2 bC.2))):aV.length=(List.set aV (tN aX.1) (bQ.1,aO .i64 bQ.2 bC.2)).length)⟩,⟨(zle aV.length)⟩,⟨cL9⟩,⟨(aI (e:=aC) eL8 2 1 1 (by decide))⟩,⟨cL6⟩,⟨(s4 (e:=aC) eL7 1 [(.int .i64 (aO .i64 bQ.2 bC.2))] (bQ.1,aO .i64 bQ.2 bC.2) rfl)⟩,⟨cL6⟩,⟨(aI (e:=aC) eL7 2 1 1 (by decide))⟩,⟨cL6⟩,⟨(wH k aX.1 aS [(bC.1,0)] _ eL5)⟩,⟨(nT cL4)⟩,⟨(tW k aS bC.1 _ eL3)⟩,⟨(aQ aC (l:=aS) (n:=aS.length) rfl)⟩,⟨(a9 aC (Nat.le_refl aS.length):0+aS.length≤(List.map aC aS).length)⟩,⟨(aI (e:=aC) eL2 2 0 2 (by decide))⟩,⟨cL1⟩,⟨(aG aC x2)⟩,⟨cL0⟩] (by kernel_rfl) (n9 x2 y k (aO .i64 cK 1) (List.set aV (tN aX.1) (bQ.1,aO .i64 bQ.2 bC.2)) h)
      rw[if_neg cL6] at h;replace cL6:=eqf cL6
      cases h
    rw[if_neg cL1] at h;replace cL1:=eqf cL1
    cases h
  rw[if_neg cL0] at h;replace cL0:=eqf cL0
  obtain rfl:=osi h
  show LT _ _ _ _ (.st (.exit 0) (aM2 aS))
  exact LT.done aK (hs:=⟨[],[],false,[],[]⟩) (es:=(some ⟨[(0,[])],[⟨.tmp 0,[],none⟩],false,[],[]⟩)) [df] [⟨cL0⟩] (by kernel_rfl) (fun s h=>by cases h)
theorem jK (k:Nat) (x1:aL) (x2:aL) (r:aL × Int) (h:j5 k x1 x2=some r):Tri Try.prog 51 [(.sl 2 (List.map aC x1)),(.sl 2 (List.map aC x2))] [] (.tup [(.sl 2 (List.map aC r.1)),(.int .i64 r.2)]) []:=by
 unfold j5 at h
 obtain⟨x3,e0,h⟩:=bsm h
 obtain⟨x4,e1,h⟩:=bsm h
 by_cases c2:x4=true
 · rw[if_pos c2] at h
   obtain⟨x5,e3,h⟩:=bsm h
   by_cases c4:x5=true
   · rw[if_pos c4] at h
     obtain rfl:=osi h
     exact Tri.of (x:=X51) aK aMF [(A51_2 x1),.call ⟨true,[]⟩ (.bool x4) [],.rows (List.map aC x1),df,df,df,.call ⟨true,[]⟩ (.bool x5) [],df,dt,.rows (List.map aC x1)] [⟨(aQ aC (l:=x1) (n:=x1.length) rfl)⟩,⟨(a9 aC (Nat.le_refl x1.length):0+x1.length≤(List.map aC x1).length)⟩,⟨c4⟩,⟨(nF c2)⟩,⟨(tL k x2 _ e3)⟩,⟨(nF c2)⟩,⟨(nF c2)⟩,⟨(nF c2)⟩,⟨(vY k x1 _ e1)⟩,⟨(aQ aC (l:=x1) (n:=x1.length) rfl)⟩,⟨(a9 aC (Nat.le_refl x1.length):0+x1.length≤(List.map aC x1).length)⟩,⟨(r7 k x1 _ e0)⟩] (by kernel_rfl)
   rw[if_neg c4] at h;replace c4:=eqf c4
   obtain⟨x7,e5,h⟩:=bsm h
   obtain rfl:=osi h
   exact Tri.of (x:=X51) aK aMF [(A51_2 x1),.call ⟨true,[]⟩ (.bool x4) [],.rows (List.map aC x1),df,df,df,.call ⟨true,[]⟩ (.bool x5) [],df,df,.n x2.length,.norm 2 ⟨[(0,[]),(22,[]),(23,[]),(24,[])],[⟨.tmp 0,[],some 2⟩],false,[],[]⟩,.n x1.length,.rows (List.map aC x1),.out (.st .normal (aM2 x7)),.rows (List.map aC x7)] [⟨(aQ aC (l:=x7) (n:=x7.length) rfl)⟩,⟨(a9 aC (Nat.le_refl x7.length):0+x7.length≤(List.map aC x7).length)⟩,⟨(LT.block (n9 x2 _ k 0 x1 e5))⟩,⟨(bL aC (l:=x1) (n:=x1.length) rfl)⟩,⟨(rfl:x1.length=x1.length)⟩,⟨(zle x1.length)⟩,⟨(aG aC x2)⟩,⟨c4⟩,⟨(nF c2)⟩,⟨(tL k x2 _ e3)⟩,⟨(nF c2)⟩,⟨(nF c2)⟩,⟨(nF c2)⟩,⟨(vY k x1 _ e1)⟩,⟨(aQ aC (l:=x1) (n:=x1.length) rfl)⟩,⟨(a9 aC (Nat.le_refl x1.length):0+x1.length≤(List.map aC x1).length)⟩,⟨(r7 k x1 _ e0)⟩] (by kernel_rfl)
 rw[if_neg c2] at h;replace c2:=eqf c2
 obtain rfl:=osi h
 exact Tri.of (x:=X51) aK aMF [(A51_2 x1),.call ⟨true,[]⟩ (.bool x4) [],.rows (List.map aC x1),dt,dt,dt,dt,dt,.rows (List.map aC x1)] [⟨(aQ aC (l:=x1) (n:=x1.length) rfl)⟩,⟨(a9 aC (Nat.le_refl x1.length):0+x1.length≤(List.map aC x1).length)⟩,⟨rT⟩,⟨(nT c2)⟩,⟨(nT c2)⟩,⟨(nT c2)⟩,⟨(nT c2)⟩,⟨(vY k x1 _ e1)⟩,⟨(aQ aC (l:=x1) (n:=x1.length) rfl)⟩,⟨(a9 aC (Nat.le_refl x1.length):0+x1.length≤(List.map aC x1).length)⟩,⟨(r7 k x1 _ e0)⟩] (by kernel_rfl)
end Go.Ws

namespace Go.Ws
open Go.Proofs
set_option linter.unusedSimpArgs false
set_option linter.unusedVariables false
set_option maxRecDepth 1000000
set_option maxHeartbeats 4000000
noncomputable def X31:Ctx:=⟨Try.f31,[],true⟩
noncomputable def L31_0:Code:=at_ Try.f31 [1,0,1,4,5]
def S31_0 (x1:aL) (x2:Int) (d6:Int):St:=⟨mkT 20 [(1,(.int .u8 x2)),(7,(.sl 2 (List.map aC x1))),(8,(.int .i64 (nI x1.length))),(9,(.int .i64 d6))],[]⟩
def aN2:St:=⟨mkT 20 [],[]⟩
def O31_0 (x1:aL) (x2:Int) (y:(Sum (Unit) (Int))):GX:=match y with
 | .inl y=>.st (.exit 0) (aN2)
 | .inr y=>.fin (.int .i64 y) []
theorem uH (x1:aL) (x2:Int) (y:(Sum (Unit) (Int))):∀(k:Nat) (d6:Int),hS k x1 x2 d6=some y→LT Try.prog X31 L31_0 (S31_0 x1 x2 d6) (O31_0 x1 x2 y)
 | 0,d6,h=>by cases h
 | k+1,d6,h=>by
  rw[hS] at h
  by_cases cL0:ltI d6 (nI x1.length)=true
  · rw[if_pos cL0] at h
    by_cases cL1:inI d6 x1.length=true
    · rw[if_pos cL1] at h
      obtain⟨o9,eL2,h⟩:=bsm h
      by_cases cL3:eqI o9.1 x2=true
      · rw[if_pos cL3] at h
        obtain rfl:=osi h
        show LT _ _ _ _ (.fin (.int .i64 o9.2) [])
        exact LT.done aK (hs:=⟨[],[],false,[],[]⟩) (es:=none) [dt,.n x1.length,.row [(.int .u8 o9.1),(.int .i64 o9.2)],dt] [⟨cL3⟩,⟨(aI (e:=aC) eL2 2 0 2 (by decide))⟩,⟨cL1⟩,⟨(aG aC x1)⟩,⟨cL0⟩] (by kernel_rfl) (fun s h=>by cases h)
      rw[if_neg cL3] at h;replace cL3:=eqf cL3
      exact LT.next aK (hs:=⟨[(1,[]),(7,[]),(8,[]),(9,[])],[],false,[],[]⟩) (es:=none) [dt,.n x1.length,.row [(.int .u8 o9.1),(.int .i64 o9.2)],df] [⟨cL3⟩,⟨(aI (e:=aC) eL2 2 0 2 (by decide))⟩,⟨cL1⟩,⟨(aG aC x1)⟩,⟨cL0⟩] (by kernel_rfl) (uH x1 x2 y k (aO .i64 d6 1) h)
    rw[if_neg cL1] at h;replace cL1:=eqf cL1
    cases h
  rw[if_neg cL0] at h;replace cL0:=eqf cL0
  obtain rfl:=osi h
  show LT _ _ _ _ (.st (.exit 0) (aN2))
  exact LT.done aK (hs:=⟨[],[],false,[],[]⟩) (es:=(some ⟨[],[],false,[],[]⟩)) [df] [⟨cL0⟩] (by kernel_rfl) (fun s h=>by cases h)
theorem zG (k:Nat) (x1:aL) (x2:Int) (r:Int) (h:p7 k x1 x2=some r):Tri Try.prog 31 [(.sl 2 (List.map aC x1)),(.int .u8 x2)] [] (.int .i64 r) []:=by
 unfold p7 at h
 obtain⟨x3,e0,h⟩:=bsm h
 cases x3 with
 | inl x4 =>
  simp only[Sum.elim_inl] at h
  obtain rfl:=osi h
  exact Tri.of (x:=X31) aK aSP [.n x1.length,.norm 2 ⟨[(1,[]),(7,[]),(8,[]),(9,[])],[],false,[],[]⟩,.out (.st .normal (aN2))] [⟨(LT.block (uH x1 x2 _ k 0 e0))⟩,⟨(aG aC x1)⟩] (by kernel_rfl)
 | inr x4 =>
  simp only[Sum.elim_inr] at h
  obtain rfl:=osi h
  exact Tri.of (x:=X31) aK aSP [.n x1.length,.norm 2 ⟨[(1,[]),(7,[]),(8,[]),(9,[])],[],false,[],[]⟩,.out (.fin (.int .i64 x4) [])] [⟨(LT.blockFin (id:=0) (uH x1 x2 _ k 0 e0))⟩,⟨(aG aC x1)⟩] (by kernel_rfl)
end Go.Ws

namespace Go.Ws
open Go.Proofs
set_option linter.unusedSimpArgs false
set_option linter.unusedVariables false
set_option maxRecDepth 1000000
set_option maxHeartbeats 4000000
noncomputable def X29_1001:Ctx:=⟨Try.f29,[],false⟩
theorem aAH (k:Nat) (x1:aL) (r:Unit) (h:i5 k x1=some r):Tri Try.prog 29 [(.inl 2 (List.map aC x1))] [] (.ref 2 0 0 0 x1.length .virt) [(.arr 2 (List.map aC x1) 0 0 false)]:=by
 unfold i5 at h
 by_cases c0:bB (x1.length*16)=true
 · rw[if_pos c0] at h
   obtain rfl:=osi h
   exact Tri.of (x:=X29_1001) aK aR2 [df,.n x1.length,.norm 0 ⟨[(2,[])],[⟨.tmp 2,[],some 2⟩],false,[],[]⟩,.n x1.length,.rows (List.map aC x1)] [⟨(bL aC (l:=x1) (n:=x1.length) rfl)⟩,⟨(rfl:x1.length=x1.length)⟩,⟨(zle x1.length)⟩,⟨c0⟩,⟨(aG aC x1)⟩,⟨rF⟩] (by kernel_rfl)
 rw[if_neg c0] at h;replace c0:=eqf c0
 cases h
end Go.Ws

namespace Go.Ws
open Go.Proofs
set_option linter.unusedSimpArgs false
set_option linter.unusedVariables false
set_option maxRecDepth 1000000
set_option maxHeartbeats 4000000
noncomputable def X29_1002:Ctx:=⟨Try.f29,[],false⟩
theorem zT:Tri Try.prog 29 [.nils] [] (.ref 2 0 0 0 0 .virt) [(.arr 2 (List.map aC []) 0 0 false)]:=by
 obtain⟨r,h⟩:∃r,pZ=r:=⟨_,rfl⟩
 try rw[h]
 unfold pZ at h
 obtain rfl:=h
 exact Tri.of (x:=X29_1002) aK aR2 [dt,.norm 0 ⟨[(2,[])],[⟨.tmp 2,[],some 2⟩],false,[],[]⟩,.n 0,.rows (List.map aC [])] [⟨(bL aC (l:=[]) (n:=0) rfl)⟩,⟨(rfl:0=0)⟩,⟨(zle 0)⟩,⟨rT⟩] (by kernel_rfl)
end Go.Ws

namespace Go.Ws
open Go.Proofs
set_option linter.unusedSimpArgs false
set_option linter.unusedVariables false
set_option maxRecDepth 1000000
set_option maxHeartbeats 4000000
theorem iV (k:Nat) (x1:aL) (r:Unit) (h:gE k x1=some r):Tri Try.prog 29 [(.sl 2 (List.map aC x1))] [] (.ref 2 0 0 0 x1.length .virt) [(.arr 2 (List.map aC x1) 0 0 false)]:=by
 refine Tri.slOf (aAH k x1 r h) fun h0=>?_
 have hx:x1=[]:=by simpa using h0
 subst hx
 exact zT
end Go.Ws

namespace Go.Ws
open Go.Proofs
set_option linter.unusedSimpArgs false
set_option linter.unusedVariables false
set_option maxRecDepth 1000000
set_option maxHeartbeats 4000000
noncomputable def X68:Ctx:=⟨Try.f68,[],false⟩
theorem n8 (k:Nat) (x1:Int) (x2:aL) (x3:Bool) (x4:Int) (r:Unit) (h:pA k x1 x2 x3 x4=some r):Tri Try.prog 68 [(.agg [(.int .i64 x1),(.sl 2 (List.map aC x2)),(.bool x3),(.int .i64 x4)])] [] (.agg [(.int .i64 x1),(.ref 2 0 0 0 x2.length .virt),(.bool x3),(.int .i64 x4)]) [(.arr 2 (List.map aC x2) 0 0 false)]:=by
 unfold pA at h
 obtain⟨x5,e0,h⟩:=bsm h
 obtain rfl:=osi h
 exact Tri.of (x:=X68) aK aSC [.call ⟨true,[]⟩ (.ref 2 0 0 0 x2.length .virt) [(.arr 2 (List.map aC x2) 0 0 false)],.norm 0 ⟨[(2,[])],[⟨.tmp 2,[],none⟩,⟨.cell 0 1,[],none⟩],false,[],[]⟩] [⟨(iV k x2 _ e0)⟩] (by kernel_rfl)
end Go.Ws

namespace Go.Ws
open Go.Proofs
set_option linter.unusedSimpArgs false
set_option linter.unusedVariables false
set_option maxRecDepth 1000000
set_option maxHeartbeats 4000000
noncomputable def X43:Ctx:=⟨Try.f43,[],true⟩
theorem qU (x1:Int) (x2:Int):Tri Try.prog 43 [(.agg [(.int .u8 x1),(.int .i64 x2)])] [] (.bool (jA x1 x2)) []:=by
 obtain⟨r,h⟩:∃r,jA x1 x2=r:=⟨_,rfl⟩
 try rw[h]
 unfold jA at h
 obtain rfl:=h
 exact Tri.of (x:=X43) aK facts43 [] [] (by kernel_rfl)
end Go.Ws

namespace Go.Ws
open Go.Proofs
set_option linter.unusedSimpArgs false
set_option linter.unusedVariables false
set_option maxRecDepth 1000000
set_option maxHeartbeats 4000000
noncomputable def X60_1:Ctx:=⟨Try.f60,[],true⟩
noncomputable def L60_1_0:Code:=at_ Try.f60 [1,0,1,4,5]
def S60_1_0 (x1:aL) (cL:Int):St:=⟨mkT 19 [(0,(.sl 2 (List.map aC x1))),(1,(.fn 43 [])),(7,(.int .i64 (nI x1.length))),(8,(.int .i64 cL))],[]⟩
def aHH:St:=⟨mkT 19 [],[]⟩
def O60_1_0 (x1:aL) (y:(Sum (Unit) (Int))):GX:=match y with
 | .inl y=>.st (.exit 0) (aHH)
 | .inr y=>.fin (.int .i64 y) []
theorem lG (x1:aL) (y:(Sum (Unit) (Int))):∀(k:Nat) (cL:Int),bU k x1 cL=some y→LT Try.prog X60_1 L60_1_0 (S60_1_0 x1 cL) (O60_1_0 x1 y)
 | 0,cL,h=>by cases h
 | k+1,cL,h=>by
  rw[bU] at h
  by_cases cL0:ltI cL (nI x1.length)=true
  · rw[if_pos cL0] at h
    by_cases cL1:inI cL x1.length=true
    · rw[if_pos cL1] at h
      obtain⟨g6,eL2,h⟩:=bsm h
      by_cases cL3:(jA g6.1 g6.2)=true
      · rw[if_pos cL3] at h
        obtain rfl:=osi h
        show LT _ _ _ _ (.fin (.int .i64 cL) [])
        exact LT.done aK (hs:=⟨[],[],false,[],[]⟩) (es:=none) [dt,.n x1.length,.row [(.int .u8 g6.1),(.int .i64 g6.2)],.call ⟨true,[]⟩ (.bool (jA g6.1 g6.2)) [],dt] [⟨cL3⟩,⟨(qU g6.1 g6.2)⟩,⟨(aI (e:=aC) eL2 2 0 2 (by decide))⟩,⟨cL1⟩,⟨(aG aC x1)⟩,⟨cL0⟩] (by kernel_rfl) (fun s h=>by cases h)
      rw[if_neg cL3] at h;replace cL3:=eqf cL3
      exact LT.next aK (hs:=⟨[(0,[]),(1,[]),(7,[]),(8,[])],[],false,[],[]⟩) (es:=none) [dt,.n x1.length,.row [(.int .u8 g6.1),(.int .i64 g6.2)],.call ⟨true,[]⟩ (.bool (jA g6.1 g6.2)) [],df] [⟨cL3⟩,⟨(qU g6.1 g6.2)⟩,⟨(aI (e:=aC) eL2 2 0 2 (by decide))⟩,⟨cL1⟩,⟨(aG aC x1)⟩,⟨cL0⟩] (by kernel_rfl) (lG x1 y k (aO .i64 cL 1) h)
    rw[if_neg cL1] at h;replace cL1:=eqf cL1
    cases h
  rw[if_neg cL0] at h;replace cL0:=eqf cL0
  obtain rfl:=osi h
  show LT _ _ _ _ (.st (.exit 0) (aHH))
  exact LT.done aK (hs:=⟨[],[],false,[],[]⟩) (es:=(some ⟨[],[],false,[],[]⟩)) [df] [⟨cL0⟩] (by kernel_rfl) (fun s h=>by cases h)
theorem zF (k:Nat) (x1:aL) (r:Int) (h:iO k x1=some r):Tri Try.prog 60 [(.sl 2 (List.map aC x1)),(.fn 43 [])] [] (.int .i64 r) []:=by
 unfold iO at h
 obtain⟨x2,e0,h⟩:=bsm h
 cases x2 with
 | inl x3 =>
  simp only[Sum.elim_inl] at h
  obtain rfl:=osi h
  exact Tri.of (x:=X60_1) aK aIX [.n x1.length,.norm 2 ⟨[(0,[]),(1,[]),(7,[]),(8,[])],[],false,[],[]⟩,.out (.st .normal (aHH))] [⟨(LT.block (lG x1 _ k 0 e0))⟩,⟨(aG aC x1)⟩] (by kernel_rfl)
 | inr x3 =>
  simp only[Sum.elim_inr] at h
  obtain rfl:=osi h
  exact Tri.of (x:=X60_1) aK aIX [.n x1.length,.norm 2 ⟨[(0,[]),(1,[]),(7,[]),(8,[])],[],false,[],[]⟩,.out (.fin (.int .i64 x3) [])] [⟨(LT.blockFin (id:=0) (lG x1 _ k 0 e0))⟩,⟨(aG aC x1)⟩] (by kernel_rfl)
end Go.Ws

namespace Go.Ws
open Go.Proofs
set_option linter.unusedSimpArgs false
set_option linter.unusedVariables false
set_option maxRecDepth 1000000
set_option maxHeartbeats 4000000
noncomputable def X42_1:Ctx:=⟨Try.f42,[],true⟩
theorem dD (k:Nat) (x1:aL) (r:Bool) (h:iP k x1=some r):Tri Try.prog 42 [(.sl 2 (List.map aC x1)),(.fn 43 [])] [] (.bool r) []:=by
 unfold iP at h
 obtain⟨x2,e0,h⟩:=bsm h
 obtain rfl:=osi h
 exact Tri.of (x:=X42_1) aK aR6 [.call ⟨true,[]⟩ (.int .i64 x2) []] [⟨(zF k x1 _ e0)⟩] (by kernel_rfl)
end Go.Ws

namespace Go.Ws
open Go.Proofs
set_option linter.unusedSimpArgs false
set_option linter.unusedVariables false
set_option maxRecDepth 1000000
set_option maxHeartbeats 4000000
noncomputable def X33:Ctx:=⟨Try.f33,[],true⟩
theorem bT (k:Nat) (x1:Int) (x2:aL) (x3:Bool) (x4:Int) (r:Bool) (h:oP k x1 x2 x3 x4=some r):Tri Try.prog 33 [(.agg [(.int .i64 x1),(.sl 2 (List.map aC x2)),(.bool x3),(.int .i64 x4)])] [] (.bool r) []:=by
 unfold oP at h
 by_cases c0:ltI x1 0=true
 · rw[if_pos c0] at h
   obtain rfl:=osi h
   exact Tri.of (x:=X33) aK rR [dt,dt,dt,dt,dt,dt,dt,dt,dt,dt,dt,dt,dt,dt] [⟨rT⟩,⟨rT⟩,⟨rT⟩,⟨rT⟩,⟨rT⟩,⟨rT⟩,⟨rT⟩,⟨rT⟩,⟨rT⟩,⟨rT⟩,⟨c0⟩,⟨c0⟩,⟨c0⟩,⟨c0⟩] (by kernel_rfl)
 rw[if_neg c0] at h;replace c0:=eqf c0
 by_cases c1:ltI 3 x1=true
 · rw[if_pos c1] at h
   obtain rfl:=osi h
   exact Tri.of (x:=X33) aK rR [df,df,df,df,dt,dt,dt,dt,dt,dt,dt,dt,dt,dt] [⟨rT⟩,⟨rT⟩,⟨rT⟩,⟨rT⟩,⟨rT⟩,⟨c1⟩,⟨c1⟩,⟨c1⟩,⟨c1⟩,⟨c1⟩,⟨c0⟩,⟨c0⟩,⟨c0⟩,⟨c0⟩] (by kernel_rfl)
 rw[if_neg c1] at h;replace c1:=eqf c1
 by_cases c2:ltI 50 (nI x2.length)=true
 · rw[if_pos c2] at h
   obtain rfl:=osi h
   exact Tri.of (x:=X33) aK rR [df,df,df,df,df,df,df,.n x2.length,df,df,dt,dt,dt,dt,dt] [⟨rT⟩,⟨c2⟩,⟨c2⟩,⟨c2⟩,⟨c2⟩,⟨c1⟩,⟨c1⟩,⟨(aG aC x2)⟩,⟨c1⟩,⟨c1⟩,⟨c1⟩,⟨c0⟩,⟨c0⟩,⟨c0⟩,⟨c0⟩] (by kernel_rfl)
 rw[if_neg c2] at h;replace c2:=eqf c2
 obtain⟨x5,e3,h⟩:=bsm h
 by_cases c4:x5=true
 · rw[if_pos c4] at h
   obtain rfl:=osi h
   exact Tri.of (x:=X33) aK rR [df,df,df,df,df,df,df,.n x2.length,df,df,df,df,df,.call ⟨true,[]⟩ (.bool x5) [],df,dt] [⟨c4⟩,⟨c2⟩,⟨(dD k x2 _ e3)⟩,⟨c2⟩,⟨c2⟩,⟨c2⟩,⟨c1⟩,⟨c1⟩,⟨(aG aC x2)⟩,⟨c1⟩,⟨c1⟩,⟨c1⟩,⟨c0⟩,⟨c0⟩,⟨c0⟩,⟨c0⟩] (by kernel_rfl)
 rw[if_neg c4] at h;replace c4:=eqf c4
 by_cases c5:eqI x4 1=true
 · rw[if_pos c5] at h
   by_cases c6:eqI x1 3=true
   · rw[if_pos c6] at h
     obtain rfl:=osi h
     exact Tri.of (x:=X33) aK rR [df,df,df,df,df,df,df,.n x2.length,df,df,df,df,df,.call ⟨true,[]⟩ (.bool x5) [],df,df,dt,dt,dt,dt,dt] [⟨c6⟩,⟨c5⟩,⟨c5⟩,⟨c5⟩,⟨c5⟩,⟨c4⟩,⟨c2⟩,⟨(dD k x2 _ e3)⟩,⟨c2⟩,⟨c2⟩,⟨c2⟩,⟨c1⟩,⟨c1⟩,⟨(aG aC x2)⟩,⟨c1⟩,⟨c1⟩,⟨c1⟩,⟨c0⟩,⟨c0⟩,⟨c0⟩,⟨c0⟩] (by kernel_rfl)
   rw[if_neg c6] at h;replace c6:=eqf c6
   by_cases c7:eqI x4 0=true
   · rw[if_pos c7] at h
     by_cases c8:x3=true
     · rw[if_pos c8] at h
       obtain rfl:=osi h
       exact Tri.of (x:=X33) aK rR [df,df,df,df,df,df,df,.n x2.length,df,df,df,df,df,.call ⟨true,[]⟩ (.bool x5) [],df,df,dt,dt,dt,dt,df,dt,dt,dt,dt,df,df,df,dt,df,dt] [⟨c7⟩,⟨(nF c8)⟩,⟨c7⟩,⟨(nF c8)⟩,⟨(nF c8)⟩,⟨(nF c8)⟩,⟨c7⟩,⟨c7⟩,⟨c7⟩,⟨c7⟩,⟨c6⟩,⟨c5⟩,⟨c5⟩,⟨c5⟩,⟨c5⟩,⟨c4⟩,⟨c2⟩,⟨(dD k x2 _ e3)⟩,⟨c2⟩,⟨c2⟩,⟨c2⟩,⟨c1⟩,⟨c1⟩,⟨(aG aC x2)⟩,⟨c1⟩,⟨c1⟩,⟨c1⟩,⟨c0⟩,⟨c0⟩,⟨c0⟩,⟨c0⟩] (by kernel_rfl)
     rw[if_neg c8] at h;replace c8:=eqf c8
     obtain rfl:=osi h
     exact Tri.of (x:=X33) aK rR [df,df,df,df,df,df,df,.n x2.length,df,df,df,df,df,.call ⟨true,[]⟩ (.bool x5) [],df,df,dt,dt,dt,dt,df,dt,dt,dt,dt,dt,dt,dt,dt,dt,dt] [⟨c7⟩,⟨(nT c8)⟩,⟨c7⟩,⟨(nT c8)⟩,⟨(nT c8)⟩,⟨(nT c8)⟩,⟨c7⟩,⟨c7⟩,⟨c7⟩,⟨c7⟩,⟨c6⟩,⟨c5⟩,⟨c5⟩,⟨c5⟩,⟨c5⟩,⟨c4⟩,⟨c2⟩,⟨(dD k x2 _ e3)⟩,⟨c2⟩,⟨c2⟩,⟨c2⟩,⟨c1⟩,⟨c1⟩,⟨(aG aC x2)⟩,⟨c1⟩,⟨c1⟩,⟨c1⟩,⟨c0⟩,⟨c0⟩,⟨c0⟩,⟨c0⟩] (by kernel_rfl)
   rw[if_neg c7] at h;replace c7:=eqf c7
   obtain rfl:=osi h
   exact Tri.of (x:=X33) aK rR [df,df,df,df,df,df,df,.n x2.length,df,df,df,df,df,.call ⟨true,[]⟩ (.bool x5) [],df,df,dt,dt,dt,dt,df,df,df,df,df,df,df] [⟨c7⟩,⟨c7⟩,⟨c7⟩,⟨c7⟩,⟨c7⟩,⟨c7⟩,⟨c6⟩,⟨c5⟩,⟨c5⟩,⟨c5⟩,⟨c5⟩,⟨c4⟩,⟨c2⟩,⟨(dD k x2 _ e3)⟩,⟨c2⟩,⟨c2⟩,⟨c2⟩,⟨c1⟩,⟨c1⟩,⟨(aG aC x2)⟩,⟨c1⟩,⟨c1⟩,⟨c1⟩,⟨c0⟩,⟨c0⟩,⟨c0⟩,⟨c0⟩] (by kernel_rfl)
 rw[if_neg c5] at h;replace c5:=eqf c5
 by_cases c6:eqI x1 3=true
 · rw[if_pos c6] at h
   obtain rfl:=osi h
   exact Tri.of (x:=X33) aK rR [df,df,df,df,df,df,df,.n x2.length,df,df,df,df,df,.call ⟨true,[]⟩ (.bool x5) [],df,df,df,df,df,df,dt] [⟨c6⟩,⟨c5⟩,⟨c5⟩,⟨c5⟩,⟨c5⟩,⟨c4⟩,⟨c2⟩,⟨(dD k x2 _ e3)⟩,⟨c2⟩,⟨c2⟩,⟨c2⟩,⟨c1⟩,⟨c1⟩,⟨(aG aC x2)⟩,⟨c1⟩,⟨c1⟩,⟨c1⟩,⟨c0⟩,⟨c0⟩,⟨c0⟩,⟨c0⟩] (by kernel_rfl)
 rw[if_neg c6] at h;replace c6:=eqf c6
 by_cases c7:eqI x4 0=true
 · rw[if_pos c7] at h
   by_cases c8:x3=true
   · rw[if_pos c8] at h
     obtain rfl:=osi h
     exact Tri.of (x:=X33) aK rR [df,df,df,df,df,df,df,.n x2.length,df,df,df,df,df,.call ⟨true,[]⟩ (.bool x5) [],df,df,df,df,df,df,df,dt,dt,dt,dt,df,df,df,dt,df,dt] [⟨c7⟩,⟨(nF c8)⟩,⟨c7⟩,⟨(nF c8)⟩,⟨(nF c8)⟩,⟨(nF c8)⟩,⟨c7⟩,⟨c7⟩,⟨c7⟩,⟨c7⟩,⟨c6⟩,⟨c5⟩,⟨c5⟩,⟨c5⟩,⟨c5⟩,⟨c4⟩,⟨c2⟩,⟨(dD k x2 _ e3)⟩,⟨c2⟩,⟨c2⟩,⟨c2⟩,⟨c1⟩,⟨c1⟩,⟨(aG aC x2)⟩,⟨c1⟩,⟨c1⟩,⟨c1⟩,⟨c0⟩,⟨c0⟩,⟨c0⟩,⟨c0⟩] (by kernel_rfl)
   rw[if_neg c8] at h;replace c8:=eqf c8
   obtain rfl:=osi h
   exact Tri.of (x:=X33) aK rR [df,df,df,df,df,df,df,.n x2.length,df,df,df,df,df,.call ⟨true,[]⟩ (.bool x5) [],df,df,df,df,df,df,df,dt,dt,dt,dt,dt,dt,dt,dt,dt,dt] [⟨c7⟩,⟨(nT c8)⟩,⟨c7⟩,⟨(nT c8)⟩,⟨(nT c8)⟩,⟨(nT c8)⟩,⟨c7⟩,⟨c7⟩,⟨c7⟩,⟨c7⟩,⟨c6⟩,⟨c5⟩,⟨c5⟩,⟨c5⟩,⟨c5⟩,⟨c4⟩,⟨c2⟩,⟨(dD k x2 _ e3)⟩,⟨c2⟩,⟨c2⟩,⟨c2⟩,⟨c1⟩,⟨c1⟩,⟨(aG aC x2)⟩,⟨c1⟩,⟨c1⟩,⟨c1⟩,⟨c0⟩,⟨c0⟩,⟨c0⟩,⟨c0⟩] (by kernel_rfl)
 rw[if_neg c7] at h;replace c7:=eqf c7
 obtain rfl:=osi h
 exact Tri.of (x:=X33) aK rR [df,df,df,df,df,df,df,.n x2.length,df,df,df,df,df,.call ⟨true,[]⟩ (.bool x5) [],df,df,df,df,df,df,df,df,df,df,df,df,df] [⟨c7⟩,⟨c7⟩,⟨c7⟩,⟨c7⟩,⟨c7⟩,⟨c7⟩,⟨c6⟩,⟨c5⟩,⟨c5⟩,⟨c5⟩,⟨c5⟩,⟨c4⟩,⟨c2⟩,⟨(dD k x2 _ e3)⟩,⟨c2⟩,⟨c2⟩,⟨c2⟩,⟨c1⟩,⟨c1⟩,⟨(aG aC x2)⟩,⟨c1⟩,⟨c1⟩,⟨c1⟩,⟨c0⟩,⟨c0⟩,⟨c0⟩,⟨c0⟩] (by kernel_rfl)
end Go.Ws

namespace Go.Ws
open Go.Proofs
set_option linter.unusedSimpArgs false
set_option linter.unusedVariables false
set_option maxRecDepth 1000000
set_option maxHeartbeats 4000000
noncomputable def X47:Ctx:=⟨Try.f47,[],true⟩
def aOO (x1:Int) (x2:aL) (x3:Bool) (x4:Int):Ans:=.call ⟨true,[]⟩ (.agg [(.int .i64 x1),(.ref 2 0 0 0 x2.length .virt),(.bool x3),(.int .i64 x4)]) [(.arr 2 (List.map aC x2) 0 0 false)]
def A47_1 (x5:Int) (x6:Int):Ans:=.call ⟨true,[]⟩ (.bool (jA x5 x6)) []
theorem sQ (k:Nat) (x1:Int) (x2:aL) (x3:Bool) (x4:Int) (x5:Int) (x6:Int) (r:Int × aL × Bool × Int × Int) (h:xT k x1 x2 x3 x4 x5 x6=some r):Tri Try.prog 47 [(.agg [(.int .i64 x1),(.sl 2 (List.map aC x2)),(.bool x3),(.int .i64 x4)]),(.agg [(.int .u8 x5),(.int .i64 x6)])] [] (.tup [(.agg [(.int .i64 r.1),(.sl 2 (List.map aC r.2.1)),(.bool r.2.2.1),(.int .i64 r.2.2.2.1)]),(.int .i64 r.2.2.2.2)]) []:=by
 unfold xT at h
 obtain⟨x7,e0,h⟩:=bsm h
 obtain⟨x8,e1,h⟩:=bsm h
 by_cases c2:x8=true
 · rw[if_pos c2] at h
   by_cases c3:(jA x5 x6)=true
   · rw[if_pos c3] at h
     obtain rfl:=osi h
     exact Tri.of (x:=X47) aK aFY [(aOO x1 x2 x3 x4),.call ⟨true,[]⟩ (.bool x8) [],.rows (List.map aC x2),df,df,(A47_1 x5 x6),df,dt,.rows (List.map aC x2)] [⟨(aQ aC (l:=x2) (n:=x2.length) rfl)⟩,⟨(a9 aC (Nat.le_refl x2.length):0+x2.length≤(List.map aC x2).length)⟩,⟨c3⟩,⟨(nF c2)⟩,⟨(qU x5 x6)⟩,⟨(nF c2)⟩,⟨(nF c2)⟩,⟨(bT k x1 x2 x3 x4 _ e1)⟩,⟨(aQ aC (l:=x2) (n:=x2.length) rfl)⟩,⟨(a9 aC (Nat.le_refl x2.length):0+x2.length≤(List.map aC x2).length)⟩,⟨(n8 k x1 x2 x3 x4 _ e0)⟩] (by kernel_rfl)
   rw[if_neg c3] at h;replace c3:=eqf c3
   by_cases c4:eqI x1 0=true
   · rw[if_pos c4] at h
     by_cases c5:ltI (nI x2.length) 50=true
     · rw[if_pos c5] at h
       by_cases c6:bB (((x2++[(x5,x6)]).length)*16)=true
       · rw[if_pos c6] at h
         obtain rfl:=osi h
         exact Tri.of (x:=X47) aK aFY [(aOO x1 x2 x3 x4),.call ⟨true,[]⟩ (.bool x8) [],.rows (List.map aC x2),df,df,(A47_1 x5 x6),df,df,df,df,.rows (List.map aC [(x5,x6)]),.n ((x2++[(x5,x6)]).length),.n x2.length,dt,.rows (List.map aC (x2++[(x5,x6)])),.rows (List.map aC (x2++[(x5,x6)]))] [⟨(aQ aC (l:=(x2++[(x5,x6)])) (n:=((x2++[(x5,x6)]).length)) rfl)⟩,⟨(a9 aC (Nat.le_refl ((x2++[(x5,x6)]).length)):0+(x2++[(x5,x6)]).length≤(List.map aC (x2++[(x5,x6)])).length)⟩,⟨(f5 aC x2 [(x5,x6)])⟩,⟨(dZ x2.length)⟩,⟨(aG aC x2)⟩,⟨c6⟩,⟨(by simp only[wl,List.length_map,List.map_nil,List.map_cons]<;>omega:x2.length+(List.map aC [(x5,x6)]).length=(x2++[(x5,x6)]).length)⟩,⟨(aQ aC (l:=[(x5,x6)]) (n:=1) rfl)⟩,⟨(a9 aC (Nat.le_refl 1):0+1≤(List.map aC [(x5,x6)]).length)⟩,⟨(nF c5)⟩,⟨(nF c4)⟩,⟨c3⟩,⟨(nF c2)⟩,⟨(qU x5 x6)⟩,⟨(nF c2)⟩,⟨(nF c2)⟩,⟨(bT k x1 x2 x3 x4 _ e1)⟩,⟨(aQ aC (l:=x2) (n:=x2.length) rfl)⟩,⟨(a9 aC (Nat.le_refl x2.length):0+x2.length≤(List.map aC x2).length)⟩,⟨(n8 k x1 x2 x3 x4 _ e0)⟩] (by kernel_rfl)
       rw[if_neg c6] at h;replace c6:=eqf c6
       cases h
     rw[if_neg c5] at h;replace c5:=eqf c5
     obtain rfl:=osi h
     exact Tri.of (x:=X47) aK aFY [(aOO x1 x2 x3 x4),.call ⟨true,[]⟩ (.bool x8) [],.rows (List.map aC x2),df,df,(A47_1 x5 x6),df,df,df,dt,.rows (List.map aC x2)] [⟨(aQ aC (l:=x2) (n:=x2.length) rfl)⟩,⟨(a9 aC (Nat.le_refl x2.length):0+x2.length≤(List.map aC x2).length)⟩,⟨(nT c5)⟩,⟨(nF c4)⟩,⟨c3⟩,⟨(nF c2)⟩,⟨(qU x5 x6)⟩,⟨(nF c2)⟩,⟨(nF c2)⟩,⟨(bT k x1 x2 x3 x4 _ e1)⟩,⟨(aQ aC (l:=x2) (n:=x2.length) rfl)⟩,⟨(a9 aC (Nat.le_refl x2.length):0+x2.length≤(List.map aC x2).length)⟩,⟨(n8 k x1 x2 x3 x4 _ e0)⟩] (by kernel_rfl)
   rw[if_neg c4] at h;replace c4:=eqf c4
   obtain rfl:=osi h
   exact Tri.of (x:=X47) aK aFY [(aOO x1 x2 x3 x4),.call ⟨true,[]⟩ (.bool x8) [],.rows (List.map aC x2),df,df,(A47_1 x5 x6),df,df,dt,.rows (List.map aC x2)] [⟨(aQ aC (l:=x2) (n:=x2.length) rfl)⟩,⟨(a9 aC (Nat.le_refl x2.length):0+x2.length≤(List.map aC x2).length)⟩,⟨(nT c4)⟩,⟨c3⟩,⟨(nF c2)⟩,⟨(qU x5 x6)⟩,⟨(nF c2)⟩,⟨(nF c2)⟩,⟨(bT k x1 x2 x3 x4 _ e1)⟩,⟨(aQ aC (l:=x2) (n:=x2.length) rfl)⟩,⟨(a9 aC (Nat.le_refl x2.length):0+x2.length≤(List.map aC x2).length)⟩,⟨(n8 k x1 x2 x3 x4 _ e0)⟩] (by kernel_rfl)
 rw[if_neg c2] at h;replace c2:=eqf c2
 obtain rfl:=osi h
 exact Tri.of (x:=X47) aK aFY [(aOO x1 x2 x3 x4),.call ⟨true,[]⟩ (.bool x8) [],.rows (List.map aC x2),dt,dt,dt,dt,.rows (List.map aC x2)] [⟨(aQ aC (l:=x2) (n:=x2.length) rfl)⟩,⟨(a9 aC (Nat.le_refl x2.length):0+x2.length≤(List.map aC x2).length)⟩,⟨rT⟩,⟨(nT c2)⟩,⟨(nT c2)⟩,⟨(nT c2)⟩,⟨(bT k x1 x2 x3 x4 _ e1)⟩,⟨(aQ aC (l:=x2) (n:=x2.length) rfl)⟩,⟨(a9 aC (Nat.le_refl x2.length):0+x2.length≤(List.map aC x2).length)⟩,⟨(n8 k x1 x2 x3 x4 _ e0)⟩] (by kernel_rfl)
end Go.Ws

namespace Go.Ws
open Go.Proofs
set_option linter.unusedSimpArgs false
set_option linter.unusedVariables false
set_option maxRecDepth 1000000
set_option maxHeartbeats 4000000
noncomputable def X68_1:Ctx:=⟨Try.f68,[],true⟩
theorem bD (k:Nat) (x1:Int) (x2:aL) (x3:Bool) (x4:Int) (r:Int × aL × Bool × Int) (h:jY k x1 x2 x3 x4=some r):Tri Try.prog 68 [(.agg [(.int .i64 x1),(.sl 2 (List.map aC x2)),(.bool x3),(.int .i64 x4)])] [] (.agg [(.int .i64 r.1),(.sl 2 (List.map aC r.2.1)),(.bool r.2.2.1),(.int .i64 r.2.2.2)]) []:=by
 unfold jY at h
 obtain⟨x5,e0,h⟩:=bsm h
 obtain rfl:=osi h
 exact Tri.of (x:=X68_1) aK aSC [.call ⟨true,[]⟩ (.ref 2 0 0 0 x2.length .virt) [(.arr 2 (List.map aC x2) 0 0 false)],.rows (List.map aC x2)] [⟨(aQ aC (l:=x2) (n:=x2.length) rfl)⟩,⟨(a9 aC (Nat.le_refl x2.length):0+x2.length≤(List.map aC x2).length)⟩,⟨(iV k x2 _ e0)⟩] (by kernel_rfl)
end Go.Ws

namespace Go.Ws
open Go.Proofs
set_option linter.unusedSimpArgs false
set_option linter.unusedVariables false
set_option maxRecDepth 1000000
set_option maxHeartbeats 4000000
noncomputable def X48:Ctx:=⟨Try.f48,[],true⟩
def A48_0 (x6:Int × aL × Bool × Int):Ans:=.call ⟨true,[]⟩ (.agg [(.int .i64 x6.1),(.sl 2 (List.map aC x6.2.1)),(.bool x6.2.2.1),(.int .i64 x6.2.2.2)]) []
theorem qK (k:Nat) (x1:Int) (x2:aL) (x3:Bool) (x4:Int) (x5:Bool) (r:Int × aL × Bool × Int × Int) (h:uF k x1 x2 x3 x4 x5=some r):Tri Try.prog 48 [(.agg [(.int .i64 x1),(.sl 2 (List.map aC x2)),(.bool x3),(.int .i64 x4)]),(.bool x5)] [] (.tup [(.agg [(.int .i64 r.1),(.sl 2 (List.map aC r.2.1)),(.bool r.2.2.1),(.int .i64 r.2.2.2.1)]),(.int .i64 r.2.2.2.2)]) []:=by
 unfold uF at h
 obtain⟨x6,e0,h⟩:=bsm h
 obtain⟨x7,e1,h⟩:=bsm h
 by_cases c2:x7=true
 · rw[if_pos c2] at h
   by_cases c3:eqI x6.1 0=true
   · rw[if_pos c3] at h
     by_cases c4:x5=true
     · rw[if_pos c4] at h
       obtain rfl:=osi h
       exact Tri.of (x:=X48) aK aIJ [(A48_0 x6),.call ⟨true,[]⟩ (.bool x7) [],df,df,dt] [⟨c4⟩,⟨(nF c3)⟩,⟨(nF c2)⟩,⟨(bT k x6.1 x6.2.1 x6.2.2.1 x6.2.2.2 _ e1)⟩,⟨(bD k x1 x2 x3 x4 _ e0)⟩] (by kernel_rfl)
     rw[if_neg c4] at h;replace c4:=eqf c4
     obtain rfl:=osi h
     exact Tri.of (x:=X48) aK aIJ [(A48_0 x6),.call ⟨true,[]⟩ (.bool x7) [],df,df,df] [⟨c4⟩,⟨(nF c3)⟩,⟨(nF c2)⟩,⟨(bT k x6.1 x6.2.1 x6.2.2.1 x6.2.2.2 _ e1)⟩,⟨(bD k x1 x2 x3 x4 _ e0)⟩] (by kernel_rfl)
   rw[if_neg c3] at h;replace c3:=eqf c3
   obtain rfl:=osi h
   exact Tri.of (x:=X48) aK aIJ [(A48_0 x6),.call ⟨true,[]⟩ (.bool x7) [],df,dt] [⟨(nT c3)⟩,⟨(nF c2)⟩,⟨(bT k x6.1 x6.2.1 x6.2.2.1 x6.2.2.2 _ e1)⟩,⟨(bD k x1 x2 x3 x4 _ e0)⟩] (by kernel_rfl)
 rw[if_neg c2] at h;replace c2:=eqf c2
 obtain rfl:=osi h
 exact Tri.of (x:=X48) aK aIJ [(A48_0 x6),.call ⟨true,[]⟩ (.bool x7) [],dt] [⟨(nT c2)⟩,⟨(bT k x6.1 x6.2.1 x6.2.2.1 x6.2.2.2 _ e1)⟩,⟨(bD k x1 x2 x3 x4 _ e0)⟩] (by kernel_rfl)
end Go.Ws

namespace Go.Ws
open Go.Proofs
set_option linter.unusedSimpArgs false
set_option linter.unusedVariables false
set_option maxRecDepth 1000000
set_option maxHeartbeats 4000000
noncomputable def X49:Ctx:=⟨Try.f49,[],true⟩
def A49_0 (x5:Int × aL × Bool × Int):Ans:=.call ⟨true,[]⟩ (.agg [(.int .i64 x5.1),(.sl 2 (List.map aC x5.2.1)),(.bool x5.2.2.1),(.int .i64 x5.2.2.2)]) []
def A49_1:Ans:=.norm 0 ⟨[(2,[]),(3,[(0,2)]),(4,[])],[⟨.tmp 2,[],none⟩],false,[],[]⟩
theorem vF (k:Nat) (x1:Int) (x2:aL) (x3:Bool) (x4:Int) (r:Int × aL × Bool × Int × aL × Int) (h:sC k x1 x2 x3 x4=some r):Tri Try.prog 49 [(.agg [(.int .i64 x1),(.sl 2 (List.map aC x2)),(.bool x3),(.int .i64 x4)])] [] (.tup [(.agg [(.int .i64 r.1),(.sl 2 (List.map aC r.2.1)),(.bool r.2.2.1),(.int .i64 r.2.2.2.1)]),(.sl 2 (List.map aC r.2.2.2.2.1)),(.int .i64 r.2.2.2.2.2)]) []:=by
 unfold sC at h
 obtain⟨x5,e0,h⟩:=bsm h
 obtain⟨x6,e1,h⟩:=bsm h
 by_cases c2:x6=true
 · rw[if_pos c2] at h
   by_cases c3:eqI x5.1 1=true
   · rw[if_pos c3] at h
     by_cases c4:x5.2.2.1=true
     · rw[if_pos c4] at h
       obtain rfl:=osi h
       exact Tri.of (x:=X49) aK aIG [(A49_0 x5),.call ⟨true,[]⟩ (.bool x6) [],df,df,dt,A49_1] [⟨c4⟩,⟨(nF c3)⟩,⟨(nF c2)⟩,⟨(bT k x5.1 x5.2.1 x5.2.2.1 x5.2.2.2 _ e1)⟩,⟨(bD k x1 x2 x3 x4 _ e0)⟩] (by kernel_rfl)
     rw[if_neg c4] at h;replace c4:=eqf c4
     obtain⟨x7,e5,h⟩:=bsm h
     obtain rfl:=osi h
     exact Tri.of (x:=X49) aK aIG [(A49_0 x5),.call ⟨true,[]⟩ (.bool x6) [],df,df,df,.call ⟨true,[]⟩ (.ref 2 0 0 0 x5.2.1.length .virt) [(.arr 2 (List.map aC x5.2.1) 0 0 false)],.rows (List.map aC x5.2.1)] [⟨(aQ aC (l:=x5.2.1) (n:=x5.2.1.length) rfl)⟩,⟨(a9 aC (Nat.le_refl x5.2.1.length):0+x5.2.1.length≤(List.map aC x5.2.1).length)⟩,⟨(iV k x5.2.1 _ e5)⟩,⟨c4⟩,⟨(nF c3)⟩,⟨(nF c2)⟩,⟨(bT k x5.1 x5.2.1 x5.2.2.1 x5.2.2.2 _ e1)⟩,⟨(bD k x1 x2 x3 x4 _ e0)⟩] (by kernel_rfl)
   rw[if_neg c3] at h;replace c3:=eqf c3
   obtain rfl:=osi h
   exact Tri.of (x:=X49) aK aIG [(A49_0 x5),.call ⟨true,[]⟩ (.bool x6) [],df,dt,A49_1] [⟨(nT c3)⟩,⟨(nF c2)⟩,⟨(bT k x5.1 x5.2.1 x5.2.2.1 x5.2.2.2 _ e1)⟩,⟨(bD k x1 x2 x3 x4 _ e0)⟩] (by kernel_rfl)
 rw[if_neg c2] at h;replace c2:=eqf c2
 obtain rfl:=osi h
 exact Tri.of (x:=X49) aK aIG [(A49_0 x5),.call ⟨true,[]⟩ (.bool x6) [],dt,A49_1] [⟨(nT c2)⟩,⟨(bT k x5.1 x5.2.1 x5.2.2.1 x5.2.2.2 _ e1)⟩,⟨(bD k x1 x2 x3 x4 _ e0)⟩] (by kernel_rfl)
end Go.Ws

namespace Go.Ws
open Go.Proofs
set_option linter.unusedSimpArgs false
set_option linter.unusedVariables false
set_option maxRecDepth 1000000
set_option maxHeartbeats 4000000
theorem yY (k:Nat) (x1:aL) (r:aL) (h:oB k x1=some r):Tri Try.prog 35 [(.sl 2 (List.map aC x1))] [] (.ref 2 0 0 0 r.length .virt) [(.arr 2 (List.map aC r) 0 0 false)]:=opp_tri h
end Go.Ws

namespace Go.Ws
open Go.Proofs
set_option linter.unusedSimpArgs false
set_option linter.unusedVariables false
set_option maxRecDepth 1000000
set_option maxHeartbeats 4000000
noncomputable def X50:Ctx:=⟨Try.f50,[],true⟩
def z6 (x6:Int × aL × Bool × Int):Ans:=.call ⟨true,[]⟩ (.agg [(.int .i64 x6.1),(.sl 2 (List.map aC x6.2.1)),(.bool x6.2.2.1),(.int .i64 x6.2.2.2)]) []
def aFQ:Ans:=.norm 0 ⟨[(4,[]),(5,[(0,2)]),(6,[])],[⟨.tmp 4,[],none⟩],false,[],[]⟩
theorem kG (k:Nat) (x1:Int) (x2:aL) (x3:Bool) (x4:Int) (x5:Int) (r:Int × aL × Bool × Int × aL × Int) (h:mY k x1 x2 x3 x4 x5=some r):Tri Try.prog 50 [(.agg [(.int .i64 x1),(.sl 2 (List.map aC x2)),(.bool x3),(.int .i64 x4)]),(.int .i64 x5)] [] (.tup [(.agg [(.int .i64 r.1),(.sl 2 (List.map aC r.2.1)),(.bool r.2.2.1),(.int .i64 r.2.2.2.1)]),(.sl 2 (List.map aC r.2.2.2.2.1)),(.int .i64 r.2.2.2.2.2)]) []:=by
 unfold mY at h
 obtain⟨x6,e0,h⟩:=bsm h
 obtain⟨x7,e1,h⟩:=bsm h
 by_cases c2:x7=true
 · rw[if_pos c2] at h
   by_cases c3:eqI x5 1=true
   · rw[if_pos c3] at h
     by_cases c4:eqI x6.2.2.2 x5=true
     · rw[if_pos c4] at h
       obtain rfl:=osi h
       exact Tri.of (x:=X50) aK qO [(z6 x6),.call ⟨true,[]⟩ (.bool x7) [],df,df,df,df,df,df,df,df,df,dt,aFQ] [⟨c4⟩,⟨rF⟩,⟨(nF c2)⟩,⟨(nF c3)⟩,⟨(nF c2)⟩,⟨(nF c3)⟩,⟨(nF c3)⟩,⟨(nF c2)⟩,⟨(nF c2)⟩,⟨(nF c2)⟩,⟨(bT k x6.1 x6.2.1 x6.2.2.1 x6.2.2.2 _ e1)⟩,⟨(bD k x1 x2 x3 x4 _ e0)⟩] (by kernel_rfl)
     rw[if_neg c4] at h;replace c4:=eqf c4
     by_cases c5:eqI x6.1 3=true
     · rw[if_pos c5] at h
       obtain rfl:=osi h
       exact Tri.of (x:=X50) aK qO [(z6 x6),.call ⟨true,[]⟩ (.bool x7) [],df,df,df,df,df,df,df,df,df,df,dt,dt,dt,dt,dt,dt,aFQ] [⟨rT⟩,⟨c5⟩,⟨c5⟩,⟨c5⟩,⟨c5⟩,⟨c5⟩,⟨c4⟩,⟨rF⟩,⟨(nF c2)⟩,⟨(nF c3)⟩,⟨(nF c2)⟩,⟨(nF c3)⟩,⟨(nF c3)⟩,⟨(nF c2)⟩,⟨(nF c2)⟩,⟨(nF c2)⟩,⟨(bT k x6.1 x6.2.1 x6.2.2.1 x6.2.2.2 _ e1)⟩,⟨(bD k x1 x2 x3 x4 _ e0)⟩] (by kernel_rfl)
     rw[if_neg c5] at h;replace c5:=eqf c5
     by_cases c6:eqI x6.1 1=true
     · rw[if_pos c6] at h
       by_cases c7:eqB (eqI x5 1) x6.2.2.1=true
       · rw[if_pos c7] at h
         obtain rfl:=osi h
         exact Tri.of (x:=X50) aK qO [(z6 x6),.call ⟨true,[]⟩ (.bool x7) [],df,df,df,df,df,df,df,df,df,df,df,df,df,dt,dt,dt,df,dt,df,df,dt,aFQ] [⟨c7⟩,⟨(nF c6)⟩,⟨c5⟩,⟨c3⟩,⟨c5⟩,⟨c3⟩,⟨c3⟩,⟨c3⟩,⟨c5⟩,⟨c5⟩,⟨c5⟩,⟨c4⟩,⟨rF⟩,⟨(nF c2)⟩,⟨(nF c3)⟩,⟨(nF c2)⟩,⟨(nF c3)⟩,⟨(nF c3)⟩,⟨(nF c2)⟩,⟨(nF c2)⟩,⟨(nF c2)⟩,⟨(bT k x6.1 x6.2.1 x6.2.2.1 x6.2.2.2 _ e1)⟩,⟨(bD k x1 x2 x3 x4 _ e0)⟩] (by kernel_rfl)
       rw[if_neg c7] at h;replace c7:=eqf c7
       by_cases c8:x6.2.2.1=true
       · rw[if_pos c8] at h
         obtain⟨x8,e9,h⟩:=bsm h
         obtain rfl:=osi h
         exact Tri.of (x:=X50) aK qO [(z6 x6),.call ⟨true,[]⟩ (.bool x7) [],df,df,df,df,df,df,df,df,df,df,df,df,df,dt,dt,dt,df,dt,df,df,df,dt,.call ⟨true,[]⟩ (.ref 2 0 0 0 x8.length .virt) [(.arr 2 (List.map aC x8) 0 0 false)],.rows (List.map aC x8)] [⟨(aQ aC (l:=x8) (n:=x8.length) rfl)⟩,⟨(a9 aC (Nat.le_refl x8.length):0+x8.length≤(List.map aC x8).length)⟩,⟨(yY k x6.2.1 _ e9)⟩,⟨c8⟩,⟨c7⟩,⟨(nF c6)⟩,⟨c5⟩,⟨c3⟩,⟨c5⟩,⟨c3⟩,⟨c3⟩,⟨c3⟩,⟨c5⟩,⟨c5⟩,⟨c5⟩,⟨c4⟩,⟨rF⟩,⟨(nF c2)⟩,⟨(nF c3)⟩,⟨(nF c2)⟩,⟨(nF c3)⟩,⟨(nF c3)⟩,⟨(nF c2)⟩,⟨(nF c2)⟩,⟨(nF c2)⟩,⟨(bT k x6.1 x6.2.1 x6.2.2.1 x6.2.2.2 _ e1)⟩,⟨(bD k x1 x2 x3 x4 _ e0)⟩] (by kernel_rfl)
       rw[if_neg c8] at h;replace c8:=eqf c8
       obtain⟨x8,e9,h⟩:=bsm h
       obtain rfl:=osi h
       exact Tri.of (x:=X50) aK qO [(z6 x6),.call ⟨true,[]⟩ (.bool x7) [],df,df,df,df,df,df,df,df,df,df,df,df,df,dt,dt,dt,df,dt,df,df,df,df,.call ⟨true,[]⟩ (.ref 2 0 0 0 x6.2.1.length .virt) [(.arr 2 (List.map aC x6.2.1) 0 0 false)],.rows (List.map aC x6.2.1)] [⟨(aQ aC (l:=x6.2.1) (n:=x6.2.1.length) rfl)⟩,⟨(a9 aC (Nat.le_refl x6.2.1.length):0+x6.2.1.length≤(List.map aC x6.2.1).length)⟩,⟨(iV k x6.2.1 _ e9)⟩,⟨c8⟩,⟨c7⟩,⟨(nF c6)⟩,⟨c5⟩,⟨c3⟩,⟨c5⟩,⟨c3⟩,⟨c3⟩,⟨c3⟩,⟨c5⟩,⟨c5⟩,⟨c5⟩,⟨c4⟩,⟨rF⟩,⟨(nF c2)⟩,⟨(nF c3)⟩,⟨(nF c2)⟩,⟨(nF c3)⟩,⟨(nF c3)⟩,⟨(nF c2)⟩,⟨(nF c2)⟩,⟨(nF c2)⟩,⟨(bT k x6.1 x6.2.1 x6.2.2.1 x6.2.2.2 _ e1)⟩,⟨(bD k x1 x2 x3 x4 _ e0)⟩] (by kernel_rfl)
     rw[if_neg c6] at h;replace c6:=eqf c6
     obtain rfl:=osi h
     exact Tri.of (x:=X50) aK qO [(z6 x6),.call ⟨true,[]⟩ (.bool x7) [],df,df,df,df,df,df,df,df,df,df,df,df,df,dt,dt,dt,df,dt,df,dt,aFQ] [⟨(nT c6)⟩,⟨c5⟩,⟨c3⟩,⟨c5⟩,⟨c3⟩,⟨c3⟩,⟨c3⟩,⟨c5⟩,⟨c5⟩,⟨c5⟩,⟨c4⟩,⟨rF⟩,⟨(nF c2)⟩,⟨(nF c3)⟩,⟨(nF c2)⟩,⟨(nF c3)⟩,⟨(nF c3)⟩,⟨(nF c2)⟩,⟨(nF c2)⟩,⟨(nF c2)⟩,⟨(bT k x6.1 x6.2.1 x6.2.2.1 x6.2.2.2 _ e1)⟩,⟨(bD k x1 x2 x3 x4 _ e0)⟩] (by kernel_rfl)
   rw[if_neg c3] at h;replace c3:=eqf c3
   by_cases c4:eqI x5 2=true
   · rw[if_pos c4] at h
     by_cases c5:eqI x6.2.2.2 x5=true
     · rw[if_pos c5] at h
       obtain rfl:=osi h
       exact Tri.of (x:=X50) aK qO [(z6 x6),.call ⟨true,[]⟩ (.bool x7) [],df,df,df,dt,dt,df,dt,df,df,dt,aFQ] [⟨c5⟩,⟨(nF c4)⟩,⟨(nF c2)⟩,⟨(nT c3)⟩,⟨(nF c2)⟩,⟨(nT c3)⟩,⟨(nT c3)⟩,⟨(nF c2)⟩,⟨(nF c2)⟩,⟨(nF c2)⟩,⟨(bT k x6.1 x6.2.1 x6.2.2.1 x6.2.2.2 _ e1)⟩,⟨(bD k x1 x2 x3 x4 _ e0)⟩] (by kernel_rfl)
     rw[if_neg c5] at h;replace c5:=eqf c5
     by_cases c6:eqI x6.1 3=true
     · rw[if_pos c6] at h
       obtain rfl:=osi h
       exact Tri.of (x:=X50) aK qO [(z6 x6),.call ⟨true,[]⟩ (.bool x7) [],df,df,df,dt,dt,df,dt,df,df,df,dt,dt,dt,dt,dt,dt,aFQ] [⟨rT⟩,⟨c6⟩,⟨c6⟩,⟨c6⟩,⟨c6⟩,⟨c6⟩,⟨c5⟩,⟨(nF c4)⟩,⟨(nF c2)⟩,⟨(nT c3)⟩,⟨(nF c2)⟩,⟨(nT c3)⟩,⟨(nT c3)⟩,⟨(nF c2)⟩,⟨(nF c2)⟩,⟨(nF c2)⟩,⟨(bT k x6.1 x6.2.1 x6.2.2.1 x6.2.2.2 _ e1)⟩,⟨(bD k x1 x2 x3 x4 _ e0)⟩] (by kernel_rfl)
     rw[if_neg c6] at h;replace c6:=eqf c6
     by_cases c7:eqB (eqI x5 1) x6.2.2.1=true
     · rw[if_pos c7] at h
       obtain rfl:=osi h
       exact Tri.of (x:=X50) aK qO [(z6 x6),.call ⟨true,[]⟩ (.bool x7) [],df,df,df,dt,dt,df,dt,df,df,df,df,df,df,df,df,df,df,df,df,df,dt,aFQ] [⟨c7⟩,⟨rF⟩,⟨c6⟩,⟨c3⟩,⟨c6⟩,⟨c3⟩,⟨c3⟩,⟨c3⟩,⟨c6⟩,⟨c6⟩,⟨c6⟩,⟨c5⟩,⟨(nF c4)⟩,⟨(nF c2)⟩,⟨(nT c3)⟩,⟨(nF c2)⟩,⟨(nT c3)⟩,⟨(nT c3)⟩,⟨(nF c2)⟩,⟨(nF c2)⟩,⟨(nF c2)⟩,⟨(bT k x6.1 x6.2.1 x6.2.2.1 x6.2.2.2 _ e1)⟩,⟨(bD k x1 x2 x3 x4 _ e0)⟩] (by kernel_rfl)
     rw[if_neg c7] at h;replace c7:=eqf c7
     by_cases c8:x6.2.2.1=true
     · rw[if_pos c8] at h
       obtain⟨x8,e9,h⟩:=bsm h
       obtain rfl:=osi h
       exact Tri.of (x:=X50) aK qO [(z6 x6),.call ⟨true,[]⟩ (.bool x7) [],df,df,df,dt,dt,df,dt,df,df,df,df,df,df,df,df,df,df,df,df,df,df,dt,.call ⟨true,[]⟩ (.ref 2 0 0 0 x8.length .virt) [(.arr 2 (List.map aC x8) 0 0 false)],.rows (List.map aC x8)] [⟨(aQ aC (l:=x8) (n:=x8.length) rfl)⟩,⟨(a9 aC (Nat.le_refl x8.length):0+x8.length≤(List.map aC x8).length)⟩,⟨(yY k x6.2.1 _ e9)⟩,⟨c8⟩,⟨c7⟩,⟨rF⟩,⟨c6⟩,⟨c3⟩,⟨c6⟩,⟨c3⟩,⟨c3⟩,⟨c3⟩,⟨c6⟩,⟨c6⟩,⟨c6⟩,⟨c5⟩,⟨(nF c4)⟩,⟨(nF c2)⟩,⟨(nT c3)⟩,⟨(nF c2)⟩,⟨(nT c3)⟩,⟨(nT c3)⟩,⟨(nF c2)⟩,⟨(nF c2)⟩,⟨(nF c2)⟩,⟨(bT k x6.1 x6.2.1 x6.2.2.1 x6.2.2.2 _ e1)⟩,⟨(bD k x1 x2 x3 x4 _ e0)⟩] (by kernel_rfl)
     rw[if_neg c8] at h;replace c8:=eqf c8
     obtain⟨x8,e9,h⟩:=bsm h
     obtain rfl:=osi h
     exact Tri.of (x:=X50) aK qO [(z6 x6),.call ⟨true,[]⟩ (.bool x7) [],df,df,df,dt,dt,df,dt,df,df,df,df,df,df,df,df,df,df,df,df,df,df,df,.call ⟨true,[]⟩ (.ref 2 0 0 0 x6.2.1.length .virt) [(.arr 2 (List.map aC x6.2.1) 0 0 false)],.rows (List.map aC x6.2.1)] [⟨(aQ aC (l:=x6.2.1) (n:=x6.2.1.length) rfl)⟩,⟨(a9 aC (Nat.le_refl x6.2.1.length):0+x6.2.1.length≤(List.map aC x6.2.1).length)⟩,⟨(iV k x6.2.1 _ e9)⟩,⟨c8⟩,⟨c7⟩,⟨rF⟩,⟨c6⟩,⟨c3⟩,⟨c6⟩,⟨c3⟩,⟨c3⟩,⟨c3⟩,⟨c6⟩,⟨c6⟩,⟨c6⟩,⟨c5⟩,⟨(nF c4)⟩,⟨(nF c2)⟩,⟨(nT c3)⟩,⟨(nF c2)⟩,⟨(nT c3)⟩,⟨(nT c3)⟩,⟨(nF c2)⟩,⟨(nF c2)⟩,⟨(nF c2)⟩,⟨(bT k x6.1 x6.2.1 x6.2.2.1 x6.2.2.2 _ e1)⟩,⟨(bD k x1 x2 x3 x4 _ e0)⟩] (by kernel_rfl)
   rw[if_neg c4] at h;replace c4:=eqf c4
   obtain rfl:=osi h
   exact Tri.of (x:=X50) aK qO [(z6 x6),.call ⟨true,[]⟩ (.bool x7) [],df,df,df,dt,dt,df,dt,df,dt,aFQ] [⟨(nT c4)⟩,⟨(nF c2)⟩,⟨(nT c3)⟩,⟨(nF c2)⟩,⟨(nT c3)⟩,⟨(nT c3)⟩,⟨(nF c2)⟩,⟨(nF c2)⟩,⟨(nF c2)⟩,⟨(bT k x6.1 x6.2.1 x6.2.2.1 x6.2.2.2 _ e1)⟩,⟨(bD k x1 x2 x3 x4 _ e0)⟩] (by kernel_rfl)
 rw[if_neg c2] at h;replace c2:=eqf c2
 obtain rfl:=osi h
 exact Tri.of (x:=X50) aK qO [(z6 x6),.call ⟨true,[]⟩ (.bool x7) [],dt,dt,dt,dt,dt,dt,aFQ] [⟨rT⟩,⟨(nT c2)⟩,⟨(nT c2)⟩,⟨(nT c2)⟩,⟨(nT c2)⟩,⟨(nT c2)⟩,⟨(bT k x6.1 x6.2.1 x6.2.2.1 x6.2.2.2 _ e1)⟩,⟨(bD k x1 x2 x3 x4 _ e0)⟩] (by kernel_rfl)
end Go.Ws

namespace Go.Ws
open Go.Proofs
set_option linter.unusedSimpArgs false
set_option linter.unusedVariables false
set_option maxRecDepth 1000000
set_option maxHeartbeats 4000000
noncomputable def X78:Ctx:=⟨Try.f78,[],true⟩
theorem gB (x1:Int) (x2:Int):Tri Try.prog 78 [(.int .i64 x1),(.int .u8 x2)] [] (.bool (iC x1 x2)) []:=by
 obtain⟨r,h⟩:∃r,iC x1 x2=r:=⟨_,rfl⟩
 try rw[h]
 unfold iC at h
 by_cases c0:ltI x2 64=true
 · rw[if_pos c0] at h
   by_cases c1:ltI x1 0=true
   · rw[if_pos c1] at h
     obtain rfl:=h
     exact Tri.of (x:=X78) aK aMQ [dt,dt,dt,df,df,df] [⟨(nF c1)⟩,⟨(nF c1)⟩,⟨(nF c1)⟩,⟨c0⟩,⟨c0⟩,⟨c0⟩] (by kernel_rfl)
   rw[if_neg c1] at h;replace c1:=eqf c1
   obtain rfl:=h
   exact Tri.of (x:=X78) aK aMQ [dt,dt,dt,dt,dt,dt] [⟨(nT c1)⟩,⟨(nT c1)⟩,⟨(nT c1)⟩,⟨c0⟩,⟨c0⟩,⟨c0⟩] (by kernel_rfl)
 rw[if_neg c0] at h;replace c0:=eqf c0
 obtain rfl:=h
 exact Tri.of (x:=X78) aK aMQ [df,df,df,df,df,df] [⟨rF⟩,⟨rF⟩,⟨rF⟩,⟨c0⟩,⟨c0⟩,⟨c0⟩] (by kernel_rfl)
end Go.Ws

namespace Go.Ws
open Go.Proofs
set_option linter.unusedSimpArgs false
set_option linter.unusedVariables false
set_option maxRecDepth 1000000
set_option maxHeartbeats 4000000
noncomputable def X77:Ctx:=⟨Try.f77,[],true⟩
noncomputable def L77_1:Code:=at_ Try.f77 [1,0,1,4,5,1,0,4,1,1,1,1,4,5]
def S77_1 (x1:aN) (aP:Int × Int × Bool) (cM:Int) (dB:Int):St:=⟨mkT 81 [(0,(.sl 3 (List.map aA x1))),(3,(.int .i64 dB)),(4,(.hp 0 0)),(5,(.int .i64 cM))],[(.row [(.int .u8 aP.1),(.int .i64 aP.2.1),(.bool aP.2.2)])]⟩
def aGB (x1:aN) (v77012_1:Int):St:=⟨mkT 81 [(0,(.sl 3 (List.map aA x1))),(3,(.int .i64 v77012_1))],[]⟩
def O77_1 (x1:aN) (aP:Int × Int × Bool) (y:(Sum (Int) (Bool))):GX:=match y with
 | .inl y=>.st (.exit 2) (aGB x1 y)
 | .inr y=>.fin (.bool y) []
noncomputable def L77_0:Code:=at_ Try.f77 [1,0,1,4,5]
def S77_0 (x1:aN) (bR:Int):St:=⟨mkT 81 [(0,(.sl 3 (List.map aA x1))),(3,(.int .i64 bR))],[]⟩
def aNT:St:=⟨mkT 81 [],[]⟩
def O77_0 (x1:aN) (y:pO):GX:=match y with
 | .inl y=>.st (.exit 0) (aNT)
 | .inr y=>.fin (.bool y) []
def aGE (aP:Int × Int × Bool):Ans:=.row [(.int .u8 aP.1),(.int .i64 aP.2.1),(.bool aP.2.2)]
def aFT (aP:Int × Int × Bool):Ans:=.call ⟨true,[]⟩ (.bool (iC aP.2.1 aP.1)) []
def aLU:Ans:=.norm 8 ⟨[(0,[]),(3,[]),(4,[]),(5,[])],[⟨.tmp 4,[],none⟩],false,[],[]⟩
theorem gU (x1:aN) (aP:Int × Int × Bool) (y:(Sum (Int) (Bool))):∀(k:Nat) (cM:Int) (dB:Int),dX k x1 aP cM dB=some y→LT Try.prog X77 L77_1 (S77_1 x1 aP cM dB) (O77_1 x1 aP y)
 | 0,cM,dB,h=>by cases h
 | k+1,cM,dB,h=>by
  rw[dX] at h
  by_cases cL0:ltI cM (nI x1.length)=true
  · rw[if_pos cL0] at h
    by_cases cL1:eqI cM dB=true
    · rw[if_pos cL1] at h
      exact LT.next aK (hs:=⟨[(0,[]),(3,[]),(4,[]),(5,[])],[⟨.tmp 4,[],none⟩],false,[],[]⟩) (es:=none) [.n x1.length,dt,df,df,df,df,df,df,df,df,df,df,df,df,df] [⟨rF⟩,⟨rF⟩,⟨rF⟩,⟨rF⟩,⟨(nF cL1)⟩,⟨(nF cL1)⟩,⟨(nF cL1)⟩,⟨(nF cL1)⟩,⟨(nF cL1)⟩,⟨(nF cL1)⟩,⟨(nF cL1)⟩,⟨(nF cL1)⟩,⟨(nF cL1)⟩,⟨cL0⟩,⟨(aG aA x1)⟩] (by kernel_rfl) (gU x1 aP y k (aO .i64 cM 1) dB h)
    rw[if_neg cL1] at h;replace cL1:=eqf cL1
    by_cases cL2:inI cM x1.length=true
    · rw[if_pos cL2] at h
      obtain⟨vX,eL3,h⟩:=bsm h
      by_cases cL4:eqI vX.1 aP.1=true
      · rw[if_pos cL4] at h
        by_cases cL5:aP.2.2=true
        · rw[if_pos cL5] at h
          obtain rfl:=osi h
          show LT _ _ _ _ (.fin (.bool false) [])
          exact LT.done aK (hs:=⟨[],[],false,[],[]⟩) (es:=none) [.n x1.length,dt,dt,dt,dt,.n x1.length,dt,dt,.row [(.int .u8 vX.1)],dt,dt,dt,dt,dt,dt,dt,dt] [⟨cL5⟩,⟨cL4⟩,⟨cL4⟩,⟨cL4⟩,⟨(nT cL1)⟩,⟨(nT cL1)⟩,⟨(nT cL1)⟩,⟨(nT cL1)⟩,⟨(aI (e:=aA) eL3 3 0 1 (by decide))⟩,⟨(nT cL1)⟩,⟨(nT cL1)⟩,⟨cL2⟩,⟨(aG aA x1)⟩,⟨(nT cL1)⟩,⟨(nT cL1)⟩,⟨(nT cL1)⟩,⟨cL0⟩,⟨(aG aA x1)⟩] (by kernel_rfl) (fun s h=>by cases h)
        rw[if_neg cL5] at h;replace cL5:=eqf cL5
        exact LT.next aK (hs:=⟨[(0,[]),(3,[]),(4,[]),(5,[])],[⟨.tmp 4,[],none⟩],false,[],[]⟩) (es:=none) [.n x1.length,dt,dt,dt,dt,.n x1.length,dt,dt,.row [(.int .u8 vX.1)],dt,dt,dt,dt,dt,dt,dt,df] [⟨cL5⟩,⟨cL4⟩,⟨cL4⟩,⟨cL4⟩,⟨(nT cL1)⟩,⟨(nT cL1)⟩,⟨(nT cL1)⟩,⟨(nT cL1)⟩,⟨(aI (e:=aA) eL3 3 0 1 (by decide))⟩,⟨(nT cL1)⟩,⟨(nT cL1)⟩,⟨cL2⟩,⟨(aG aA x1)⟩,⟨(nT cL1)⟩,⟨(nT cL1)⟩,⟨(nT cL1)⟩,⟨cL0⟩,⟨(aG aA x1)⟩] (by kernel_rfl) (gU x1 aP y k (aO .i64 cM 1) dB h)
      rw[if_neg cL4] at h;replace cL4:=eqf cL4
      exact LT.next aK (hs:=⟨[(0,[]),(3,[]),(4,[]),(5,[])],[⟨.tmp 4,[],none⟩],false,[],[]⟩) (es:=none) [.n x1.length,dt,dt,dt,dt,.n x1.length,dt,dt,.row [(.int .u8 vX.1)],dt,dt,dt,dt,df,df,df,df] [⟨rF⟩,⟨cL4⟩,⟨cL4⟩,⟨cL4⟩,⟨(nT cL1)⟩,⟨(nT cL1)⟩,⟨(nT cL1)⟩,⟨(nT cL1)⟩,⟨(aI (e:=aA) eL3 3 0 1 (by decide))⟩,⟨(nT cL1)⟩,⟨(nT cL1)⟩,⟨cL2⟩,⟨(aG aA x1)⟩,⟨(nT cL1)⟩,⟨(nT cL1)⟩,⟨(nT cL1)⟩,⟨cL0⟩,⟨(aG aA x1)⟩] (by kernel_rfl) (gU x1 aP y k (aO .i64 cM 1) dB h)
    rw[if_neg cL2] at h;replace cL2:=eqf cL2
    cases h
  rw[if_neg cL0] at h;replace cL0:=eqf cL0
  obtain rfl:=osi h
  show LT _ _ _ _ (.st (.exit 2) (aGB x1 dB))
  exact LT.done aK (hs:=⟨[],[],false,[],[]⟩) (es:=(some ⟨[(0,[]),(3,[])],[],false,[],[]⟩)) [.n x1.length,df] [⟨cL0⟩,⟨(aG aA x1)⟩] (by kernel_rfl) (fun s h=>by cases h)
theorem m7 (x1:aN) (y:pO):∀(k:Nat) (bR:Int),eY k x1 bR=some y→LT Try.prog X77 L77_0 (S77_0 x1 bR) (O77_0 x1 y)
 | 0,bR,h=>by cases h
 | k+1,bR,h=>by
  rw[eY] at h
  by_cases cL0:ltI bR (nI x1.length)=true
  · rw[if_pos cL0] at h
    by_cases cL1:inI bR x1.length=true
    · rw[if_pos cL1] at h
      obtain⟨aP,eL2,h⟩:=bsm h
      by_cases cL3:(iC aP.2.1 aP.1)=true
      · rw[if_pos cL3] at h
        by_cases cL4:ltI 0 bR=true
        · rw[if_pos cL4] at h
          by_cases cL5:inI (pN .i64 bR 1) x1.length=true
          · rw[if_pos cL5] at h
            obtain⟨f8,eL6,h⟩:=bsm h
            by_cases cL7:ltI f8.1 aP.1=true
            · rw[if_pos cL7] at h
              obtain⟨kK,eL8,h⟩:=bsm h
              cases kK with
              | inl fZ =>
               simp only[Sum.elim_inl] at h
               exact LT.next aK (hs:=⟨[(0,[]),(3,[])],[],false,[],[]⟩) (es:=none) [.n x1.length,dt,.n x1.length,(aGE aP),(aFT aP),df,dt,dt,dt,dt,.n x1.length,dt,dt,.row [(.int .u8 f8.1)],dt,dt,dt,dt,dt,dt,dt,dt,dt,dt,dt,dt,dt,dt,dt,dt,dt,dt,dt,df,aLU,.out (.st .normal (aGB x1 fZ))] [⟨(LT.block (gU x1 aP _ k 0 bR eL8))⟩,⟨(nF rfl)⟩,⟨cL4⟩,⟨cL4⟩,⟨cL7⟩,⟨cL4⟩,⟨cL7⟩,⟨cL7⟩,⟨cL7⟩,⟨cL7⟩,⟨cL7⟩,⟨cL7⟩,⟨cL7⟩,⟨cL7⟩,⟨cL7⟩,⟨cL7⟩,⟨cL7⟩,⟨cL4⟩,⟨cL4⟩,⟨cL4⟩,⟨cL4⟩,⟨(aI (e:=aA) eL6 3 0 1 (by decide))⟩,⟨cL4⟩,⟨cL4⟩,⟨cL5⟩,⟨(aG aA x1)⟩,⟨cL4⟩,⟨cL4⟩,⟨cL4⟩,⟨cL4⟩,⟨(nF cL3)⟩,⟨(gB aP.2.1 aP.1)⟩,⟨(aI (e:=aA) eL2 3 0 3 (by decide))⟩,⟨cL1⟩,⟨(aG aA x1)⟩,⟨cL0⟩,⟨(aG aA x1)⟩] (by kernel_rfl) (m7 x1 y k (aO .i64 fZ 1) h)
              | inr fZ =>
               simp only[Sum.elim_inr] at h
               obtain rfl:=osi h
               show LT _ _ _ _ (.fin (.bool fZ) [])
               exact LT.done aK (hs:=⟨[],[],false,[],[]⟩) (es:=none) [.n x1.length,dt,.n x1.length,(aGE aP),(aFT aP),df,dt,dt,dt,dt,.n x1.length,dt,dt,.row [(.int .u8 f8.1)],dt,dt,dt,dt,dt,dt,dt,dt,dt,dt,dt,dt,dt,dt,dt,dt,dt,dt,dt,df,aLU,.out (.fin (.bool fZ) [])] [⟨(LT.blockFin (id:=2) (gU x1 aP _ k 0 bR eL8))⟩,⟨(nF rfl)⟩,⟨cL4⟩,⟨cL4⟩,⟨cL7⟩,⟨cL4⟩,⟨cL7⟩,⟨cL7⟩,⟨cL7⟩,⟨cL7⟩,⟨cL7⟩,⟨cL7⟩,⟨cL7⟩,⟨cL7⟩,⟨cL7⟩,⟨cL7⟩,⟨cL7⟩,⟨cL4⟩,⟨cL4⟩,⟨cL4⟩,⟨cL4⟩,⟨(aI (e:=aA) eL6 3 0 1 (by decide))⟩,⟨cL4⟩,⟨cL4⟩,⟨cL5⟩,⟨(aG aA x1)⟩,⟨cL4⟩,⟨cL4⟩,⟨cL4⟩,⟨cL4⟩,⟨(nF cL3)⟩,⟨(gB aP.2.1 aP.1)⟩,⟨(aI (e:=aA) eL2 3 0 3 (by decide))⟩,⟨cL1⟩,⟨(aG aA x1)⟩,⟨cL0⟩,⟨(aG aA x1)⟩] (by kernel_rfl) (fun s h=>by cases h)
            rw[if_neg cL7] at h;replace cL7:=eqf cL7
            by_cases cL8:eqI f8.1 aP.1=true
            · rw[if_pos cL8] at h
              by_cases cL9:ltI f8.2.1 aP.2.1=true
              · rw[if_pos cL9] at h
                obtain⟨kK,eL10,h⟩:=bsm h
                cases kK with
                | inl fZ =>
                 simp only[Sum.elim_inl] at h
                 exact LT.next aK (hs:=⟨[(0,[]),(3,[])],[],false,[],[]⟩) (es:=none) [.n x1.length,dt,.n x1.length,(aGE aP),(aFT aP),df,dt,dt,dt,dt,.n x1.length,dt,dt,.row [(.int .u8 f8.1)],dt,dt,dt,dt,df,df,df,df,.n x1.length,df,df,.row [(.int .u8 f8.1)],df,df,df,df,dt,dt,dt,dt,.n x1.length,dt,dt,.row [(.int .i64 f8.2.1)],dt,dt,dt,df,dt,dt,df,dt,dt,df,aLU,.out (.st .normal (aGB x1 fZ))] [⟨(LT.block (gU x1 aP _ k 0 bR eL10))⟩,⟨(nF cL9)⟩,⟨cL4⟩,⟨cL4⟩,⟨cL7⟩,⟨cL4⟩,⟨cL8⟩,⟨cL7⟩,⟨cL8⟩,⟨cL8⟩,⟨cL8⟩,⟨(aI (e:=aA) eL6 3 1 1 (by decide))⟩,⟨cL8⟩,⟨cL8⟩,⟨cL5⟩,⟨(aG aA x1)⟩,⟨cL8⟩,⟨cL8⟩,⟨cL8⟩,⟨cL8⟩,⟨cL7⟩,⟨cL7⟩,⟨cL7⟩,⟨cL7⟩,⟨(aI (e:=aA) eL6 3 0 1 (by decide))⟩,⟨cL7⟩,⟨cL7⟩,⟨cL5⟩,⟨(aG aA x1)⟩,⟨cL7⟩,⟨cL7⟩,⟨cL7⟩,⟨cL7⟩,⟨cL4⟩,⟨cL4⟩,⟨cL4⟩,⟨cL4⟩,⟨(aI (e:=aA) eL6 3 0 1 (by decide))⟩,⟨cL4⟩,⟨cL4⟩,⟨cL5⟩,⟨(aG aA x1)⟩,⟨cL4⟩,⟨cL4⟩,⟨cL4⟩,⟨cL4⟩,⟨(nF cL3)⟩,⟨(gB aP.2.1 aP.1)⟩,⟨(aI (e:=aA) eL2 3 0 3 (by decide))⟩,⟨cL1⟩,⟨(aG aA x1)⟩,⟨cL0⟩,⟨(aG aA x1)⟩] (by kernel_rfl) (m7 x1 y k (aO .i64 fZ 1) h)
                | inr fZ =>
                 simp only[Sum.elim_inr] at h
                 obtain rfl:=osi h
                 show LT _ _ _ _ (.fin (.bool fZ) [])
                 exact LT.done aK (hs:=⟨[],[],false,[],[]⟩) (es:=none) [.n x1.length,dt,.n x1.length,(aGE aP),(aFT aP),df,dt,dt,dt,dt,.n x1.length,dt,dt,.row [(.int .u8 f8.1)],dt,dt,dt,dt,df,df,df,df,.n x1.length,df,df,.row [(.int .u8 f8.1)],df,df,df,df,dt,dt,dt,dt,.n x1.length,dt,dt,.row [(.int .i64 f8.2.1)],dt,dt,dt,df,dt,dt,df,dt,dt,df,aLU,.out (.fin (.bool fZ) [])] [⟨(LT.blockFin (id:=2) (gU x1 aP _ k 0 bR eL10))⟩,⟨(nF cL9)⟩,⟨cL4⟩,⟨cL4⟩,⟨cL7⟩,⟨cL4⟩,⟨cL8⟩,⟨cL7⟩,⟨cL8⟩,⟨cL8⟩,⟨cL8⟩,⟨(aI (e:=aA) eL6 3 1 1 (by decide))⟩,⟨cL8⟩,⟨cL8⟩,⟨cL5⟩,⟨(aG aA x1)⟩,⟨cL8⟩,⟨cL8⟩,⟨cL8⟩,⟨cL8⟩,⟨cL7⟩,⟨cL7⟩,⟨cL7⟩,⟨cL7⟩,⟨(aI (e:=aA) eL6 3 0 1 (by decide))⟩,⟨cL7⟩,⟨cL7⟩,⟨cL5⟩,⟨(aG aA x1)⟩,⟨cL7⟩,⟨cL7⟩,⟨cL7⟩,⟨cL7⟩,⟨cL4⟩,⟨cL4⟩,⟨cL4⟩,⟨cL4⟩,⟨(aI (e:=aA) eL6 3 0 1 (by decide))⟩,⟨cL4⟩,⟨cL4⟩,⟨cL5⟩,⟨(aG aA x1)⟩,⟨cL4⟩,⟨cL4⟩,⟨cL4⟩,⟨cL4⟩,⟨(nF cL3)⟩,⟨(gB aP.2.1 aP.1)⟩,⟨(aI (e:=aA) eL2 3 0 3 (by decide))⟩,⟨cL1⟩,⟨(aG aA x1)⟩,⟨cL0⟩,⟨(aG aA x1)⟩] (by kernel_rfl) (fun s h=>by cases h)
              rw[if_neg cL9] at h;replace cL9:=eqf cL9
              obtain rfl:=osi h
              show LT _ _ _ _ (.fin (.bool false) [])
              exact LT.done aK (hs:=⟨[],[],false,[],[]⟩) (es:=none) [.n x1.length,dt,.n x1.length,(aGE aP),(aFT aP),df,dt,dt,dt,dt,.n x1.length,dt,dt,.row [(.int .u8 f8.1)],dt,dt,dt,dt,df,df,df,df,.n x1.length,df,df,.row [(.int .u8 f8.1)],df,df,df,df,dt,dt,dt,dt,.n x1.length,dt,dt,.row [(.int .i64 f8.2.1)],dt,dt,dt,df,dt,dt,df,dt,dt,dt] [⟨(nT cL9)⟩,⟨cL4⟩,⟨cL4⟩,⟨cL7⟩,⟨cL4⟩,⟨cL8⟩,⟨cL7⟩,⟨cL8⟩,⟨cL8⟩,⟨cL8⟩,⟨(aI (e:=aA) eL6 3 1 1 (by decide))⟩,⟨cL8⟩,⟨cL8⟩,⟨cL5⟩,⟨(aG aA x1)⟩,⟨cL8⟩,⟨cL8⟩,⟨cL8⟩,⟨cL8⟩,⟨cL7⟩,⟨cL7⟩,⟨cL7⟩,⟨cL7⟩,⟨(aI (e:=aA) eL6 3 0 1 (by decide))⟩,⟨cL7⟩,⟨cL7⟩,⟨cL5⟩,⟨(aG aA x1)⟩,⟨cL7⟩,⟨cL7⟩,⟨cL7⟩,⟨cL7⟩,⟨cL4⟩,⟨cL4⟩,⟨cL4⟩,⟨cL4⟩,⟨(aI (e:=aA) eL6 3 0 1 (by decide))⟩,⟨cL4⟩,⟨cL4⟩,⟨cL5⟩,⟨(aG aA x1)⟩,⟨cL4⟩,⟨cL4⟩,⟨cL4⟩,⟨cL4⟩,⟨(nF cL3)⟩,⟨(gB aP.2.1 aP.1)⟩,⟨(aI (e:=aA) eL2 3 0 3 (by decide))⟩,⟨cL1⟩,⟨(aG aA x1)⟩,⟨cL0⟩,⟨(aG aA x1)⟩] (by kernel_rfl) (fun s h=>by cases h)
            rw[if_neg cL8] at h;replace cL8:=eqf cL8
            obtain rfl:=osi h
            show LT _ _ _ _ (.fin (.bool false) [])
            exact LT.done aK (hs:=⟨[],[],false,[],[]⟩) (es:=none) [.n x1.length,dt,.n x1.length,(aGE aP),(aFT aP),df,dt,dt,dt,dt,.n x1.length,dt,dt,.row [(.int .u8 f8.1)],dt,dt,dt,dt,df,df,df,df,.n x1.length,df,df,.row [(.int .u8 f8.1)],df,df,df,df,df,df,df,df,df,df,df,df,df,df,df,dt,df,dt,dt,dt] [⟨(nT rfl)⟩,⟨cL4⟩,⟨cL4⟩,⟨cL7⟩,⟨cL4⟩,⟨cL8⟩,⟨cL7⟩,⟨cL8⟩,⟨cL8⟩,⟨cL8⟩,⟨cL8⟩,⟨cL8⟩,⟨cL8⟩,⟨cL8⟩,⟨cL8⟩,⟨cL8⟩,⟨cL7⟩,⟨cL7⟩,⟨cL7⟩,⟨cL7⟩,⟨(aI (e:=aA) eL6 3 0 1 (by decide))⟩,⟨cL7⟩,⟨cL7⟩,⟨cL5⟩,⟨(aG aA x1)⟩,⟨cL7⟩,⟨cL7⟩,⟨cL7⟩,⟨cL7⟩,⟨cL4⟩,⟨cL4⟩,⟨cL4⟩,⟨cL4⟩,⟨(aI (e:=aA) eL6 3 0 1 (by decide))⟩,⟨cL4⟩,⟨cL4⟩,⟨cL5⟩,⟨(aG aA x1)⟩,⟨cL4⟩,⟨cL4⟩,⟨cL4⟩,⟨cL4⟩,⟨(nF cL3)⟩,⟨(gB aP.2.1 aP.1)⟩,⟨(aI (e:=aA) eL2 3 0 3 (by decide))⟩,⟨cL1⟩,⟨(aG aA x1)⟩,⟨cL0⟩,⟨(aG aA x1)⟩] (by kernel_rfl) (fun s h=>by cases h)
          rw[if_neg cL5] at h;replace cL5:=eqf cL5
          cases h
        rw[if_neg cL4] at h;replace cL4:=eqf cL4
        obtain⟨f8,eL5,h⟩:=bsm h
        cases f8 with
        | inl kK =>
         simp only[Sum.elim_inl] at h
         exact LT.next aK (hs:=⟨[(0,[]),(3,[])],[],false,[],[]⟩) (es:=none) [.n x1.length,dt,.n x1.length,(aGE aP),(aFT aP),df,df,df,df,df,df,df,df,df,df,df,df,df,df,df,aLU,.out (.st .normal (aGB x1 kK))] [⟨(LT.block (gU x1 aP _ k 0 bR eL5))⟩,⟨rF⟩,⟨cL4⟩,⟨cL4⟩,⟨cL4⟩,⟨cL4⟩,⟨cL4⟩,⟨cL4⟩,⟨cL4⟩,⟨cL4⟩,⟨cL4⟩,⟨cL4⟩,⟨cL4⟩,⟨cL4⟩,⟨cL4⟩,⟨(nF cL3)⟩,⟨(gB aP.2.1 aP.1)⟩,⟨(aI (e:=aA) eL2 3 0 3 (by decide))⟩,⟨cL1⟩,⟨(aG aA x1)⟩,⟨cL0⟩,⟨(aG aA x1)⟩] (by kernel_rfl) (m7 x1 y k (aO .i64 kK 1) h)
        | inr kK =>
         simp only[Sum.elim_inr] at h
         obtain rfl:=osi h
         show LT _ _ _ _ (.fin (.bool kK) [])
         exact LT.done aK (hs:=⟨[],[],false,[],[]⟩) (es:=none) [.n x1.length,dt,.n x1.length,(aGE aP),(aFT aP),df,df,df,df,df,df,df,df,df,df,df,df,df,df,df,aLU,.out (.fin (.bool kK) [])] [⟨(LT.blockFin (id:=2) (gU x1 aP _ k 0 bR eL5))⟩,⟨rF⟩,⟨cL4⟩,⟨cL4⟩,⟨cL4⟩,⟨cL4⟩,⟨cL4⟩,⟨cL4⟩,⟨cL4⟩,⟨cL4⟩,⟨cL4⟩,⟨cL4⟩,⟨cL4⟩,⟨cL4⟩,⟨cL4⟩,⟨(nF cL3)⟩,⟨(gB aP.2.1 aP.1)⟩,⟨(aI (e:=aA) eL2 3 0 3 (by decide))⟩,⟨cL1⟩,⟨(aG aA x1)⟩,⟨cL0⟩,⟨(aG aA x1)⟩] (by kernel_rfl) (fun s h=>by cases h)
      rw[if_neg cL3] at h;replace cL3:=eqf cL3
      obtain rfl:=osi h
      show LT _ _ _ _ (.fin (.bool false) [])
      exact LT.done aK (hs:=⟨[],[],false,[],[]⟩) (es:=none) [.n x1.length,dt,.n x1.length,(aGE aP),(aFT aP),dt] [⟨(nT cL3)⟩,⟨(gB aP.2.1 aP.1)⟩,⟨(aI (e:=aA) eL2 3 0 3 (by decide))⟩,⟨cL1⟩,⟨(aG aA x1)⟩,⟨cL0⟩,⟨(aG aA x1)⟩] (by kernel_rfl) (fun s h=>by cases h)
    rw[if_neg cL1] at h;replace cL1:=eqf cL1
    cases h
  rw[if_neg cL0] at h;replace cL0:=eqf cL0
  obtain rfl:=osi h
  show LT _ _ _ _ (.st (.exit 0) (aNT))
  exact LT.done aK (hs:=⟨[],[],false,[],[]⟩) (es:=(some ⟨[],[],false,[],[]⟩)) [.n x1.length,df] [⟨cL0⟩,⟨(aG aA x1)⟩] (by kernel_rfl) (fun s h=>by cases h)
theorem lW (k:Nat) (x1:aN) (r:Bool) (h:sG k x1=some r):Tri Try.prog 77 [(.sl 3 (List.map aA x1))] [] (.bool r) []:=by
 unfold sG at h
 obtain⟨x2,e0,h⟩:=bsm h
 cases x2 with
 | inl x3 =>
  simp only[Sum.elim_inl] at h
  obtain rfl:=osi h
  exact Tri.of (x:=X77) aK aRX [.norm 2 ⟨[(0,[]),(3,[])],[],false,[],[]⟩,.out (.st .normal (aNT))] [⟨(LT.block (m7 x1 _ k 0 e0))⟩] (by kernel_rfl)
 | inr x3 =>
  simp only[Sum.elim_inr] at h
  obtain rfl:=osi h
  exact Tri.of (x:=X77) aK aRX [.norm 2 ⟨[(0,[]),(3,[])],[],false,[],[]⟩,.out (.fin (.bool x3) [])] [⟨(LT.blockFin (id:=0) (m7 x1 _ k 0 e0))⟩] (by kernel_rfl)
end Go.Ws

namespace Go.Ws
open Go.Proofs
set_option linter.unusedSimpArgs false
set_option linter.unusedVariables false
set_option maxRecDepth 1000000
set_option maxHeartbeats 4000000
noncomputable def X79:Ctx:=⟨Try.f79,[],true⟩
noncomputable def L79_0:Code:=at_ Try.f79 [1,0,1,4,5]
def S79_0 (x1:aN) (x2:Int) (x3:Int) (dJ:Int):St:=⟨mkT 35 [(0,(.sl 3 (List.map aA x1))),(1,(.int .i64 x2)),(2,(.int .u8 x3)),(7,(.int .i64 dJ))],[]⟩
def aND:St:=⟨mkT 35 [],[]⟩
def O79_0 (x1:aN) (x2:Int) (x3:Int) (y:(Sum (Unit) (Int))):GX:=match y with
 | .inl y=>.st (.exit 0) (aND)
 | .inr y=>.fin (.int .i64 y) []
theorem pI (x1:aN) (x2:Int) (x3:Int) (y:(Sum (Unit) (Int))):∀(k:Nat) (dJ:Int),fT k x1 x2 x3 dJ=some y→LT Try.prog X79 L79_0 (S79_0 x1 x2 x3 dJ) (O79_0 x1 x2 x3 y)
 | 0,dJ,h=>by cases h
 | k+1,dJ,h=>by
  rw[fT] at h
  by_cases cL0:ltI dJ (nI x1.length)=true
  · rw[if_pos cL0] at h
    by_cases cL1:inI dJ x1.length=true
    · rw[if_pos cL1] at h
      obtain⟨jH,eL2,h⟩:=bsm h
      by_cases cL3:eqI jH.1 x3=true
      · rw[if_pos cL3] at h
        by_cases cL4:eqI jH.2.1 x2=true
        · rw[if_pos cL4] at h
          by_cases cL5:jH.2.2=true
          · rw[if_pos cL5] at h
            obtain rfl:=osi h
            show LT _ _ _ _ (.fin (.int .i64 2) [])
            exact LT.done aK (hs:=⟨[],[],false,[],[]⟩) (es:=none) [.n x1.length,dt,.n x1.length,.row [(.int .u8 jH.1)],dt,dt,dt,.n x1.length,dt,dt,.row [(.int .i64 jH.2.1)],dt,dt,dt,dt,.n x1.length,.row [(.bool jH.2.2)],dt] [⟨cL5⟩,⟨(aI (e:=aA) eL2 3 2 1 (by decide))⟩,⟨cL1⟩,⟨(aG aA x1)⟩,⟨cL4⟩,⟨cL3⟩,⟨cL3⟩,⟨cL3⟩,⟨(aI (e:=aA) eL2 3 1 1 (by decide))⟩,⟨cL3⟩,⟨cL3⟩,⟨cL1⟩,⟨(aG aA x1)⟩,⟨cL3⟩,⟨cL3⟩,⟨cL3⟩,⟨(aI (e:=aA) eL2 3 0 1 (by decide))⟩,⟨cL1⟩,⟨(aG aA x1)⟩,⟨cL0⟩,⟨(aG aA x1)⟩] (by kernel_rfl) (fun s h=>by cases h)
          rw[if_neg cL5] at h;replace cL5:=eqf cL5
          obtain rfl:=osi h
          show LT _ _ _ _ (.fin (.int .i64 1) [])
          exact LT.done aK (hs:=⟨[],[],false,[],[]⟩) (es:=none) [.n x1.length,dt,.n x1.length,.row [(.int .u8 jH.1)],dt,dt,dt,.n x1.length,dt,dt,.row [(.int .i64 jH.2.1)],dt,dt,dt,dt,.n x1.length,.row [(.bool jH.2.2)],df] [⟨cL5⟩,⟨(aI (e:=aA) eL2 3 2 1 (by decide))⟩,⟨cL1⟩,⟨(aG aA x1)⟩,⟨cL4⟩,⟨cL3⟩,⟨cL3⟩,⟨cL3⟩,⟨(aI (e:=aA) eL2 3 1 1 (by decide))⟩,⟨cL3⟩,⟨cL3⟩,⟨cL1⟩,⟨(aG aA x1)⟩,⟨cL3⟩,⟨cL3⟩,⟨cL3⟩,⟨(aI (e:=aA) eL2 3 0 1 (by decide))⟩,⟨cL1⟩,⟨(aG aA x1)⟩,⟨cL0⟩,⟨(aG aA x1)⟩] (by kernel_rfl) (fun s h=>by cases h)
        rw[if_neg cL4] at h;replace cL4:=eqf cL4
        exact LT.next aK (hs:=⟨[(0,[]),(1,[]),(2,[]),(7,[])],[],false,[],[]⟩) (es:=none) [.n x1.length,dt,.n x1.length,.row [(.int .u8 jH.1)],dt,dt,dt,.n x1.length,dt,dt,.row [(.int .i64 jH.2.1)],dt,dt,dt,df] [⟨cL4⟩,⟨cL3⟩,⟨cL3⟩,⟨cL3⟩,⟨(aI (e:=aA) eL2 3 1 1 (by decide))⟩,⟨cL3⟩,⟨cL3⟩,⟨cL1⟩,⟨(aG aA x1)⟩,⟨cL3⟩,⟨cL3⟩,⟨cL3⟩,⟨(aI (e:=aA) eL2 3 0 1 (by decide))⟩,⟨cL1⟩,⟨(aG aA x1)⟩,⟨cL0⟩,⟨(aG aA x1)⟩] (by kernel_rfl) (pI x1 x2 x3 y k (aO .i64 dJ 1) h)
      rw[if_neg cL3] at h;replace cL3:=eqf cL3
      exact LT.next aK (hs:=⟨[(0,[]),(1,[]),(2,[]),(7,[])],[],false,[],[]⟩) (es:=none) [.n x1.length,dt,.n x1.length,.row [(.int .u8 jH.1)],df,df,df,df,df,df,df,df,df] [⟨rF⟩,⟨cL3⟩,⟨cL3⟩,⟨cL3⟩,⟨cL3⟩,⟨cL3⟩,⟨cL3⟩,⟨cL3⟩,⟨cL3⟩,⟨(aI (e:=aA) eL2 3 0 1 (by decide))⟩,⟨cL1⟩,⟨(aG aA x1)⟩,⟨cL0⟩,⟨(aG aA x1)⟩] (by kernel_rfl) (pI x1 x2 x3 y k (aO .i64 dJ 1) h)
    rw[if_neg cL1] at h;replace cL1:=eqf cL1
    cases h
  rw[if_neg cL0] at h;replace cL0:=eqf cL0
  obtain rfl:=osi h
  show LT _ _ _ _ (.st (.exit 0) (aND))
  exact LT.done aK (hs:=⟨[],[],false,[],[]⟩) (es:=(some ⟨[],[],false,[],[]⟩)) [.n x1.length,df] [⟨cL0⟩,⟨(aG aA x1)⟩] (by kernel_rfl) (fun s h=>by cases h)
theorem aB4 (k:Nat) (x1:aN) (x2:Int) (x3:Int) (r:Int) (h:sV k x1 x2 x3=some r):Tri Try.prog 79 [(.sl 3 (List.map aA x1)),(.int .i64 x2),(.int .u8 x3)] [] (.int .i64 r) []:=by
 unfold sV at h
 obtain⟨x4,e0,h⟩:=bsm h
 cases x4 with
 | inl x5 =>
  simp only[Sum.elim_inl] at h
  obtain rfl:=osi h
  exact Tri.of (x:=X79) aK aS4 [.norm 2 ⟨[(0,[]),(1,[]),(2,[]),(7,[])],[],false,[],[]⟩,.out (.st .normal (aND))] [⟨(LT.block (pI x1 x2 x3 _ k 0 e0))⟩] (by kernel_rfl)
 | inr x5 =>
  simp only[Sum.elim_inr] at h
  obtain rfl:=osi h
  exact Tri.of (x:=X79) aK aS4 [.norm 2 ⟨[(0,[]),(1,[]),(2,[]),(7,[])],[],false,[],[]⟩,.out (.fin (.int .i64 x5) [])] [⟨(LT.blockFin (id:=0) (pI x1 x2 x3 _ k 0 e0))⟩] (by kernel_rfl)
end Go.Ws

namespace Go.Ws
open Go.Proofs
set_option linter.unusedSimpArgs false
set_option linter.unusedVariables false
set_option maxRecDepth 1000000
set_option maxHeartbeats 4000000
noncomputable def X53:Ctx:=⟨Try.f53,[],true⟩
noncomputable def L53_1:Code:=at_ Try.f53 [1,1,1,1,1,1,0,1,4,5]
def S53_1 (x1:aN) (x2:Int) (x3:Int) (bJ:Bool) (aU:Int) (aF:aN) (aJ:Bool):St:=⟨mkT 138 [(0,(.sl 3 (List.map aA x1))),(1,(.int .i64 x2)),(2,(.int .u8 x3)),(11,(.hp 0 0)),(12,(.ref 3 1 0 0 aF.length .virt)),(13,(.bool bJ)),(14,(.int .i64 aU))],[(.row [(.int .u8 x3),(.int .i64 x2),(.bool aJ)]),(.arr 3 (List.map aA aF) 0 0 false)]⟩
def aC9 (x2:Int) (x3:Int) (v53012_1:Bool) (v53012_2:Bool) (aQL:aN):St:=⟨mkT 138 [(11,(.hp 0 0)),(12,(.ref 3 1 0 0 aQL.length .virt)),(13,(.bool v53012_1))],[(.row [(.int .u8 x3),(.int .i64 x2),(.bool v53012_2)]),(.arr 3 (List.map aA aQL) 0 0 false)]⟩
def O53_1 (x1:aN) (x2:Int) (x3:Int) (y:(Bool × Bool × aN)):GX:=.st (.exit 2) (aC9 x2 x3 y.1 y.2.1 y.2.2)
noncomputable def L53_0:Code:=at_ Try.f53 [1,1,0,1,4,5]
def S53_0 (x1:aN) (x2:Int) (x3:Int) (x4:Bool) (cV:Int):St:=⟨mkT 138 [(0,(.sl 3 (List.map aA x1))),(1,(.int .i64 x2)),(2,(.int .u8 x3)),(3,(.bool x4)),(10,(.int .i64 cV))],[]⟩
def aCX (x1:aN) (x2:Int) (x3:Int) (x4:Bool):St:=⟨mkT 138 [(0,(.sl 3 (List.map aA x1))),(1,(.int .i64 x2)),(2,(.int .u8 x3)),(3,(.bool x4))],[]⟩
def O53_0 (x1:aN) (x2:Int) (x3:Int) (x4:Bool) (y:(Sum (Unit) (aN × Int))):GX:=match y with
 | .inl y=>.st (.exit 0) (aCX x1 x2 x3 x4)
 | .inr y=>.fin (.tup [(.sl 3 (List.map aA y.1)),(.int .i64 y.2)]) []
def aDT (aH:Int × Int × Bool):Ans:=.row [(.int .u8 aH.1),(.int .i64 aH.2.1),(.bool aH.2.2)]
def aBH (aH:Int × Int × Bool) (aF:aN):Ans:=.rows (List.map aA (aF++[aH]))
def aLN (x2:Int) (x3:Int) (aJ:Bool):Ans:=.rows (List.map aA [(x3,x2,aJ)])
def aHM (x2:Int) (x3:Int) (aF:aN) (aJ:Bool):Ans:=.rows (List.map aA (aF++[(x3,x2,aJ)]))
def aHV (x2:Int) (x3:Int) (aH:Int × Int × Bool) (aF:aN) (aJ:Bool):Ans:=.rows (List.map aA ((aF++[(x3,x2,aJ)])++[aH]))
def aLY (x2:Int) (x3:Int):Ans:=.call ⟨true,[]⟩ (.bool (iC x2 x3)) []
def aQD:Ans:=.norm 2 ⟨[(0,[]),(1,[]),(2,[]),(3,[]),(10,[])],[],false,[],[]⟩
def A53_7:Ans:=.norm 8 ⟨[(0,[]),(1,[]),(2,[]),(11,[]),(12,[]),(13,[]),(14,[])],[⟨.tmp 11,[],none⟩,⟨.tmp 12,[],some 3⟩],false,[],[]⟩
theorem bY (x1:aN) (x2:Int) (x3:Int) (y:(Bool × Bool × aN)):∀(k:Nat) (bJ:Bool) (aU:Int) (aF:aN) (aJ:Bool),bP k x1 x2 x3 bJ aU aF aJ=some y→LT Try.prog X53 L53_1 (S53_1 x1 x2 x3 bJ aU aF aJ) (O53_1 x1 x2 x3 y)
 | 0,bJ,aU,aF,aJ,h=>by cases h
 | k+1,bJ,aU,aF,aJ,h=>by
  rw[bP] at h
  by_cases cL0:ltI aU (nI x1.length)=true
  · rw[if_pos cL0] at h
    by_cases cL1:bJ=true
    · rw[if_pos cL1] at h
      by_cases cL2:inI aU x1.length=true
      · rw[if_pos cL2] at h
        obtain⟨aH,eL3,h⟩:=bsm h
        by_cases cL4:eqI aH.1 x3=true
        · rw[if_pos cL4] at h
          by_cases cL5:eqI aH.2.1 x2=true
          · rw[if_pos cL5] at h
            exact LT.next aK (hs:=⟨[(0,[]),(1,[]),(2,[]),(11,[]),(12,[]),(13,[]),(14,[])],[⟨.tmp 11,[],none⟩,⟨.tmp 12,[],some 3⟩],false,[],[]⟩) (es:=none) [.n x1.length,dt,df,df,df,df,df,df,df,df,df,df,df,.n x1.length,.row [(.int .u8 aH.1)],df,df,df,.n x1.length,df,df,.row [(.int .i64 aH.2.1)],df,df,df,df,.n aF.length,.rows (List.map aA aF)] [⟨(bL aA (l:=aF) (n:=aF.length) rfl)⟩,⟨(rfl:aF.length=aF.length)⟩,⟨(zle aF.length)⟩,⟨(nF cL5)⟩,⟨(nF cL4)⟩,⟨(nF cL4)⟩,⟨(nF cL4)⟩,⟨(aI (e:=aA) eL3 3 1 1 (by decide))⟩,⟨(nF cL4)⟩,⟨(nF cL4)⟩,⟨cL2⟩,⟨(aG aA x1)⟩,⟨(nF cL4)⟩,⟨(nF cL4)⟩,⟨(nF cL4)⟩,⟨(aI (e:=aA) eL3 3 0 1 (by decide))⟩,⟨cL2⟩,⟨(aG aA x1)⟩,⟨rF⟩,⟨(nF cL1)⟩,⟨(nF cL1)⟩,⟨(nF cL1)⟩,⟨(nF cL1)⟩,⟨(nF cL1)⟩,⟨(nF cL1)⟩,⟨(nF cL1)⟩,⟨(nF cL1)⟩,⟨(nF cL1)⟩,⟨(nF cL1)⟩,⟨cL0⟩,⟨(aG aA x1)⟩] (by kernel_rfl) (bY x1 x2 x3 y k bJ (aO .i64 aU 1) aF aJ h)
          rw[if_neg cL5] at h;replace cL5:=eqf cL5
          by_cases cL6:bB (((aF++[aH]).length)*24)=true
          · rw[if_pos cL6] at h
            exact LT.next aK (hs:=⟨[(0,[]),(1,[]),(2,[]),(11,[]),(12,[]),(13,[]),(14,[])],[⟨.tmp 11,[],none⟩,⟨.tmp 12,[],some 3⟩],false,[],[]⟩) (es:=none) [.n x1.length,dt,df,df,df,df,df,df,df,df,df,df,df,.n x1.length,.row [(.int .u8 aH.1)],df,df,df,.n x1.length,df,df,.row [(.int .i64 aH.2.1)],df,df,df,dt,.n x1.length,(aDT aH),.rows (List.map aA [aH]),.n ((aF++[aH]).length),.n aF.length,dt,(aBH aH aF),.n ((aF++[aH]).length),(aBH aH aF)] [⟨(bL aA (l:=(aF++[aH])) (n:=((aF++[aH]).length)) rfl)⟩,⟨(rfl:(aF++[aH]).length=(aF++[aH]).length)⟩,⟨(zle ((aF++[aH]).length))⟩,⟨(f5 aA aF [aH])⟩,⟨(dZ aF.length)⟩,⟨(aG aA aF)⟩,⟨cL6⟩,⟨(by simp only[wl,List.length_map,List.map_nil,List.map_cons]<;>omega:aF.length+(List.map aA [aH]).length=(aF++[aH]).length)⟩,⟨(aQ aA (l:=[aH]) (n:=1) rfl)⟩,⟨(a9 aA (Nat.le_refl 1):0+1≤(List.map aA [aH]).length)⟩,⟨(aI (e:=aA) eL3 3 0 3 (by decide))⟩,⟨cL2⟩,⟨(aG aA x1)⟩,⟨(nT cL5)⟩,⟨(nF cL4)⟩,⟨(nF cL4)⟩,⟨(nF cL4)⟩,⟨(aI (e:=aA) eL3 3 1 1 (by decide))⟩,⟨(nF cL4)⟩,⟨(nF cL4)⟩,⟨cL2⟩,⟨(aG aA x1)⟩,⟨(nF cL4)⟩,⟨(nF cL4)⟩,⟨(nF cL4)⟩,⟨(aI (e:=aA) eL3 3 0 1 (by decide))⟩,⟨cL2⟩,⟨(aG aA x1)⟩,⟨rF⟩,⟨(nF cL1)⟩,⟨(nF cL1)⟩,⟨(nF cL1)⟩,⟨(nF cL1)⟩,⟨(nF cL1)⟩,⟨(nF cL1)⟩,⟨(nF cL1)⟩,⟨(nF cL1)⟩,⟨(nF cL1)⟩,⟨(nF cL1)⟩,⟨cL0⟩,⟨(aG aA x1)⟩] (by kernel_rfl) (bY x1 x2 x3 y k bJ (aO .i64 aU 1) (aF++[aH]) aJ h)
          rw[if_neg cL6] at h;replace cL6:=eqf cL6
          cases h
        rw[if_neg cL4] at h;replace cL4:=eqf cL4
        by_cases cL5:bB (((aF++[aH]).length)*24)=true
        · rw[if_pos cL5] at h
          exact LT.next aK (hs:=⟨[(0,[]),(1,[]),(2,[]),(11,[]),(12,[]),(13,[]),(14,[])],[⟨.tmp 11,[],none⟩,⟨.tmp 12,[],some 3⟩],false,[],[]⟩) (es:=none) [.n x1.length,dt,df,df,df,df,df,df,df,df,df,df,df,.n x1.length,.row [(.int .u8 aH.1)],dt,dt,dt,dt,dt,dt,dt,dt,dt,.n x1.length,(aDT aH),.rows (List.map aA [aH]),.n ((aF++[aH]).length),.n aF.length,dt,(aBH aH aF),.n ((aF++[aH]).length),(aBH aH aF)] [⟨(bL aA (l:=(aF++[aH])) (n:=((aF++[aH]).length)) rfl)⟩,⟨(rfl:(aF++[aH]).length=(aF++[aH]).length)⟩,⟨(zle ((aF++[aH]).length))⟩,⟨(f5 aA aF [aH])⟩,⟨(dZ aF.length)⟩,⟨(aG aA aF)⟩,⟨cL5⟩,⟨(by simp only[wl,List.length_map,List.map_nil,List.map_cons]<;>omega:aF.length+(List.map aA [aH]).length=(aF++[aH]).length)⟩,⟨(aQ aA (l:=[aH]) (n:=1) rfl)⟩,⟨(a9 aA (Nat.le_refl 1):0+1≤(List.map aA [aH]).length)⟩,⟨(aI (e:=aA) eL3 3 0 3 (by decide))⟩,⟨cL2⟩,⟨(aG aA x1)⟩,⟨rT⟩,⟨(nT cL4)⟩,⟨(nT cL4)⟩,⟨(nT cL4)⟩,⟨(nT cL4)⟩,⟨(nT cL4)⟩,⟨(nT cL4)⟩,⟨(nT cL4)⟩,⟨(nT cL4)⟩,⟨(aI (e:=aA) eL3 3 0 1 (by decide))⟩,⟨cL2⟩,⟨(aG aA x1)⟩,⟨rF⟩,⟨(nF cL1)⟩,⟨(nF cL1)⟩,⟨(nF cL1)⟩,⟨(nF cL1)⟩,⟨(nF cL1)⟩,⟨(nF cL1)⟩,⟨(nF cL1)⟩,⟨(nF cL1)⟩,⟨(nF cL1)⟩,⟨(nF cL1)⟩,⟨cL0⟩,⟨(aG aA x1)⟩] (by kernel_rfl) (bY x1 x2 x3 y k bJ (aO .i64 aU 1) (aF++[aH]) aJ h)
        rw[if_neg cL5] at h;replace cL5:=eqf cL5
        cases h
      rw[if_neg cL2] at h;replace cL2:=eqf cL2
      cases h
    rw[if_neg cL1] at h;replace cL1:=eqf cL1
    by_cases cL2:inI aU x1.length=true
    · rw[if_pos cL2] at h
      obtain⟨aH,eL3,h⟩:=bsm h
      by_cases cL4:ltI x3 aH.1=true
      · rw[if_pos cL4] at h
        by_cases cL5:bB (((aF++[(x3,x2,aJ)]).length)*24)=true
        · rw[if_pos cL5] at h
          by_cases cL6:eqI aH.1 x3=true
          · rw[if_pos cL6] at h
            by_cases cL7:eqI aH.2.1 x2=true
            · rw[if_pos cL7] at h
              exact LT.next aK (hs:=⟨[(0,[]),(1,[]),(2,[]),(11,[]),(12,[]),(13,[]),(14,[])],[⟨.tmp 11,[],none⟩,⟨.tmp 12,[],some 3⟩],false,[],[]⟩) (es:=none) [.n x1.length,dt,dt,dt,dt,dt,.n x1.length,dt,dt,.row [(.int .u8 aH.1)],dt,dt,dt,dt,dt,dt,dt,dt,dt,dt,dt,dt,dt,dt,dt,(aLN x2 x3 aJ),.n ((aF++[(x3,x2,aJ)]).length),.n aF.length,dt,(aHM x2 x3 aF aJ),.n x1.length,.row [(.int .u8 aH.1)],df,df,df,.n x1.length,df,df,.row [(.int .i64 aH.2.1)],df,df,df,df,.n ((aF++[(x3,x2,aJ)]).length),(aHM x2 x3 aF aJ)] [⟨(bL aA (l:=(aF++[(x3,x2,aJ)])) (n:=((aF++[(x3,x2,aJ)]).length)) rfl)⟩,⟨(rfl:(aF++[(x3,x2,aJ)]).length=(aF++[(x3,x2,aJ)]).length)⟩,⟨(zle ((aF++[(x3,x2,aJ)]).length))⟩,⟨(nF cL7)⟩,⟨(nF cL6)⟩,⟨(nF cL6)⟩,⟨(nF cL6)⟩,⟨(aI (e:=aA) eL3 3 1 1 (by decide))⟩,⟨(nF cL6)⟩,⟨(nF cL6)⟩,⟨cL2⟩,⟨(aG aA x1)⟩,⟨(nF cL6)⟩,⟨(nF cL6)⟩,⟨(nF cL6)⟩,⟨(aI (e:=aA) eL3 3 0 1 (by decide))⟩,⟨cL2⟩,⟨(aG aA x1)⟩,⟨(f5 aA aF [(x3,x2,aJ)])⟩,⟨(dZ aF.length)⟩,⟨(aG aA aF)⟩,⟨cL5⟩,⟨(by simp only[wl,List.length_map,List.map_nil,List.map_cons]<;>omega:aF.length+(List.map aA [(x3,x2,aJ)]).length=(aF++[(x3,x2,aJ)]).length)⟩,⟨(aQ aA (l:=[(x3,x2,aJ)]) (n:=1) rfl)⟩,⟨(a9 aA (Nat.le_refl 1):0+1≤(List.map aA [(x3,x2,aJ)]).length)⟩,⟨rT⟩,⟨(nT cL1)⟩,⟨cL4⟩,⟨(nT cL1)⟩,⟨cL4⟩,⟨cL4⟩,⟨cL4⟩,⟨cL4⟩,⟨cL4⟩,⟨cL4⟩,⟨cL4⟩,⟨cL4⟩,⟨cL4⟩,⟨(nT cL1)⟩,⟨(nT cL1)⟩,⟨(aI (e:=aA) eL3 3 0 1 (by decide))⟩,⟨(nT cL1)⟩,⟨(nT cL1)⟩,⟨cL2⟩,⟨(aG aA x1)⟩,⟨(nT cL1)⟩,⟨(nT cL1)⟩,⟨(nT cL1)⟩,⟨(nT cL1)⟩,⟨cL0⟩,⟨(aG aA x1)⟩] (by kernel_rfl) (bY x1 x2 x3 y k true (aO .i64 aU 1) (aF++[(x3,x2,aJ)]) aJ h)
            rw[if_neg cL7] at h;replace cL7:=eqf cL7
            by_cases cL8:bB ((((aF++[(x3,x2,aJ)])++[aH]).length)*24)=true
            · rw[if_pos cL8] at h
              exact LT.next aK (hs:=⟨[(0,[]),(1,[]),(2,[]),(11,[]),(12,[]),(13,[]),(14,[])],[⟨.tmp 11,[],none⟩,⟨.tmp 12,[],some 3⟩],false,[],[]⟩) (es:=none) [.n x1.length,dt,dt,dt,dt,dt,.n x1.length,dt,dt,.row [(.int .u8 aH.1)],dt,dt,dt,dt,dt,dt,dt,dt,dt,dt,dt,dt,dt,dt,dt,(aLN x2 x3 aJ),.n ((aF++[(x3,x2,aJ)]).length),.n aF.length,dt,(aHM x2 x3 aF aJ),.n x1.length,.row [(.int .u8 aH.1)],df,df,df,.n x1.length,df,df,.row [(.int .i64 aH.2.1)],df,df,df,dt,.n x1.length,(aDT aH),.rows (List.map aA [aH]),.n (((aF++[(x3,x2,aJ)])++[aH]).length),.n ((aF++[(x3,x2,aJ)]).length),dt,(aHV x2 x3 aH aF aJ),.n (((aF++[(x3,x2,aJ)])++[aH]).length),(aHV x2 x3 aH aF aJ)] [⟨(bL aA (l:=((aF++[(x3,x2,aJ)])++[aH])) (n:=(((aF++[(x3,x2,aJ)])++[aH]).length)) rfl)⟩,⟨(rfl:((aF++[(x3,x2,aJ)])++[aH]).length=((aF++[(x3,x2,aJ)])++[aH]).length)⟩,⟨(zle (((aF++[(x3,x2,aJ)])++[aH]).length))⟩,⟨(f5 aA (aF++[(x3,x2,aJ)]) [aH])⟩,⟨(dZ ((aF++[(x3,x2,aJ)]).length))⟩,⟨(aG aA (aF++[(x3,x2,aJ)]))⟩,⟨cL8⟩,⟨(by simp only[wl,List.length_map,List.map_nil,List.map_cons]<;>omega:((aF++[(x3,x2,aJ)]).length)+(List.map aA [aH]).length=((aF++[(x3,x2,aJ)])++[aH]).length)⟩,⟨(aQ aA (l:=[aH]) (n:=1) rfl)⟩,⟨(a9 aA (Nat.le_refl 1):0+1≤(List.map aA [aH]).length)⟩,⟨(aI (e:=aA) eL3 3 0 3 (by decide))⟩,⟨cL2⟩,⟨(aG aA x1)⟩,⟨(nT cL7)⟩,⟨(nF cL6)⟩,⟨(nF cL6)⟩,⟨(nF cL6)⟩,⟨(aI (e:=aA) eL3 3 1 1 (by decide))⟩,⟨(nF cL6)⟩,⟨(nF cL6)⟩,⟨cL2⟩,⟨(aG aA x1)⟩,⟨(nF cL6)⟩,⟨(nF cL6)⟩,⟨(nF cL6)⟩,⟨(aI (e:=aA) eL3 3 0 1 (by decide))⟩,⟨cL2⟩,⟨(aG aA x1)⟩,⟨(f5 aA aF [(x3,x2,aJ)])⟩,⟨(dZ aF.length)⟩,⟨(aG aA aF)⟩,⟨cL5⟩,⟨(by simp only[wl,List.length_map,List.map_nil,List.map_cons]<;>omega:aF.length+(List.map aA [(x3,x2,aJ)]).length=(aF++[(x3,x2,aJ)]).length)⟩,⟨(aQ aA (l:=[(x3,x2,aJ)]) (n:=1) rfl)⟩,⟨(a9 aA (Nat.le_refl 1):0+1≤(List.map aA [(x3,x2,aJ)]).length)⟩,⟨rT⟩,⟨(nT cL1)⟩,⟨cL4⟩,⟨(nT cL1)⟩,⟨cL4⟩,⟨cL4⟩,⟨cL4⟩,⟨cL4⟩,⟨cL4⟩,⟨cL4⟩,⟨cL4⟩,⟨cL4⟩,⟨cL4⟩,⟨(nT cL1)⟩,⟨(nT cL1)⟩,⟨(aI (e:=aA) eL3 3 0 1 (by decide))⟩,⟨(nT cL1)⟩,⟨(nT cL1)⟩,⟨cL2⟩,⟨(aG aA x1)⟩,⟨(nT cL1)⟩,⟨(nT cL1)⟩,⟨(nT cL1)⟩,⟨(nT cL1)⟩,⟨cL0⟩,⟨(aG aA x1)⟩] (by kernel_rfl) (bY x1 x2 x3 y k true (aO .i64 aU 1) ((aF++[(x3,x2,aJ)])++[aH]) aJ h)
            rw[if_neg cL8] at h;replace cL8:=eqf cL8
            cases h
          rw[if_neg cL6] at h;replace cL6:=eqf cL6
          by_cases cL7:bB ((((aF++[(x3,x2,aJ)])++[aH]).length)*24)=true
          · rw[if_pos cL7] at h
            exact LT.next aK (hs:=⟨[(0,[]),(1,[]),(2,[]),(11,[]),(12,[]),(13,[]),(14,[])],[⟨.tmp 11,[],none⟩,⟨.tmp 12,[],some 3⟩],false,[],[]⟩) (es:=none) [.n x1.length,dt,dt,dt,dt,dt,.n x1.length,dt,dt,.row [(.int .u8 aH.1)],dt,dt,dt,dt,dt,dt,dt,dt,dt,dt,dt,dt,dt,dt,dt,(aLN x2 x3 aJ),.n ((aF++[(x3,x2,aJ)]).length),.n aF.length,dt,(aHM x2 x3 aF aJ),.n x1.length,.row [(.int .u8 aH.1)],dt,dt,dt,dt,dt,dt,dt,dt,dt,.n x1.length,(aDT aH),.rows (List.map aA [aH]),.n (((aF++[(x3,x2,aJ)])++[aH]).length),.n ((aF++[(x3,x2,aJ)]).length),dt,(aHV x2 x3 aH aF aJ),.n (((aF++[(x3,x2,aJ)])++[aH]).length),(aHV x2 x3 aH aF aJ)] [⟨(bL aA (l:=((aF++[(x3,x2,aJ)])++[aH])) (n:=(((aF++[(x3,x2,aJ)])++[aH]).length)) rfl)⟩,⟨(rfl:((aF++[(x3,x2,aJ)])++[aH]).length=((aF++[(x3,x2,aJ)])++[aH]).length)⟩,⟨(zle (((aF++[(x3,x2,aJ)])++[aH]).length))⟩,⟨(f5 aA (aF++[(x3,x2,aJ)]) [aH])⟩,⟨(dZ ((aF++[(x3,x2,aJ)]).length))⟩,⟨(aG aA (aF++[(x3,x2,aJ)]))⟩,⟨cL7⟩,⟨(by simp only[wl,List.length_map,List.map_nil,List.map_cons]<;>omega:((aF++[(x3,x2,aJ)]).length)+(List.map aA [aH]).length=((aF++[(x3,x2,aJ)])++[aH]).length)⟩,⟨(aQ aA (l:=[aH]) (n:=1) rfl)⟩,⟨(a9 aA (Nat.le_refl 1):0+1≤(List.map aA [aH]).length)⟩,⟨(aI (e:=aA) eL3 3 0 3 (by decide))⟩,⟨cL2⟩,⟨(aG aA x1)⟩,⟨rT⟩,⟨(nT cL6)⟩,⟨(nT cL6)⟩,⟨(nT cL6)⟩,⟨(nT cL6)⟩,⟨(nT cL6)⟩,⟨(nT cL6)⟩,⟨(nT cL6)⟩,⟨(nT cL6)⟩,⟨(aI (e:=aA) eL3 3 0 1 (by decide))⟩,⟨cL2⟩,⟨(aG aA x1)⟩,⟨(f5 aA aF [(x3,x2,aJ)])⟩,⟨(dZ aF.length)⟩,⟨(aG aA aF)⟩,⟨cL5⟩,⟨(by simp only[wl,List.length_map,List.map_nil,List.map_cons]<;>omega:aF.length+(List.map aA [(x3,x2,aJ)]).length=(aF++[(x3,x2,aJ)]).length)⟩,⟨(aQ aA (l:=[(x3,x2,aJ)]) (n:=1) rfl)⟩,⟨(a9 aA (Nat.le_refl 1):0+1≤(List.map aA [(x3,x2,aJ)]).length)⟩,⟨rT⟩,⟨(nT cL1)⟩,⟨cL4⟩,⟨(nT cL1)⟩,⟨cL4⟩,⟨cL4⟩,⟨cL4⟩,⟨cL4⟩,⟨cL4⟩,⟨cL4⟩,⟨cL4⟩,⟨cL4⟩,⟨cL4⟩,⟨(nT cL1)⟩,⟨(nT cL1)⟩,⟨(aI (e:=aA) eL3 3 0 1 (by decide))⟩,⟨(nT cL1)⟩,⟨(nT cL1)⟩,⟨cL2⟩,⟨(aG aA x1)⟩,⟨(nT cL1)⟩,⟨(nT cL1)⟩,⟨(nT cL1)⟩,⟨(nT cL1)⟩,⟨cL0⟩,⟨(aG aA x1)⟩] (by kernel_rfl) (bY x1 x2 x3 y k true (aO .i64 aU 1) ((aF++[(x3,x2,aJ)])++[aH]) aJ h)
          rw[if_neg cL7] at h;replace cL7:=eqf cL7
          cases h
        rw[if_neg cL5] at h;replace cL5:=eqf cL5
        cases h
      rw[if_neg cL4] at h;replace cL4:=eqf cL4
      by_cases cL5:eqI x3 aH.1=true
      · rw[if_pos cL5] at h
        by_cases cL6:ltI aH.2.1 x2=true
        · rw[if_pos cL6] at h
          by_cases cL7:eqI aH.1 x3=true
          · rw[if_pos cL7] at h
            by_cases cL8:eqI aH.2.1 x2=true
            · rw[if_pos cL8] at h
              exact LT.next aK (hs:=⟨[(0,[]),(1,[]),(2,[]),(11,[]),(12,[]),(13,[]),(14,[])],[⟨.tmp 11,[],none⟩,⟨.tmp 12,[],some 3⟩],false,[],[]⟩) (es:=none) [.n x1.length,dt,dt,dt,dt,dt,.n x1.length,dt,dt,.row [(.int .u8 aH.1)],dt,dt,df,df,df,df,.n x1.length,df,df,.row [(.int .u8 aH.1)],df,df,dt,dt,dt,dt,.n x1.length,dt,dt,.row [(.int .i64 aH.2.1)],dt,df,dt,dt,df,dt,df,.n x1.length,.row [(.int .u8 aH.1)],df,df,df,.n x1.length,df,df,.row [(.int .i64 aH.2.1)],df,df,df,df,.n aF.length,.rows (List.map aA aF)] [⟨(bL aA (l:=aF) (n:=aF.length) rfl)⟩,⟨(rfl:aF.length=aF.length)⟩,⟨(zle aF.length)⟩,⟨(nF cL8)⟩,⟨(nF cL7)⟩,⟨(nF cL7)⟩,⟨(nF cL7)⟩,⟨(aI (e:=aA) eL3 3 1 1 (by decide))⟩,⟨(nF cL7)⟩,⟨(nF cL7)⟩,⟨cL2⟩,⟨(aG aA x1)⟩,⟨(nF cL7)⟩,⟨(nF cL7)⟩,⟨(nF cL7)⟩,⟨(aI (e:=aA) eL3 3 0 1 (by decide))⟩,⟨cL2⟩,⟨(aG aA x1)⟩,⟨(nF cL6)⟩,⟨(nT cL1)⟩,⟨cL4⟩,⟨(nT cL1)⟩,⟨cL5⟩,⟨cL4⟩,⟨cL5⟩,⟨(aI (e:=aA) eL3 3 1 1 (by decide))⟩,⟨cL5⟩,⟨cL5⟩,⟨cL2⟩,⟨(aG aA x1)⟩,⟨cL5⟩,⟨cL5⟩,⟨cL5⟩,⟨cL5⟩,⟨cL4⟩,⟨cL4⟩,⟨(aI (e:=aA) eL3 3 0 1 (by decide))⟩,⟨cL4⟩,⟨cL4⟩,⟨cL2⟩,⟨(aG aA x1)⟩,⟨cL4⟩,⟨cL4⟩,⟨cL4⟩,⟨cL4⟩,⟨(nT cL1)⟩,⟨(nT cL1)⟩,⟨(aI (e:=aA) eL3 3 0 1 (by decide))⟩,⟨(nT cL1)⟩,⟨(nT cL1)⟩,⟨cL2⟩,⟨(aG aA x1)⟩,⟨(nT cL1)⟩,⟨(nT cL1)⟩,⟨(nT cL1)⟩,⟨(nT cL1)⟩,⟨cL0⟩,⟨(aG aA x1)⟩] (by kernel_rfl) (bY x1 x2 x3 y k bJ (aO .i64 aU 1) aF aJ h)
            rw[if_neg cL8] at h;replace cL8:=eqf cL8
            by_cases cL9:bB (((aF++[aH]).length)*24)=true
            · rw[if_pos cL9] at h
              exact LT.next aK (hs:=⟨[(0,[]),(1,[]),(2,[]),(11,[]),(12,[]),(13,[]),(14,[])],[⟨.tmp 11,[],none⟩,⟨.tmp 12,[],some 3⟩],false,[],[]⟩) (es:=none) [.n x1.length,dt,dt,dt,dt,dt,.n x1.length,dt,dt,.row [(.int .u8 aH.1)],dt,dt,df,df,df,df,.n x1.length,df,df,.row [(.int .u8 aH.1)],df,df,dt,dt,dt,dt,.n x1.length,dt,dt,.row [(.int .i64 aH.2.1)],dt,df,dt,dt,df,dt,df,.n x1.length,.row [(.int .u8 aH.1)],df,df,df,.n x1.length,df,df,.row [(.int .i64 aH.2.1)],df,df,df,dt,.n x1.length,(aDT aH),.rows (List.map aA [aH]),.n ((aF++[aH]).length),.n aF.length,dt,(aBH aH aF),.n ((aF++[aH]).length),(aBH aH aF)] [⟨(bL aA (l:=(aF++[aH])) (n:=((aF++[aH]).length)) rfl)⟩,⟨(rfl:(aF++[aH]).length=(aF++[aH]).length)⟩,⟨(zle ((aF++[aH]).length))⟩,⟨(f5 aA aF [aH])⟩,⟨(dZ aF.length)⟩,⟨(aG aA aF)⟩,⟨cL9⟩,⟨(by simp only[wl,List.length_map,List.map_nil,List.map_cons]<;>omega:aF.length+(List.map aA [aH]).length=(aF++[aH]).length)⟩,⟨(aQ aA (l:=[aH]) (n:=1) rfl)⟩,⟨(a9 aA (Nat.le_refl 1):0+1≤(List.map aA [aH]).length)⟩,⟨(aI (e:=aA) eL3 3 0 3 (by decide))⟩,⟨cL2⟩,⟨(aG aA x1)⟩,⟨(nT cL8)⟩,⟨(nF cL7)⟩,⟨(nF cL7)⟩,⟨(nF cL7)⟩,⟨(aI (e:=aA) eL3 3 1 1 (by decide))⟩,⟨(nF cL7)⟩,⟨(nF cL7)⟩,⟨cL2⟩,⟨(aG aA x1)⟩,⟨(nF cL7)⟩,⟨(nF cL7)⟩,⟨(nF cL7)⟩,⟨(aI (e:=aA) eL3 3 0 1 (by decide))⟩,⟨cL2⟩,⟨(aG aA x1)⟩,⟨(nF cL6)⟩,⟨(nT cL1)⟩,⟨cL4⟩,⟨(nT cL1)⟩,⟨cL5⟩,⟨cL4⟩,⟨cL5⟩,⟨(aI (e:=aA) eL3 3 1 1 (by decide))⟩,⟨cL5⟩,⟨cL5⟩,⟨cL2⟩,⟨(aG aA x1)⟩,⟨cL5⟩,⟨cL5⟩,⟨cL5⟩,⟨cL5⟩,⟨cL4⟩,⟨cL4⟩,⟨(aI (e:=aA) eL3 3 0 1 (by decide))⟩,⟨cL4⟩,⟨cL4⟩,⟨cL2⟩,⟨(aG aA x1)⟩,⟨cL4⟩,⟨cL4⟩,⟨cL4⟩,⟨cL4⟩,⟨(nT cL1)⟩,⟨(nT cL1)⟩,⟨(aI (e:=aA) eL3 3 0 1 (by decide))⟩,⟨(nT cL1)⟩,⟨(nT cL1)⟩,⟨cL2⟩,⟨(aG aA x1)⟩,⟨(nT cL1)⟩,⟨(nT cL1)⟩,⟨(nT cL1)⟩,⟨(nT cL1)⟩,⟨cL0⟩,⟨(aG aA x1)⟩] (by kernel_rfl) (bY x1 x2 x3 y k bJ (aO .i64 aU 1) (aF++[aH]) aJ h)
            rw[if_neg cL9] at h;replace cL9:=eqf cL9
            cases h
          rw[if_neg cL7] at h;replace cL7:=eqf cL7
          by_cases cL8:bB (((aF++[aH]).length)*24)=true
          · rw[if_pos cL8] at h
            exact LT.next aK (hs:=⟨[(0,[]),(1,[]),(2,[]),(11,[]),(12,[]),(13,[]),(14,[])],[⟨.tmp 11,[],none⟩,⟨.tmp 12,[],some 3⟩],false,[],[]⟩) (es:=none) [.n x1.length,dt,dt,dt,dt,dt,.n x1.length,dt,dt,.row [(.int .u8 aH.1)],dt,dt,df,df,df,df,.n x1.length,df,df,.row [(.int .u8 aH.1)],df,df,dt,dt,dt,dt,.n x1.length,dt,dt,.row [(.int .i64 aH.2.1)],dt,df,dt,dt,df,dt,df,.n x1.length,.row [(.int .u8 aH.1)],dt,dt,dt,dt,dt,dt,dt,dt,dt,.n x1.length,(aDT aH),.rows (List.map aA [aH]),.n ((aF++[aH]).length),.n aF.length,dt,(aBH aH aF),.n ((aF++[aH]).length),(aBH aH aF)] [⟨(bL aA (l:=(aF++[aH])) (n:=((aF++[aH]).length)) rfl)⟩,⟨(rfl:(aF++[aH]).length=(aF++[aH]).length)⟩,⟨(zle ((aF++[aH]).length))⟩,⟨(f5 aA aF [aH])⟩,⟨(dZ aF.length)⟩,⟨(aG aA aF)⟩,⟨cL8⟩,⟨(by simp only[wl,List.length_map,List.map_nil,List.map_cons]<;>omega:aF.length+(List.map aA [aH]).length=(aF++[aH]).length)⟩,⟨(aQ aA (l:=[aH]) (n:=1) rfl)⟩,⟨(a9 aA (Nat.le_refl 1):0+1≤(List.map aA [aH]).length)⟩,⟨(aI (e:=aA) eL3 3 0 3 (by decide))⟩,⟨cL2⟩,⟨(aG aA x1)⟩,⟨rT⟩,⟨(nT cL7)⟩,⟨(nT cL7)⟩,⟨(nT cL7)⟩,⟨(nT cL7)⟩,⟨(nT cL7)⟩,⟨(nT cL7)⟩,⟨(nT cL7)⟩,⟨(nT cL7)⟩,⟨(aI (e:=aA) eL3 3 0 1 (by decide))⟩,⟨cL2⟩,⟨(aG aA x1)⟩,⟨(nF cL6)⟩,⟨(nT cL1)⟩,⟨cL4⟩,⟨(nT cL1)⟩,⟨cL5⟩,⟨cL4⟩,⟨cL5⟩,⟨(aI (e:=aA) eL3 3 1 1 (by decide))⟩,⟨cL5⟩,⟨cL5⟩,⟨cL2⟩,⟨(aG aA x1)⟩,⟨cL5⟩,⟨cL5⟩,⟨cL5⟩,⟨cL5⟩,⟨cL4⟩,⟨cL4⟩,⟨(aI (e:=aA) eL3 3 0 1 (by decide))⟩,⟨cL4⟩,⟨cL4⟩,⟨cL2⟩,⟨(aG aA x1)⟩,⟨cL4⟩,⟨cL4⟩,⟨cL4⟩,⟨cL4⟩,⟨(nT cL1)⟩,⟨(nT cL1)⟩,⟨(aI (e:=aA) eL3 3 0 1 (by decide))⟩,⟨(nT cL1)⟩,⟨(nT cL1)⟩,⟨cL2⟩,⟨(aG aA x1)⟩,⟨(nT cL1)⟩,⟨(nT cL1)⟩,⟨(nT cL1)⟩,⟨(nT cL1)⟩,⟨cL0⟩,⟨(aG aA x1)⟩] (by kernel_rfl) (bY x1 x2 x3 y k bJ (aO .i64 aU 1) (aF++[aH]) aJ h)
          rw[if_neg cL8] at h;replace cL8:=eqf cL8
          cases h
        rw[if_neg cL6] at h;replace cL6:=eqf cL6
        by_cases cL7:bB (((aF++[(x3,x2,aJ)]).length)*24)=true
        · rw[if_pos cL7] at h
          by_cases cL8:eqI aH.1 x3=true
          · rw[if_pos cL8] at h
            by_cases cL9:eqI aH.2.1 x2=true
            · rw[if_pos cL9] at h
              exact LT.next aK (hs:=⟨[(0,[]),(1,[]),(2,[]),(11,[]),(12,[]),(13,[]),(14,[])],[⟨.tmp 11,[],none⟩,⟨.tmp 12,[],some 3⟩],false,[],[]⟩) (es:=none) [.n x1.length,dt,dt,dt,dt,dt,.n x1.length,dt,dt,.row [(.int .u8 aH.1)],dt,dt,df,df,df,df,.n x1.length,df,df,.row [(.int .u8 aH.1)],df,df,dt,dt,dt,dt,.n x1.length,dt,dt,.row [(.int .i64 aH.2.1)],dt,df,dt,dt,df,dt,dt,(aLN x2 x3 aJ),.n ((aF++[(x3,x2,aJ)]).length),.n aF.length,dt,(aHM x2 x3 aF aJ),.n x1.length,.row [(.int .u8 aH.1)],df,df,df,.n x1.length,df,df,.row [(.int .i64 aH.2.1)],df,df,df,df,.n ((aF++[(x3,x2,aJ)]).length),(aHM x2 x3 aF aJ)] [⟨(bL aA (l:=(aF++[(x3,x2,aJ)])) (n:=((aF++[(x3,x2,aJ)]).length)) rfl)⟩,⟨(rfl:(aF++[(x3,x2,aJ)]).length=(aF++[(x3,x2,aJ)]).length)⟩,⟨(zle ((aF++[(x3,x2,aJ)]).length))⟩,⟨(nF cL9)⟩,⟨(nF cL8)⟩,⟨(nF cL8)⟩,⟨(nF cL8)⟩,⟨(aI (e:=aA) eL3 3 1 1 (by decide))⟩,⟨(nF cL8)⟩,⟨(nF cL8)⟩,⟨cL2⟩,⟨(aG aA x1)⟩,⟨(nF cL8)⟩,⟨(nF cL8)⟩,⟨(nF cL8)⟩,⟨(aI (e:=aA) eL3 3 0 1 (by decide))⟩,⟨cL2⟩,⟨(aG aA x1)⟩,⟨(f5 aA aF [(x3,x2,aJ)])⟩,⟨(dZ aF.length)⟩,⟨(aG aA aF)⟩,⟨cL7⟩,⟨(by simp only[wl,List.length_map,List.map_nil,List.map_cons]<;>omega:aF.length+(List.map aA [(x3,x2,aJ)]).length=(aF++[(x3,x2,aJ)]).length)⟩,⟨(aQ aA (l:=[(x3,x2,aJ)]) (n:=1) rfl)⟩,⟨(a9 aA (Nat.le_refl 1):0+1≤(List.map aA [(x3,x2,aJ)]).length)⟩,⟨(nT cL6)⟩,⟨(nT cL1)⟩,⟨cL4⟩,⟨(nT cL1)⟩,⟨cL5⟩,⟨cL4⟩,⟨cL5⟩,⟨(aI (e:=aA) eL3 3 1 1 (by decide))⟩,⟨cL5⟩,⟨cL5⟩,⟨cL2⟩,⟨(aG aA x1)⟩,⟨cL5⟩,⟨cL5⟩,⟨cL5⟩,⟨cL5⟩,⟨cL4⟩,⟨cL4⟩,⟨(aI (e:=aA) eL3 3 0 1 (by decide))⟩,⟨cL4⟩,⟨cL4⟩,⟨cL2⟩,⟨(aG aA x1)⟩,⟨cL4⟩,⟨cL4⟩,⟨cL4⟩,⟨cL4⟩,⟨(nT cL1)⟩,⟨(nT cL1)⟩,⟨(aI (e:=aA) eL3 3 0 1 (by decide))⟩,⟨(nT cL1)⟩,⟨(nT cL1)⟩,⟨cL2⟩,⟨(aG aA x1)⟩,⟨(nT cL1)⟩,⟨(nT cL1)⟩,⟨(nT cL1)⟩,⟨(nT cL1)⟩,⟨cL0⟩,⟨(aG aA x1)⟩] (by kernel_rfl) (bY x1 x2 x3 y k true (aO .i64 aU 1) (aF++[(x3,x2,aJ)]) aJ h)
            rw[if_neg cL9] at h;replace cL9:=eqf cL9
            by_cases cL10:bB ((((aF++[(x3,x2,aJ)])++[aH]).length)*24)=true
            · rw[if_pos cL10] at h
              exact LT.next aK (hs:=⟨[(0,[]),(1,[]),(2,[]),(11,[]),(12,[]),(13,[]),(14,[])],[⟨.tmp 11,[],none⟩,⟨.tmp 12,[],some 3⟩],false,[],[]⟩) (es:=none) [.n x1.length,dt,dt,dt,dt,dt,.n x1.length,dt,dt,.row [(.int .u8 aH.1)],dt,dt,df,df,df,df,.n x1.length,df,df,.row [(.int .u8 aH.1)],df,df,dt,dt,dt,dt,.n x1.length,dt,dt,.row [(.int .i64 aH.2.1)],dt,df,dt,dt,df,dt,dt,(aLN x2 x3 aJ),.n ((aF++[(x3,x2,aJ)]).length),.n aF.length,dt,(aHM x2 x3 aF aJ),.n x1.length,.row [(.int .u8 aH.1)],df,df,df,.n x1.length,df,df,.row [(.int .i64 aH.2.1)],df,df,df,dt,.n x1.length,(aDT aH),.rows (List.map aA [aH]),.n (((aF++[(x3,x2,aJ)])++[aH]).length),.n ((aF++[(x3,x2,aJ)]).length),dt,(aHV x2 x3 aH aF aJ),.n (((aF++[(x3,x2,aJ)])++[aH]).length),(aHV x2 x3 aH aF aJ)] [⟨(bL aA (l:=((aF++[(x3,x2,aJ)])++[aH])) (n:=(((aF++[(x3,x2,aJ)])++[aH]).length)) rfl)⟩,⟨(rfl:((aF++[(x3,x2,aJ)])++[aH]).length=((aF++[(x3,x2,aJ)])++[aH]).length)⟩,⟨(zle (((aF++[(x3,x2,aJ)])++[aH]).length))⟩,⟨(f5 aA (aF++[(x3,x2,aJ)]) [aH])⟩,⟨(dZ ((aF++[(x3,x2,aJ)]).length))⟩,⟨(aG aA (aF++[(x3,x2,aJ)]))⟩,⟨cL10⟩,⟨(by simp only[wl,List.length_map,List.map_nil,List.map_cons]<;>omega:((aF++[(x3,x2,aJ)]).length)+(List.map aA [aH]).length=((aF++[(x3,x2,aJ)])++[aH]).length)⟩,⟨(aQ aA (l:=[aH]) (n:=1) rfl)⟩,⟨(a9 aA (Nat.le_refl 1):0+1≤(List.map aA [aH]).length)⟩,⟨(aI (e:=aA) eL3 3 0 3 (by decide))⟩,⟨cL2⟩,⟨(aG aA x1)⟩,⟨(nT cL9)⟩,⟨(nF cL8)⟩,⟨(nF cL8)⟩,⟨(nF cL8)⟩,⟨(aI (e:=aA) eL3 3 1 1 (by decide))⟩,⟨(nF cL8)⟩,⟨(nF cL8)⟩,⟨cL2⟩,⟨(aG aA x1)⟩,⟨(nF cL8)⟩,⟨(nF cL8)⟩,⟨(nF cL8)⟩,⟨(aI (e:=aA) eL3 3 0 1 (by decide))⟩,⟨cL2⟩,⟨(aG aA x1)⟩,⟨(f5 aA aF [(x3,x2,aJ)])⟩,⟨(dZ aF.length)⟩,⟨(aG aA aF)⟩,⟨cL7⟩,⟨(by simp only[wl,List.length_map,List.map_nil,List.map_cons]<;>omega:aF.length+(List.map aA [(x3,x2,aJ)]).length=(aF++[(x3,x2,aJ)]).length)⟩,⟨(aQ aA (l:=[(x3,x2,aJ)]) (n:=1) rfl)⟩,⟨(a9 aA (Nat.le_refl 1):0+1≤(List.map aA [(x3,x2,aJ)]).length)⟩,⟨(nT cL6)⟩,⟨(nT cL1)⟩,⟨cL4⟩,⟨(nT cL1)⟩,⟨cL5⟩,⟨cL4⟩,⟨cL5⟩,⟨(aI (e:=aA) eL3 3 1 1 (by decide))⟩,⟨cL5⟩,⟨cL5⟩,⟨cL2⟩,⟨(aG aA x1)⟩,⟨cL5⟩,⟨cL5⟩,⟨cL5⟩,⟨cL5⟩,⟨cL4⟩,⟨cL4⟩,⟨(aI (e:=aA) eL3 3 0 1 (by decide))⟩,⟨cL4⟩,⟨cL4⟩,⟨cL2⟩,⟨(aG aA x1)⟩,⟨cL4⟩,⟨cL4⟩,⟨cL4⟩,⟨cL4⟩,⟨(nT cL1)⟩,⟨(nT cL1)⟩,⟨(aI (e:=aA) eL3 3 0 1 (by decide))⟩,⟨(nT cL1)⟩,⟨(nT cL1)⟩,⟨cL2⟩,⟨(aG aA x1)⟩,⟨(nT cL1)⟩,⟨(nT cL1)⟩,⟨(nT cL1)⟩,⟨(nT cL1)⟩,⟨cL0⟩,⟨(aG aA x1)⟩] (by kernel_rfl) (bY x1 x2 x3 y k true (aO .i64 aU 1) ((aF++[(x3,x2,aJ)])++[aH]) aJ h)
            rw[if_neg cL10] at h;replace cL10:=eqf cL10
            cases h
          rw[if_neg cL8] at h;replace cL8:=eqf cL8
          by_cases cL9:bB ((((aF++[(x3,x2,aJ)])++[aH]).length)*24)=true
          · rw[if_pos cL9] at h
            exact LT.next aK (hs:=⟨[(0,[]),(1,[]),(2,[]),(11,[]),(12,[]),(13,[]),(14,[])],[⟨.tmp 11,[],none⟩,⟨.tmp 12,[],some 3⟩],false,[],[]⟩) (es:=none) [.n x1.length,dt,dt,dt,dt,dt,.n x1.length,dt,dt,.row [(.int .u8 aH.1)],dt,dt,df,df,df,df,.n x1.length,df,df,.row [(.int .u8 aH.1)],df,df,dt,dt,dt,dt,.n x1.length,dt,dt,.row [(.int .i64 aH.2.1)],dt,df,dt,dt,df,dt,dt,(aLN x2 x3 aJ),.n ((aF++[(x3,x2,aJ)]).length),.n aF.length,dt,(aHM x2 x3 aF aJ),.n x1.length,.row [(.int .u8 aH.1)],dt,dt,dt,dt,dt,dt,dt,dt,dt,.n x1.length,(aDT aH),.rows (List.map aA [aH]),.n (((aF++[(x3,x2,aJ)])++[aH]).length),.n ((aF++[(x3,x2,aJ)]).length),dt,(aHV x2 x3 aH aF aJ),.n (((aF++[(x3,x2,aJ)])++[aH]).length),(aHV x2 x3 aH aF aJ)] [⟨(bL aA (l:=((aF++[(x3,x2,aJ)])++[aH])) (n:=(((aF++[(x3,x2,aJ)])++[aH]).length)) rfl)⟩,⟨(rfl:((aF++[(x3,x2,aJ)])++[aH]).length=((aF++[(x3,x2,aJ)])++[aH]).length)⟩,⟨(zle (((aF++[(x3,x2,aJ)])++[aH]).length))⟩,⟨(f5 aA (aF++[(x3,x2,aJ)]) [aH])⟩,⟨(dZ ((aF++[(x3,x2,aJ)]).length))⟩,⟨(aG aA (aF++[(x3,x2,aJ)]))⟩,⟨cL9⟩,⟨(by simp only[wl,List.length_map,List.map_nil,List.map_cons]<;>omega:((aF++[(x3,x2,aJ)]).length)+(List.map aA [aH]).length=((aF++[(x3,x2,aJ)])++[aH]).length)⟩,⟨(aQ aA (l:=[aH]) (n:=1) rfl)⟩,⟨(a9 aA (Nat.le_refl 1):0+1≤(List.map aA [aH]).length)⟩,⟨(aI (e:=aA) eL3 3 0 3 (by decide))⟩,⟨cL2⟩,⟨(aG aA x1)⟩,⟨rT⟩,⟨(nT cL8)⟩,⟨(nT cL8)⟩,⟨(nT cL8)⟩,⟨(nT cL8)⟩,⟨(nT cL8)⟩,⟨(nT cL8)⟩,⟨(nT cL8)⟩,⟨(nT cL8)⟩,⟨(aI (e:=aA) eL3 3 0 1 (by decide))⟩,⟨cL2⟩,⟨(aG aA x1)⟩,⟨(f5 aA aF [(x3,x2,aJ)])⟩,⟨(dZ aF.length)⟩,⟨(aG aA aF)⟩,⟨cL7⟩,⟨(by simp only[wl,List.length_map,List.map_nil,List.map_cons]<;>omega:aF.length+(List.map aA [(x3,x2,aJ)]).length=(aF++[(x3,x2,aJ)]).length)⟩,⟨(aQ aA (l:=[(x3,x2,aJ)]) (n:=1) rfl)⟩,⟨(a9 aA (Nat.le_refl 1):0+1≤(List.map aA [(x3,x2,aJ)]).length)⟩,⟨(nT cL6)⟩,⟨(nT cL1)⟩,⟨cL4⟩,⟨(nT cL1)⟩,⟨cL5⟩,⟨cL4⟩,⟨cL5⟩,⟨(aI (e:=aA) eL3 3 1 1 (by decide))⟩,⟨cL5⟩,⟨cL5⟩,⟨cL2⟩,⟨(aG aA x1)⟩,⟨cL5⟩,⟨cL5⟩,⟨cL5⟩,⟨cL5⟩,⟨cL4⟩,⟨cL4⟩,⟨(aI (e:=aA) eL3 3 0 1 (by decide))⟩,⟨cL4⟩,⟨cL4⟩,⟨cL2⟩,⟨(aG aA x1)⟩,⟨cL4⟩,⟨cL4⟩,⟨cL4⟩,⟨cL4⟩,⟨(nT cL1)⟩,⟨(nT cL1)⟩,⟨(aI (e:=aA) eL3 3 0 1 (by decide))⟩,⟨(nT cL1)⟩,⟨(nT cL1)⟩,⟨cL2⟩,⟨(aG aA x1)⟩,⟨(nT cL1)⟩,⟨(nT cL1)⟩,⟨(nT cL1)⟩,⟨(nT cL1)⟩,⟨cL0⟩,⟨(aG aA x1)⟩] (by kernel_rfl) (bY x1 x2 x3 y k true (aO .i64 aU 1) ((aF++[(x3,x2,aJ)])++[aH]) aJ h)
          rw[if_neg cL9] at h;replace cL9:=eqf cL9
          cases h
        rw[if_neg cL7] at h;replace cL7:=eqf cL7
        cases h
      rw[if_neg cL5] at h;replace cL5:=eqf cL5
      by_cases cL6:eqI aH.1 x3=true
      · rw[if_pos cL6] at h
        by_cases cL7:eqI aH.2.1 x2=true
        · rw[if_pos cL7] at h
          exact LT.next aK (hs:=⟨[(0,[]),(1,[]),(2,[]),(11,[]),(12,[]),(13,[]),(14,[])],[⟨.tmp 11,[],none⟩,⟨.tmp 12,[],some 3⟩],false,[],[]⟩) (es:=none) [.n x1.length,dt,dt,dt,dt,dt,.n x1.length,dt,dt,.row [(.int .u8 aH.1)],dt,dt,df,df,df,df,.n x1.length,df,df,.row [(.int .u8 aH.1)],df,df,df,df,df,df,df,df,df,df,df,dt,df,dt,df,.n x1.length,.row [(.int .u8 aH.1)],df,df,df,.n x1.length,df,df,.row [(.int .i64 aH.2.1)],df,df,df,df,.n aF.length,.rows (List.map aA aF)] [⟨(bL aA (l:=aF) (n:=aF.length) rfl)⟩,⟨(rfl:aF.length=aF.length)⟩,⟨(zle aF.length)⟩,⟨(nF cL7)⟩,⟨(nF cL6)⟩,⟨(nF cL6)⟩,⟨(nF cL6)⟩,⟨(aI (e:=aA) eL3 3 1 1 (by decide))⟩,⟨(nF cL6)⟩,⟨(nF cL6)⟩,⟨cL2⟩,⟨(aG aA x1)⟩,⟨(nF cL6)⟩,⟨(nF cL6)⟩,⟨(nF cL6)⟩,⟨(aI (e:=aA) eL3 3 0 1 (by decide))⟩,⟨cL2⟩,⟨(aG aA x1)⟩,⟨rF⟩,⟨(nT cL1)⟩,⟨cL4⟩,⟨(nT cL1)⟩,⟨cL5⟩,⟨cL4⟩,⟨cL5⟩,⟨cL5⟩,⟨cL5⟩,⟨cL5⟩,⟨cL5⟩,⟨cL5⟩,⟨cL5⟩,⟨cL4⟩,⟨cL4⟩,⟨(aI (e:=aA) eL3 3 0 1 (by decide))⟩,⟨cL4⟩,⟨cL4⟩,⟨cL2⟩,⟨(aG aA x1)⟩,⟨cL4⟩,⟨cL4⟩,⟨cL4⟩,⟨cL4⟩,⟨(nT cL1)⟩,⟨(nT cL1)⟩,⟨(aI (e:=aA) eL3 3 0 1 (by decide))⟩,⟨(nT cL1)⟩,⟨(nT cL1)⟩,⟨cL2⟩,⟨(aG aA x1)⟩,⟨(nT cL1)⟩,⟨(nT cL1)⟩,⟨(nT cL1)⟩,⟨(nT cL1)⟩,⟨cL0⟩,⟨(aG aA x1)⟩] (by kernel_rfl) (bY x1 x2 x3 y k bJ (aO .i64 aU 1) aF aJ h)
        rw[if_neg cL7] at h;replace cL7:=eqf cL7
        by_cases cL8:bB (((aF++[aH]).length)*24)=true
        · rw[if_pos cL8] at h
          exact LT.next aK (hs:=⟨[(0,[]),(1,[]),(2,[]),(11,[]),(12,[]),(13,[]),(14,[])],[⟨.tmp 11,[],none⟩,⟨.tmp 12,[],some 3⟩],false,[],[]⟩) (es:=none) [.n x1.length,dt,dt,dt,dt,dt,.n x1.length,dt,dt,.row [(.int .u8 aH.1)],dt,dt,df,df,df,df,.n x1.length,df,df,.row [(.int .u8 aH.1)],df,df,df,df,df,df,df,df,df,df,df,dt,df,dt,df,.n x1.length,.row [(.int .u8 aH.1)],df,df,df,.n x1.length,df,df,.row [(.int .i64 aH.2.1)],df,df,df,dt,.n x1.length,(aDT aH),.rows (List.map aA [aH]),.n ((aF++[aH]).length),.n aF.length,dt,(aBH aH aF),.n ((aF++[aH]).length),(aBH aH aF)] [⟨(bL aA (l:=(aF++[aH])) (n:=((aF++[aH]).length)) rfl)⟩,⟨(rfl:(aF++[aH]).length=(aF++[aH]).length)⟩,⟨(zle ((aF++[aH]).length))⟩,⟨(f5 aA aF [aH])⟩,⟨(dZ aF.length)⟩,⟨(aG aA aF)⟩,⟨cL8⟩,⟨(by simp only[wl,List.length_map,List.map_nil,List.map_cons]<;>omega:aF.length+(List.map aA [aH]).length=(aF++[aH]).length)⟩,⟨(aQ aA (l:=[aH]) (n:=1) rfl)⟩,⟨(a9 aA (Nat.le_refl 1):0+1≤(List.map aA [aH]).length)⟩,⟨(aI (e:=aA) eL3 3 0 3 (by decide))⟩,⟨cL2⟩,⟨(aG aA x1)⟩,⟨(nT cL7)⟩,⟨(nF cL6)⟩,⟨(nF cL6)⟩,⟨(nF cL6)⟩,⟨(aI (e:=aA) eL3 3 1 1 (by decide))⟩,⟨(nF cL6)⟩,⟨(nF cL6)⟩,⟨cL2⟩,⟨(aG aA x1)⟩,⟨(nF cL6)⟩,⟨(nF cL6)⟩,⟨(nF cL6)⟩,⟨(aI (e:=aA) eL3 3 0 1 (by decide))⟩,⟨cL2⟩,⟨(aG aA x1)⟩,⟨rF⟩,⟨(nT cL1)⟩,⟨cL4⟩,⟨(nT cL1)⟩,⟨cL5⟩,⟨cL4⟩,⟨cL5⟩,⟨cL5⟩,⟨cL5⟩,⟨cL5⟩,⟨cL5⟩,⟨cL5⟩,⟨cL5⟩,⟨cL4⟩,⟨cL4⟩,⟨(aI (e:=aA) eL3 3 0 1 (by decide))⟩,⟨cL4⟩,⟨cL4⟩,⟨cL2⟩,⟨(aG aA x1)⟩,⟨cL4⟩,⟨cL4⟩,⟨cL4⟩,⟨cL4⟩,⟨(nT cL1)⟩,⟨(nT cL1)⟩,⟨(aI (e:=aA) eL3 3 0 1 (by decide))⟩,⟨(nT cL1)⟩,⟨(nT cL1)⟩,⟨cL2⟩,⟨(aG aA x1)⟩,⟨(nT cL1)⟩,⟨(nT cL1)⟩,⟨(nT cL1)⟩,⟨(nT cL1)⟩,⟨cL0⟩,⟨(aG aA x1)⟩] (by kernel_rfl) (bY x1 x2 x3 y k bJ (aO .i64 aU 1) (aF++[aH]) aJ h)
        rw[if_neg cL8] at h;replace cL8:=eqf cL8
        cases h
      rw[if_neg cL6] at h;replace cL6:=eqf cL6
      by_cases cL7:bB (((aF++[aH]).length)*24)=true
      · rw[if_pos cL7] at h
        exact LT.next aK (hs:=⟨[(0,[]),(1,[]),(2,[]),(11,[]),(12,[]),(13,[]),(14,[])],[⟨.tmp 11,[],none⟩,⟨.tmp 12,[],some 3⟩],false,[],[]⟩) (es:=none) [.n x1.length,dt,dt,dt,dt,dt,.n x1.length,dt,dt,.row [(.int .u8 aH.1)],dt,dt,df,df,df,df,.n x1.length,df,df,.row [(.int .u8 aH.1)],df,df,df,df,df,df,df,df,df,df,df,dt,df,dt,df,.n x1.length,.row [(.int .u8 aH.1)],dt,dt,dt,dt,dt,dt,dt,dt,dt,.n x1.length,(aDT aH),.rows (List.map aA [aH]),.n ((aF++[aH]).length),.n aF.length,dt,(aBH aH aF),.n ((aF++[aH]).length),(aBH aH aF)] [⟨(bL aA (l:=(aF++[aH])) (n:=((aF++[aH]).length)) rfl)⟩,⟨(rfl:(aF++[aH]).length=(aF++[aH]).length)⟩,⟨(zle ((aF++[aH]).length))⟩,⟨(f5 aA aF [aH])⟩,⟨(dZ aF.length)⟩,⟨(aG aA aF)⟩,⟨cL7⟩,⟨(by simp only[wl,List.length_map,List.map_nil,List.map_cons]<;>omega:aF.length+(List.map aA [aH]).length=(aF++[aH]).length)⟩,⟨(aQ aA (l:=[aH]) (n:=1) rfl)⟩,⟨(a9 aA (Nat.le_refl 1):0+1≤(List.map aA [aH]).length)⟩,⟨(aI (e:=aA) eL3 3 0 3 (by decide))⟩,⟨cL2⟩,⟨(aG aA x1)⟩,⟨rT⟩,⟨(nT cL6)⟩,⟨(nT cL6)⟩,⟨(nT cL6)⟩,⟨(nT cL6)⟩,⟨(nT cL6)⟩,⟨(nT cL6)⟩,⟨(nT cL6)⟩,⟨(nT cL6)⟩,⟨(aI (e:=aA) eL3 3 0 1 (by decide))⟩,⟨cL2⟩,⟨(aG aA x1)⟩,⟨rF⟩,⟨(nT cL1)⟩,⟨cL4⟩,⟨(nT cL1)⟩,⟨cL5⟩,⟨cL4⟩,⟨cL5⟩,⟨cL5⟩,⟨cL5⟩,⟨cL5⟩,⟨cL5⟩,⟨cL5⟩,⟨cL5⟩,⟨cL4⟩,⟨cL4⟩,⟨(aI (e:=aA) eL3 3 0 1 (by decide))⟩,⟨cL4⟩,⟨cL4⟩,⟨cL2⟩,⟨(aG aA x1)⟩,⟨cL4⟩,⟨cL4⟩,⟨cL4⟩,⟨cL4⟩,⟨(nT cL1)⟩,⟨(nT cL1)⟩,⟨(aI (e:=aA) eL3 3 0 1 (by decide))⟩,⟨(nT cL1)⟩,⟨(nT cL1)⟩,⟨cL2⟩,⟨(aG aA x1)⟩,⟨(nT cL1)⟩,⟨(nT cL1)⟩,⟨(nT cL1)⟩,⟨(nT cL1)⟩,⟨cL0⟩,⟨(aG aA x1)⟩] (by kernel_rfl) (bY x1 x2 x3 y k bJ (aO .i64 aU 1) (aF++[aH]) aJ h)
      rw[if_neg cL7] at h;replace cL7:=eqf cL7
      cases h
    rw[if_neg cL2] at h;replace cL2:=eqf cL2
    cases h
  rw[if_neg cL0] at h;replace cL0:=eqf cL0
  obtain rfl:=osi h
  show LT _ _ _ _ (.st (.exit 2) (aC9 x2 x3 bJ aJ aF))
  exact LT.done aK (hs:=⟨[],[],false,[],[]⟩) (es:=(some ⟨[(11,[]),(12,[]),(13,[])],[⟨.tmp 11,[],none⟩,⟨.tmp 12,[],none⟩],false,[],[]⟩)) [.n x1.length,df] [⟨cL0⟩,⟨(aG aA x1)⟩] (by kernel_rfl) (fun s h=>by cases h)
theorem jE (x1:aN) (x2:Int) (x3:Int) (x4:Bool) (y:(Sum (Unit) (aN × Int))):∀(k:Nat) (cV:Int),f7 k x1 x2 x3 x4 cV=some y→LT Try.prog X53 L53_0 (S53_0 x1 x2 x3 x4 cV) (O53_0 x1 x2 x3 x4 y)
 | 0,cV,h=>by cases h
 | k+1,cV,h=>by
  rw[f7] at h
  by_cases cL0:ltI cV (nI x1.length)=true
  · rw[if_pos cL0] at h
    by_cases cL1:inI cV x1.length=true
    · rw[if_pos cL1] at h
      obtain⟨iH,eL2,h⟩:=bsm h
      by_cases cL3:eqI iH.1 x3=true
      · rw[if_pos cL3] at h
        by_cases cL4:eqI iH.2.1 x2=true
        · rw[if_pos cL4] at h
          exact LT.next aK (hs:=⟨[(0,[]),(1,[]),(2,[]),(3,[]),(10,[])],[],false,[],[]⟩) (es:=none) [.n x1.length,dt,.n x1.length,.row [(.int .u8 iH.1)],dt,dt,dt,.n x1.length,dt,dt,.row [(.int .i64 iH.2.1)],dt,dt,dt,df,df,df,df,df] [⟨rF⟩,⟨(nF cL4)⟩,⟨(nF cL4)⟩,⟨(nF cL4)⟩,⟨(nF cL4)⟩,⟨cL3⟩,⟨cL3⟩,⟨cL3⟩,⟨(aI (e:=aA) eL2 3 1 1 (by decide))⟩,⟨cL3⟩,⟨cL3⟩,⟨cL1⟩,⟨(aG aA x1)⟩,⟨cL3⟩,⟨cL3⟩,⟨cL3⟩,⟨(aI (e:=aA) eL2 3 0 1 (by decide))⟩,⟨cL1⟩,⟨(aG aA x1)⟩,⟨cL0⟩,⟨(aG aA x1)⟩] (by kernel_rfl) (jE x1 x2 x3 x4 y k (aO .i64 cV 1) h)
        rw[if_neg cL4] at h;replace cL4:=eqf cL4
        by_cases cL5:x4=true
        · rw[if_pos cL5] at h
          obtain rfl:=osi h
          show LT _ _ _ _ (.fin (.tup [(.sl 3 (List.map aA ((x1,9).1))),(.int .i64 ((x1,9).2))]) [])
          exact LT.done aK (hs:=⟨[],[],false,[],[]⟩) (es:=none) [.n x1.length,dt,.n x1.length,.row [(.int .u8 iH.1)],dt,dt,dt,.n x1.length,dt,dt,.row [(.int .i64 iH.2.1)],dt,dt,dt,dt,dt,dt,dt,dt,dt,dt,dt,dt,dt,dt] [⟨rT⟩,⟨(nT cL4)⟩,⟨cL5⟩,⟨(nT cL4)⟩,⟨cL5⟩,⟨cL5⟩,⟨cL5⟩,⟨cL5⟩,⟨cL5⟩,⟨(nT cL4)⟩,⟨(nT cL4)⟩,⟨cL3⟩,⟨cL3⟩,⟨cL3⟩,⟨(aI (e:=aA) eL2 3 1 1 (by decide))⟩,⟨cL3⟩,⟨cL3⟩,⟨cL1⟩,⟨(aG aA x1)⟩,⟨cL3⟩,⟨cL3⟩,⟨cL3⟩,⟨(aI (e:=aA) eL2 3 0 1 (by decide))⟩,⟨cL1⟩,⟨(aG aA x1)⟩,⟨cL0⟩,⟨(aG aA x1)⟩] (by kernel_rfl) (fun s h=>by cases h)
        rw[if_neg cL5] at h;replace cL5:=eqf cL5
        by_cases cL6:iH.2.2=true
        · rw[if_pos cL6] at h
          obtain rfl:=osi h
          show LT _ _ _ _ (.fin (.tup [(.sl 3 (List.map aA ((x1,9).1))),(.int .i64 ((x1,9).2))]) [])
          exact LT.done aK (hs:=⟨[],[],false,[],[]⟩) (es:=none) [.n x1.length,dt,.n x1.length,.row [(.int .u8 iH.1)],dt,dt,dt,.n x1.length,dt,dt,.row [(.int .i64 iH.2.1)],dt,dt,dt,dt,dt,df,df,df,.n x1.length,df,df,.row [(.bool iH.2.2)],dt,df,dt,dt] [⟨cL6⟩,⟨(nT cL4)⟩,⟨cL5⟩,⟨(nT cL4)⟩,⟨(aI (e:=aA) eL2 3 2 1 (by decide))⟩,⟨cL5⟩,⟨cL5⟩,⟨cL1⟩,⟨(aG aA x1)⟩,⟨cL5⟩,⟨cL5⟩,⟨cL5⟩,⟨(nT cL4)⟩,⟨(nT cL4)⟩,⟨cL3⟩,⟨cL3⟩,⟨cL3⟩,⟨(aI (e:=aA) eL2 3 1 1 (by decide))⟩,⟨cL3⟩,⟨cL3⟩,⟨cL1⟩,⟨(aG aA x1)⟩,⟨cL3⟩,⟨cL3⟩,⟨cL3⟩,⟨(aI (e:=aA) eL2 3 0 1 (by decide))⟩,⟨cL1⟩,⟨(aG aA x1)⟩,⟨cL0⟩,⟨(aG aA x1)⟩] (by kernel_rfl) (fun s h=>by cases h)
        rw[if_neg cL6] at h;replace cL6:=eqf cL6
        exact LT.next aK (hs:=⟨[(0,[]),(1,[]),(2,[]),(3,[]),(10,[])],[],false,[],[]⟩) (es:=none) [.n x1.length,dt,.n x1.length,.row [(.int .u8 iH.1)],dt,dt,dt,.n x1.length,dt,dt,.row [(.int .i64 iH.2.1)],dt,dt,dt,dt,dt,df,df,df,.n x1.length,df,df,.row [(.bool iH.2.2)],dt,df,dt,df] [⟨cL6⟩,⟨(nT cL4)⟩,⟨cL5⟩,⟨(nT cL4)⟩,⟨(aI (e:=aA) eL2 3 2 1 (by decide))⟩,⟨cL5⟩,⟨cL5⟩,⟨cL1⟩,⟨(aG aA x1)⟩,⟨cL5⟩,⟨cL5⟩,⟨cL5⟩,⟨(nT cL4)⟩,⟨(nT cL4)⟩,⟨cL3⟩,⟨cL3⟩,⟨cL3⟩,⟨(aI (e:=aA) eL2 3 1 1 (by decide))⟩,⟨cL3⟩,⟨cL3⟩,⟨cL1⟩,⟨(aG aA x1)⟩,⟨cL3⟩,⟨cL3⟩,⟨cL3⟩,⟨(aI (e:=aA) eL2 3 0 1 (by decide))⟩,⟨cL1⟩,⟨(aG aA x1)⟩,⟨cL0⟩,⟨(aG aA x1)⟩] (by kernel_rfl) (jE x1 x2 x3 x4 y k (aO .i64 cV 1) h)
      rw[if_neg cL3] at h;replace cL3:=eqf cL3
      exact LT.next aK (hs:=⟨[(0,[]),(1,[]),(2,[]),(3,[]),(10,[])],[],false,[],[]⟩) (es:=none) [.n x1.length,dt,.n x1.length,.row [(.int .u8 iH.1)],df,df,df,df,df,df,df,df,df,df,df,df,df] [⟨rF⟩,⟨rF⟩,⟨rF⟩,⟨rF⟩,⟨rF⟩,⟨cL3⟩,⟨cL3⟩,⟨cL3⟩,⟨cL3⟩,⟨cL3⟩,⟨cL3⟩,⟨cL3⟩,⟨cL3⟩,⟨(aI (e:=aA) eL2 3 0 1 (by decide))⟩,⟨cL1⟩,⟨(aG aA x1)⟩,⟨cL0⟩,⟨(aG aA x1)⟩] (by kernel_rfl) (jE x1 x2 x3 x4 y k (aO .i64 cV 1) h)
    rw[if_neg cL1] at h;replace cL1:=eqf cL1
    cases h
  rw[if_neg cL0] at h;replace cL0:=eqf cL0
  obtain rfl:=osi h
  show LT _ _ _ _ (.st (.exit 0) (aCX x1 x2 x3 x4))
  exact LT.done aK (hs:=⟨[],[],false,[],[]⟩) (es:=(some ⟨[(0,[]),(1,[]),(2,[]),(3,[])],[],false,[],[]⟩)) [.n x1.length,df] [⟨cL0⟩,⟨(aG aA x1)⟩] (by kernel_rfl) (fun s h=>by cases h)
theorem vC (k:Nat) (x1:aN) (x2:Int) (x3:Int) (x4:Bool) (r:aN × Int) (h:uW k x1 x2 x3 x4=some r):Tri Try.prog 53 [(.sl 3 (List.map aA x1)),(.int .i64 x2),(.int .u8 x3),(.bool x4)] [] (.tup [(.sl 3 (List.map aA r.1)),(.int .i64 r.2)]) []:=by
 unfold uW at h
 obtain⟨x5,e0,h⟩:=bsm h
 by_cases c1:x5=true
 · rw[if_pos c1] at h
   by_cases c2:(iC x2 x3)=true
   · rw[if_pos c2] at h
     obtain⟨x6,e3,h⟩:=bsm h
     cases x6 with
     | inl x7 =>
      simp only[Sum.elim_inl] at h
      by_cases c5:x4=true
      · rw[if_pos c5] at h
        obtain⟨x9,e6,h⟩:=bsm h
        by_cases c8:x9.1=true
        · rw[if_pos c8] at h
          obtain rfl:=osi h
          exact Tri.of (x:=X53) aK aAS [.call ⟨true,[]⟩ (.bool x5) [],df,df,df,(aLY x2 x3),df,df,df,aQD,.out (.st .normal (aCX x1 x2 x3 x4)),dt,dt,dt,dt,dt,dt,A53_7,.n 0,.rows (List.map aA []),.out (.st .normal (aC9 x2 x3 x9.1 x9.2.1 x9.2.2)),df,.rows (List.map aA x9.2.2)] [⟨(aQ aA (l:=x9.2.2) (n:=x9.2.2.length) rfl)⟩,⟨(a9 aA (Nat.le_refl x9.2.2.length):0+x9.2.2.length≤(List.map aA x9.2.2).length)⟩,⟨(nF c8)⟩,⟨(LT.block (bY x1 x2 x3 _ k false 0 [] true e6))⟩,⟨(bL aA (l:=[]) (n:=0) rfl)⟩,⟨(rfl:0=0)⟩,⟨(zle 0)⟩,⟨c5⟩,⟨c5⟩,⟨c5⟩,⟨c5⟩,⟨c5⟩,⟨c5⟩,⟨(LT.block (jE x1 x2 x3 x4 _ k 0 e3))⟩,⟨(nF c2)⟩,⟨(nF c1)⟩,⟨(nF c1)⟩,⟨(gB x2 x3)⟩,⟨(nF c1)⟩,⟨(nF c1)⟩,⟨(nF c1)⟩,⟨(lW k x1 _ e0)⟩] (by kernel_rfl)
        rw[if_neg c8] at h;replace c8:=eqf c8
        by_cases c9:bB (((x9.2.2++[(x3,x2,x9.2.1)]).length)*24)=true
        · rw[if_pos c9] at h
          obtain rfl:=osi h
          exact Tri.of (x:=X53) aK aAS [.call ⟨true,[]⟩ (.bool x5) [],df,df,df,(aLY x2 x3),df,df,df,aQD,.out (.st .normal (aCX x1 x2 x3 x4)),dt,dt,dt,dt,dt,dt,A53_7,.n 0,.rows (List.map aA []),.out (.st .normal (aC9 x2 x3 x9.1 x9.2.1 x9.2.2)),dt,.rows (List.map aA [(x3,x2,x9.2.1)]),.n ((x9.2.2++[(x3,x2,x9.2.1)]).length),.n x9.2.2.length,dt,.rows (List.map aA (x9.2.2++[(x3,x2,x9.2.1)])),.rows (List.map aA (x9.2.2++[(x3,x2,x9.2.1)]))] [⟨(aQ aA (l:=(x9.2.2++[(x3,x2,x9.2.1)])) (n:=((x9.2.2++[(x3,x2,x9.2.1)]).length)) rfl)⟩,⟨(a9 aA (Nat.le_refl ((x9.2.2++[(x3,x2,x9.2.1)]).length)):0+(x9.2.2++[(x3,x2,x9.2.1)]).length≤(List.map aA (x9.2.2++[(x3,x2,x9.2.1)])).length)⟩,⟨(f5 aA x9.2.2 [(x3,x2,x9.2.1)])⟩,⟨(dZ x9.2.2.length)⟩,⟨(aG aA x9.2.2)⟩,⟨c9⟩,⟨(by simp only[wl,List.length_map,List.map_nil,List.map_cons]<;>omega:x9.2.2.length+(List.map aA [(x3,x2,x9.2.1)]).length=(x9.2.2++[(x3,x2,x9.2.1)]).length)⟩,⟨(aQ aA (l:=[(x3,x2,x9.2.1)]) (n:=1) rfl)⟩,⟨(a9 aA (Nat.le_refl 1):0+1≤(List.map aA [(x3,x2,x9.2.1)]).length)⟩,⟨(nT c8)⟩,⟨(LT.block (bY x1 x2 x3 _ k false 0 [] true e6))⟩,⟨(bL aA (l:=[]) (n:=0) rfl)⟩,⟨(rfl:0=0)⟩,⟨(zle 0)⟩,⟨c5⟩,⟨c5⟩,⟨c5⟩,⟨c5⟩,⟨c5⟩,⟨c5⟩,⟨(LT.block (jE x1 x2 x3 x4 _ k 0 e3))⟩,⟨(nF c2)⟩,⟨(nF c1)⟩,⟨(nF c1)⟩,⟨(gB x2 x3)⟩,⟨(nF c1)⟩,⟨(nF c1)⟩,⟨(nF c1)⟩,⟨(lW k x1 _ e0)⟩] (by kernel_rfl)
        rw[if_neg c9] at h;replace c9:=eqf c9
        cases h
      rw[if_neg c5] at h;replace c5:=eqf c5
      obtain⟨x8,e6,h⟩:=bsm h
      obtain⟨x10,e7,h⟩:=bsm h
      by_cases c9:x10.1=true
      · rw[if_pos c9] at h
        obtain rfl:=osi h
        exact Tri.of (x:=X53) aK aAS [.call ⟨true,[]⟩ (.bool x5) [],df,df,df,(aLY x2 x3),df,df,df,aQD,.out (.st .normal (aCX x1 x2 x3 x4)),df,df,df,df,.call ⟨true,[]⟩ (.int .i64 x8) [],df,df,A53_7,.n 0,.rows (List.map aA []),.out (.st .normal (aC9 x2 x3 x10.1 x10.2.1 x10.2.2)),df,.rows (List.map aA x10.2.2)] [⟨(aQ aA (l:=x10.2.2) (n:=x10.2.2.length) rfl)⟩,⟨(a9 aA (Nat.le_refl x10.2.2.length):0+x10.2.2.length≤(List.map aA x10.2.2).length)⟩,⟨(nF c9)⟩,⟨(LT.block (bY x1 x2 x3 _ k false 0 [] (eqI x8 2) e7))⟩,⟨(bL aA (l:=[]) (n:=0) rfl)⟩,⟨(rfl:0=0)⟩,⟨(zle 0)⟩,⟨c5⟩,⟨c5⟩,⟨(aB4 k x1 x2 x3 _ e6)⟩,⟨c5⟩,⟨c5⟩,⟨c5⟩,⟨c5⟩,⟨(LT.block (jE x1 x2 x3 x4 _ k 0 e3))⟩,⟨(nF c2)⟩,⟨(nF c1)⟩,⟨(nF c1)⟩,⟨(gB x2 x3)⟩,⟨(nF c1)⟩,⟨(nF c1)⟩,⟨(nF c1)⟩,⟨(lW k x1 _ e0)⟩] (by kernel_rfl)
      rw[if_neg c9] at h;replace c9:=eqf c9
      by_cases c10:bB (((x10.2.2++[(x3,x2,x10.2.1)]).length)*24)=true
      · rw[if_pos c10] at h
        obtain rfl:=osi h
        exact Tri.of (x:=X53) aK aAS [.call ⟨true,[]⟩ (.bool x5) [],df,df,df,(aLY x2 x3),df,df,df,aQD,.out (.st .normal (aCX x1 x2 x3 x4)),df,df,df,df,.call ⟨true,[]⟩ (.int .i64 x8) [],df,df,A53_7,.n 0,.rows (List.map aA []),.out (.st .normal (aC9 x2 x3 x10.1 x10.2.1 x10.2.2)),dt,.rows (List.map aA [(x3,x2,x10.2.1)]),.n ((x10.2.2++[(x3,x2,x10.2.1)]).length),.n x10.2.2.length,dt,.rows (List.map aA (x10.2.2++[(x3,x2,x10.2.1)])),.rows (List.map aA (x10.2.2++[(x3,x2,x10.2.1)]))] [⟨(aQ aA (l:=(x10.2.2++[(x3,x2,x10.2.1)])) (n:=((x10.2.2++[(x3,x2,x10.2.1)]).length)) rfl)⟩,⟨(a9 aA (Nat.le_refl ((x10.2.2++[(x3,x2,x10.2.1)]).length)):0+(x10.2.2++[(x3,x2,x10.2.1)]).length≤(List.map aA (x10.2.2++[(x3,x2,x10.2.1)])).length)⟩,⟨(f5 aA x10.2.2 [(x3,x2,x10.2.1)])⟩,⟨(dZ x10.2.2.length)⟩,⟨(aG aA x10.2.2)⟩,⟨c10⟩,⟨(by simp only[wl,List.length_map,List.map_nil,List.map_cons]<;>omega:x10.2.2.length+(List.map aA [(x3,x2,x10.2.1)]).length=(x10.2.2++[(x3,x2,x10.2.1)]).length)⟩,⟨(aQ aA (l:=[(x3,x2,x10.2.1)]) (n:=1) rfl)⟩,⟨(a9 aA (Nat.le_refl 1):0+1≤(List.map aA [(x3,x2,x10.2.1)]).length)⟩,⟨(nT c9)⟩,⟨(LT.block (bY x1 x2 x3 _ k false 0 [] (eqI x8 2) e7))⟩,⟨(bL aA (l:=[]) (n:=0) rfl)⟩,⟨(rfl:0=0)⟩,⟨(zle 0)⟩,⟨c5⟩,⟨c5⟩,⟨(aB4 k x1 x2 x3 _ e6)⟩,⟨c5⟩,⟨c5⟩,⟨c5⟩,⟨c5⟩,⟨(LT.block (jE x1 x2 x3 x4 _ k 0 e3))⟩,⟨(nF c2)⟩,⟨(nF c1)⟩,⟨(nF c1)⟩,⟨(gB x2 x3)⟩,⟨(nF c1)⟩,⟨(nF c1)⟩,⟨(nF c1)⟩,⟨(lW k x1 _ e0)⟩] (by kernel_rfl)
      rw[if_neg c10] at h;replace c10:=eqf c10
      cases h
     | inr x7 =>
      simp only[Sum.elim_inr] at h
      obtain rfl:=osi h
      exact Tri.of (x:=X53) aK aAS [.call ⟨true,[]⟩ (.bool x5) [],df,df,df,(aLY x2 x3),df,df,df,aQD,.out (.fin (.tup [(.sl 3 (List.map aA x7.1)),(.int .i64 x7.2)]) [])] [⟨(LT.blockFin (id:=0) (jE x1 x2 x3 x4 _ k 0 e3))⟩,⟨(nF c2)⟩,⟨(nF c1)⟩,⟨(nF c1)⟩,⟨(gB x2 x3)⟩,⟨(nF c1)⟩,⟨(nF c1)⟩,⟨(nF c1)⟩,⟨(lW k x1 _ e0)⟩] (by kernel_rfl)
   rw[if_neg c2] at h;replace c2:=eqf c2
   obtain rfl:=osi h
   exact Tri.of (x:=X53) aK aAS [.call ⟨true,[]⟩ (.bool x5) [],df,df,df,(aLY x2 x3),df,df,dt] [⟨(nT c2)⟩,⟨(nF c1)⟩,⟨(nF c1)⟩,⟨(gB x2 x3)⟩,⟨(nF c1)⟩,⟨(nF c1)⟩,⟨(nF c1)⟩,⟨(lW k x1 _ e0)⟩] (by kernel_rfl)
 rw[if_neg c1] at h;replace c1:=eqf c1
 obtain rfl:=osi h
 exact Tri.of (x:=X53) aK aAS [.call ⟨true,[]⟩ (.bool x5) [],dt,dt,dt,dt,dt,dt] [⟨rT⟩,⟨(nT c1)⟩,⟨(nT c1)⟩,⟨(nT c1)⟩,⟨(nT c1)⟩,⟨(nT c1)⟩,⟨(lW k x1 _ e0)⟩] (by kernel_rfl)
end Go.Ws

namespace Go.Ws
open Go.Proofs
set_option linter.unusedSimpArgs false
set_option linter.unusedVariables false
set_option maxRecDepth 1000000
set_option maxHeartbeats 4000000
noncomputable def X80:Ctx:=⟨Try.f80,[],true⟩
noncomputable def L80_0:Code:=at_ Try.f80 [1,0,1,4,5]
def S80_0 (x1:Int) (x2:aL) (x3:Bool) (x4:Int) (d7:Int):St:=⟨mkT 58 [(1,(.hp 0 0)),(3,(.int .i64 d7))],[(.row [(.int .i64 x1),(.sl 2 (List.map aC x2)),(.bool x3),(.int .i64 x4)])]⟩
def aN0 (x1:Int) (x2:aL) (x3:Bool) (x4:Int):St:=⟨mkT 58 [(1,(.hp 0 0))],[(.row [(.int .i64 x1),(.sl 2 (List.map aC x2)),(.bool x3),(.int .i64 x4)])]⟩
def O80_0 (x1:Int) (x2:aL) (x3:Bool) (x4:Int) (y:pO):GX:=match y with
 | .inl y=>.st (.exit 0) (aN0 x1 x2 x3 x4)
 | .inr y=>.fin (.bool y) []
def aAN:Ans:=.norm 2 ⟨[(1,[]),(3,[])],[⟨.tmp 1,[],none⟩],false,[],[]⟩
def aBE (x1:Int) (x2:aL) (x3:Bool) (x4:Int):Ans:=.out (.st .normal (aN0 x1 x2 x3 x4))
theorem dA (x1:Int) (x2:aL) (x3:Bool) (x4:Int) (y:pO):∀(k:Nat) (d7:Int),gC k x1 x2 x3 x4 d7=some y→LT Try.prog X80 L80_0 (S80_0 x1 x2 x3 x4 d7) (O80_0 x1 x2 x3 x4 y)
 | 0,d7,h=>by cases h
 | k+1,d7,h=>by
  rw[gC] at h
  by_cases cL0:ltI d7 (nI x2.length)=true
  · rw[if_pos cL0] at h
    by_cases cL1:inI d7 x2.length=true
    · rw[if_pos cL1] at h
      obtain⟨yC,eL2,h⟩:=bsm h
      by_cases cL3:ltI yC.1 64=true
      · rw[if_pos cL3] at h
        exact LT.next aK (hs:=⟨[(1,[]),(3,[])],[⟨.tmp 1,[],none⟩],false,[],[]⟩) (es:=none) [.n x2.length,dt,.n x2.length,.row [(.int .u8 yC.1)],df] [⟨(nF cL3)⟩,⟨(aI (e:=aC) eL2 2 0 1 (by decide))⟩,⟨cL1⟩,⟨(aG aC x2)⟩,⟨cL0⟩,⟨(aG aC x2)⟩] (by kernel_rfl) (dA x1 x2 x3 x4 y k (aO .i64 d7 1) h)
      rw[if_neg cL3] at h;replace cL3:=eqf cL3
      obtain rfl:=osi h
      show LT _ _ _ _ (.fin (.bool false) [])
      exact LT.done aK (hs:=⟨[],[],false,[],[]⟩) (es:=none) [.n x2.length,dt,.n x2.length,.row [(.int .u8 yC.1)],dt] [⟨(nT cL3)⟩,⟨(aI (e:=aC) eL2 2 0 1 (by decide))⟩,⟨cL1⟩,⟨(aG aC x2)⟩,⟨cL0⟩,⟨(aG aC x2)⟩] (by kernel_rfl) (fun s h=>by cases h)
    rw[if_neg cL1] at h;replace cL1:=eqf cL1
    cases h
  rw[if_neg cL0] at h;replace cL0:=eqf cL0
  obtain rfl:=osi h
  show LT _ _ _ _ (.st (.exit 0) (aN0 x1 x2 x3 x4))
  exact LT.done aK (hs:=⟨[],[],false,[],[]⟩) (es:=(some ⟨[(1,[])],[⟨.tmp 1,[],none⟩],false,[],[]⟩)) [.n x2.length,df] [⟨cL0⟩,⟨(aG aC x2)⟩] (by kernel_rfl) (fun s h=>by cases h)
theorem bN (k:Nat) (x1:Int) (x2:aL) (x3:Bool) (x4:Int) (r:Bool) (h:m5 k x1 x2 x3 x4=some r):Tri Try.prog 80 [(.agg [(.int .i64 x1),(.sl 2 (List.map aC x2)),(.bool x3),(.int .i64 x4)])] [] (.bool r) []:=by
 unfold m5 at h
 obtain⟨x5,e0,h⟩:=bsm h
 cases x5 with
 | inl x6 =>
  simp only[Sum.elim_inl] at h
  by_cases c2:ltI x1 0=true
  · rw[if_pos c2] at h
    obtain rfl:=osi h
    exact Tri.of (x:=X80) aK qS [aAN,(aBE x1 x2 x3 x4),dt,dt,dt,dt,dt,dt,dt,dt,dt,dt] [⟨rT⟩,⟨rT⟩,⟨rT⟩,⟨rT⟩,⟨rT⟩,⟨rT⟩,⟨c2⟩,⟨c2⟩,⟨c2⟩,⟨c2⟩,⟨(LT.block (dA x1 x2 x3 x4 _ k 0 e0))⟩] (by kernel_rfl)
  rw[if_neg c2] at h;replace c2:=eqf c2
  by_cases c3:ltI 3 x1=true
  · rw[if_pos c3] at h
    obtain rfl:=osi h
    exact Tri.of (x:=X80) aK qS [aAN,(aBE x1 x2 x3 x4),df,df,df,df,dt,dt,dt,dt,dt,dt] [⟨rT⟩,⟨c3⟩,⟨c3⟩,⟨c3⟩,⟨c3⟩,⟨c3⟩,⟨c2⟩,⟨c2⟩,⟨c2⟩,⟨c2⟩,⟨(LT.block (dA x1 x2 x3 x4 _ k 0 e0))⟩] (by kernel_rfl)
  rw[if_neg c3] at h;replace c3:=eqf c3
  by_cases c4:ltI 50 (nI x2.length)=true
  · rw[if_pos c4] at h
    obtain rfl:=osi h
    exact Tri.of (x:=X80) aK qS [aAN,(aBE x1 x2 x3 x4),df,df,df,df,df,df,df,.n x2.length,df,df,dt] [⟨c4⟩,⟨c3⟩,⟨c3⟩,⟨(aG aC x2)⟩,⟨c3⟩,⟨c3⟩,⟨c3⟩,⟨c2⟩,⟨c2⟩,⟨c2⟩,⟨c2⟩,⟨(LT.block (dA x1 x2 x3 x4 _ k 0 e0))⟩] (by kernel_rfl)
  rw[if_neg c4] at h;replace c4:=eqf c4
  by_cases c5:x3=true
  · rw[if_pos c5] at h
    by_cases c6:eqI x1 1=true
    · rw[if_pos c6] at h
      by_cases c7:eqI x1 3=true
      · rw[if_pos c7] at h
        by_cases c8:eqI x4 1=true
        · rw[if_pos c8] at h
          obtain rfl:=osi h
          exact Tri.of (x:=X80) aK qS [aAN,(aBE x1 x2 x3 x4),df,df,df,df,df,df,df,.n x2.length,df,df,df,dt,dt,dt,dt,df,df,df,df,df,dt,dt,dt,dt,dt] [⟨c8⟩,⟨c8⟩,⟨c8⟩,⟨c8⟩,⟨c7⟩,⟨rF⟩,⟨(nF c6)⟩,⟨(nF c6)⟩,⟨(nF c6)⟩,⟨(nF c6)⟩,⟨c5⟩,⟨c5⟩,⟨c5⟩,⟨c5⟩,⟨c4⟩,⟨c3⟩,⟨c3⟩,⟨(aG aC x2)⟩,⟨c3⟩,⟨c3⟩,⟨c3⟩,⟨c2⟩,⟨c2⟩,⟨c2⟩,⟨c2⟩,⟨(LT.block (dA x1 x2 x3 x4 _ k 0 e0))⟩] (by kernel_rfl)
        rw[if_neg c8] at h;replace c8:=eqf c8
        obtain rfl:=osi h
        exact Tri.of (x:=X80) aK qS [aAN,(aBE x1 x2 x3 x4),df,df,df,df,df,df,df,.n x2.length,df,df,df,dt,dt,dt,dt,df,df,df,df,df,dt,df,df,df,df] [⟨c8⟩,⟨c8⟩,⟨c8⟩,⟨c8⟩,⟨c7⟩,⟨rF⟩,⟨(nF c6)⟩,⟨(nF c6)⟩,⟨(nF c6)⟩,⟨(nF c6)⟩,⟨c5⟩,⟨c5⟩,⟨c5⟩,⟨c5⟩,⟨c4⟩,⟨c3⟩,⟨c3⟩,⟨(aG aC x2)⟩,⟨c3⟩,⟨c3⟩,⟨c3⟩,⟨c2⟩,⟨c2⟩,⟨c2⟩,⟨c2⟩,⟨(LT.block (dA x1 x2 x3 x4 _ k 0 e0))⟩] (by kernel_rfl)
      rw[if_neg c7] at h;replace c7:=eqf c7
      obtain rfl:=osi h
      exact Tri.of (x:=X80) aK qS [aAN,(aBE x1 x2 x3 x4),df,df,df,df,df,df,df,.n x2.length,df,df,df,dt,dt,dt,dt,df,df,df,df,df,df] [⟨c7⟩,⟨rF⟩,⟨(nF c6)⟩,⟨(nF c6)⟩,⟨(nF c6)⟩,⟨(nF c6)⟩,⟨c5⟩,⟨c5⟩,⟨c5⟩,⟨c5⟩,⟨c4⟩,⟨c3⟩,⟨c3⟩,⟨(aG aC x2)⟩,⟨c3⟩,⟨c3⟩,⟨c3⟩,⟨c2⟩,⟨c2⟩,⟨c2⟩,⟨c2⟩,⟨(LT.block (dA x1 x2 x3 x4 _ k 0 e0))⟩] (by kernel_rfl)
    rw[if_neg c6] at h;replace c6:=eqf c6
    by_cases c7:eqI x1 3=true
    · rw[if_pos c7] at h
      by_cases c8:eqI x4 1=true
      · rw[if_pos c8] at h
        obtain rfl:=osi h
        exact Tri.of (x:=X80) aK qS [aAN,(aBE x1 x2 x3 x4),df,df,df,df,df,df,df,.n x2.length,df,df,df,dt,dt,dt,dt,dt,dt,dt,dt,df,dt,dt,dt,dt,dt] [⟨c8⟩,⟨c8⟩,⟨c8⟩,⟨c8⟩,⟨c7⟩,⟨(nF c7)⟩,⟨(nT c6)⟩,⟨(nT c6)⟩,⟨(nT c6)⟩,⟨(nT c6)⟩,⟨c5⟩,⟨c5⟩,⟨c5⟩,⟨c5⟩,⟨c4⟩,⟨c3⟩,⟨c3⟩,⟨(aG aC x2)⟩,⟨c3⟩,⟨c3⟩,⟨c3⟩,⟨c2⟩,⟨c2⟩,⟨c2⟩,⟨c2⟩,⟨(LT.block (dA x1 x2 x3 x4 _ k 0 e0))⟩] (by kernel_rfl)
      rw[if_neg c8] at h;replace c8:=eqf c8
      obtain rfl:=osi h
      exact Tri.of (x:=X80) aK qS [aAN,(aBE x1 x2 x3 x4),df,df,df,df,df,df,df,.n x2.length,df,df,df,dt,dt,dt,dt,dt,dt,dt,dt,df,dt,df,df,df,df] [⟨c8⟩,⟨c8⟩,⟨c8⟩,⟨c8⟩,⟨c7⟩,⟨(nF c7)⟩,⟨(nT c6)⟩,⟨(nT c6)⟩,⟨(nT c6)⟩,⟨(nT c6)⟩,⟨c5⟩,⟨c5⟩,⟨c5⟩,⟨c5⟩,⟨c4⟩,⟨c3⟩,⟨c3⟩,⟨(aG aC x2)⟩,⟨c3⟩,⟨c3⟩,⟨c3⟩,⟨c2⟩,⟨c2⟩,⟨c2⟩,⟨c2⟩,⟨(LT.block (dA x1 x2 x3 x4 _ k 0 e0))⟩] (by kernel_rfl)
    rw[if_neg c7] at h;replace c7:=eqf c7
    obtain rfl:=osi h
    exact Tri.of (x:=X80) aK qS [aAN,(aBE x1 x2 x3 x4),df,df,df,df,df,df,df,.n x2.length,df,df,df,dt,dt,dt,dt,dt,dt,dt,dt,dt] [⟨(nT c7)⟩,⟨(nT c6)⟩,⟨(nT c6)⟩,⟨(nT c6)⟩,⟨(nT c6)⟩,⟨c5⟩,⟨c5⟩,⟨c5⟩,⟨c5⟩,⟨c4⟩,⟨c3⟩,⟨c3⟩,⟨(aG aC x2)⟩,⟨c3⟩,⟨c3⟩,⟨c3⟩,⟨c2⟩,⟨c2⟩,⟨c2⟩,⟨c2⟩,⟨(LT.block (dA x1 x2 x3 x4 _ k 0 e0))⟩] (by kernel_rfl)
  rw[if_neg c5] at h;replace c5:=eqf c5
  by_cases c6:eqI x1 3=true
  · rw[if_pos c6] at h
    by_cases c7:eqI x4 1=true
    · rw[if_pos c7] at h
      obtain rfl:=osi h
      exact Tri.of (x:=X80) aK qS [aAN,(aBE x1 x2 x3 x4),df,df,df,df,df,df,df,.n x2.length,df,df,df,df,df,df,df,df,df,df,df,df,dt,dt,dt,dt,dt] [⟨c7⟩,⟨c7⟩,⟨c7⟩,⟨c7⟩,⟨c6⟩,⟨rF⟩,⟨rF⟩,⟨rF⟩,⟨rF⟩,⟨rF⟩,⟨c5⟩,⟨c5⟩,⟨c5⟩,⟨c5⟩,⟨c4⟩,⟨c3⟩,⟨c3⟩,⟨(aG aC x2)⟩,⟨c3⟩,⟨c3⟩,⟨c3⟩,⟨c2⟩,⟨c2⟩,⟨c2⟩,⟨c2⟩,⟨(LT.block (dA x1 x2 x3 x4 _ k 0 e0))⟩] (by kernel_rfl)
    rw[if_neg c7] at h;replace c7:=eqf c7
    obtain rfl:=osi h
    exact Tri.of (x:=X80) aK qS [aAN,(aBE x1 x2 x3 x4),df,df,df,df,df,df,df,.n x2.length,df,df,df,df,df,df,df,df,df,df,df,df,dt,df,df,df,df] [⟨c7⟩,⟨c7⟩,⟨c7⟩,⟨c7⟩,⟨c6⟩,⟨rF⟩,⟨rF⟩,⟨rF⟩,⟨rF⟩,⟨rF⟩,⟨c5⟩,⟨c5⟩,⟨c5⟩,⟨c5⟩,⟨c4⟩,⟨c3⟩,⟨c3⟩,⟨(aG aC x2)⟩,⟨c3⟩,⟨c3⟩,⟨c3⟩,⟨c2⟩,⟨c2⟩,⟨c2⟩,⟨c2⟩,⟨(LT.block (dA x1 x2 x3 x4 _ k 0 e0))⟩] (by kernel_rfl)
  rw[if_neg c6] at h;replace c6:=eqf c6
  obtain rfl:=osi h
  exact Tri.of (x:=X80) aK qS [aAN,(aBE x1 x2 x3 x4),df,df,df,df,df,df,df,.n x2.length,df,df,df,df,df,df,df,df,df,df,df,df,df] [⟨c6⟩,⟨rF⟩,⟨rF⟩,⟨rF⟩,⟨rF⟩,⟨rF⟩,⟨c5⟩,⟨c5⟩,⟨c5⟩,⟨c5⟩,⟨c4⟩,⟨c3⟩,⟨c3⟩,⟨(aG aC x2)⟩,⟨c3⟩,⟨c3⟩,⟨c3⟩,⟨c2⟩,⟨c2⟩,⟨c2⟩,⟨c2⟩,⟨(LT.block (dA x1 x2 x3 x4 _ k 0 e0))⟩] (by kernel_rfl)
 | inr x6 =>
  simp only[Sum.elim_inr] at h
  obtain rfl:=osi h
  exact Tri.of (x:=X80) aK qS [aAN,.out (.fin (.bool x6) [])] [⟨(LT.blockFin (id:=0) (dA x1 x2 x3 x4 _ k 0 e0))⟩] (by kernel_rfl)
end Go.Ws
