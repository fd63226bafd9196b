/-
  Walks, merged.
  Conditions: none.
-/
import Derived.Test.YtpaekffehfdmgaaGreatDoorZPre
import Derived.Test.YtpaekffehfdmgaaGreatDoorZPure
import Derived.Test.YtpaekffehfdmgaaGreatDoorZCloneM
import Derived.Test.YtpaekffehfdmgaaGreatDoorZTrim
import Derived.Test.YtpaekffehfdmgaaGreatDoorZSumI
set_option linter.unusedVariables false
set_option linter.unusedSimpArgs false
namespace Go.Ws
open Go.Proofs
set_option linter.unusedSimpArgs false
set_option linter.unusedVariables false
set_option maxRecDepth 1000000
set_option maxHeartbeats 4000000
noncomputable def X120:Ctx:=⟨Tryz.f120,[],true⟩
theorem aEN:Tri Tryz.prog 120 [(.int .u64 3)] [] (.int .i64 (mW)) []:=by
 obtain⟨r,h⟩:∃r,mW=r:=⟨_,rfl⟩
 try rw[h]
 unfold mW at h
 obtain rfl:=h
 exact Tri.of (x:=X120) mixed facts120 [df,df,df] [⟨(nF (rfl:ltI 3 256=true))⟩,⟨(nF (rfl:ltI 3 65536=true))⟩,⟨(nF (rfl:ltI 3 4294967296=true))⟩] (by kernel_rfl)
end Go.Ws

namespace Go.Ws
open Go.Proofs
set_option linter.unusedSimpArgs false
set_option linter.unusedVariables false
set_option maxRecDepth 1000000
set_option maxHeartbeats 4000000
noncomputable def X81:Ctx:=⟨Tryz.f81,[],true⟩
theorem aIR:Tri Tryz.prog 81 [(.int .u64 3)] [] (.int .i64 (pI)) []:=by
 obtain⟨r,h⟩:∃r,pI=r:=⟨_,rfl⟩
 try rw[h]
 unfold pI at h
 obtain rfl:=h
 exact Tri.of (x:=X81) mixed facts81 [df,.call ⟨true,[]⟩ (.int .i64 mW) []] [⟨(aEN)⟩,⟨rF⟩] (by kernel_rfl)
end Go.Ws

namespace Go.Ws
open Go.Proofs
set_option linter.unusedSimpArgs false
set_option linter.unusedVariables false
set_option maxRecDepth 1000000
set_option maxHeartbeats 4000000
noncomputable def X142:Ctx:=⟨Tryz.f142,[],true⟩
theorem rK (x1:Int):Tri Tryz.prog 142 [(.int .u8 x1)] [] (.bool (gY x1)) []:=by
 obtain⟨r,h⟩:∃r,gY x1=r:=⟨_,rfl⟩
 try rw[h]
 unfold gY at h
 obtain rfl:=h
 exact Tri.of (x:=X142) mixed facts142 [] [] (by kernel_rfl)
end Go.Ws

namespace Go.Ws
open Go.Proofs
set_option linter.unusedSimpArgs false
set_option linter.unusedVariables false
set_option maxRecDepth 1000000
set_option maxHeartbeats 4000000
noncomputable def X116:Ctx:=⟨Tryz.f116,[],true⟩
theorem tM (x1:Int) (x2:Int):Tri Tryz.prog 116 [(.int .u8 x1),(.int .u8 x2)] [] (.bool (gV x1 x2)) []:=by
 obtain⟨r,h⟩:∃r,gV x1 x2=r:=⟨_,rfl⟩
 try rw[h]
 unfold gV at h
 by_cases c0:(gY x1)=true
 · rw[if_pos c0] at h
   let u3:List Ans:=[.call ⟨true,[]⟩ (.bool (gY x1)) [],dt,dt,.call ⟨true,[]⟩ (.bool (gY x2)) [],dt,dt]
   let w4:List Prf:=[⟨c0⟩,⟨c0⟩,⟨(rK x2)⟩,⟨c0⟩,⟨c0⟩,⟨(rK x1)⟩]
   by_cases c1:(gY x2)=true
   · rw[if_pos c1] at h
     obtain rfl:=h
     exact Tri.of (x:=X116) mixed aD5 (u3++[df,df,df,df]) ([⟨(nF c1)⟩,⟨(nF c1)⟩,⟨(nF c1)⟩,⟨(nF c1)⟩]++w4) (by kernel_rfl)
   rw[if_neg c1] at h;replace c1:=eqf c1
   obtain rfl:=h
   exact Tri.of (x:=X116) mixed aD5 (u3++[dt,dt,dt,dt]) ([⟨(nT c1)⟩,⟨(nT c1)⟩,⟨(nT c1)⟩,⟨(nT c1)⟩]++w4) (by kernel_rfl)
 rw[if_neg c0] at h;replace c0:=eqf c0
 obtain rfl:=h
 exact Tri.of (x:=X116) mixed aD5 [.call ⟨true,[]⟩ (.bool (gY x1)) [],df,df,df,df,df,df,df,df] [⟨rF⟩,⟨rF⟩,⟨rF⟩,⟨rF⟩,⟨c0⟩,⟨c0⟩,⟨c0⟩,⟨c0⟩,⟨(rK x1)⟩] (by kernel_rfl)
end Go.Ws

namespace Go.Ws
open Go.Proofs
set_option linter.unusedSimpArgs false
set_option linter.unusedVariables false
set_option maxRecDepth 1000000
set_option maxHeartbeats 4000000
noncomputable def X110 (x1:Int) (x2:Int) (x3:Int):Ctx:=⟨Tryz.f110,[(.arr 1 (List.map aN [x1,x2,x3]) 0 0 false)],false⟩
noncomputable def L110_7:Code:=at_ Tryz.f110 [1,4,5]
def S110_7 (aV:(List Int)) (eR:(List Int)):St:=⟨mkT 49 [(0,(.ref 1 0 0 0 aV.length .virt)),(1,(.int .i64 0)),(2,(.int .i64 3)),(6,(.int .i64 3))],[(.arr 1 (List.map aN eR) 0 0 false)]⟩
def aJK (eR:(List Int)):St:=⟨mkT 49 [],[(.arr 1 (List.map aN eR) 0 0 false)]⟩
def O110_7 (x1:Int) (x2:Int) (x3:Int) (aV:(List Int)) (eR:(List Int)) (y:(Unit)):GX:=.st (.exit 0) (aJK eR)
noncomputable def L110_6:Code:=at_ Tryz.f110 [1,4,5,1,0,4,1,4,5]
def S110_6 (aV:(List Int)) (bU:Int) (bR:Int) (cJ:Int) (cD:Int):St:=⟨mkT 49 [(0,(.ref 1 0 0 0 aV.length .virt)),(1,(.int .i64 0)),(2,(.int .i64 3)),(6,(.int .i64 2)),(7,(.int .i64 0))],[(.arr 1 (List.map aN (List.set (List.set (List.set (List.set aV 2 bR) 1 bU) 1 cD) 0 cJ)) 0 0 false)]⟩
def aJF (aV:(List Int)) (bU:Int) (bR:Int) (cJ:Int) (cD:Int):St:=⟨mkT 49 [(0,(.ref 1 0 0 0 aV.length .virt)),(1,(.int .i64 0)),(2,(.int .i64 3)),(6,(.int .i64 2))],[(.arr 1 (List.map aN (List.set (List.set (List.set (List.set aV 2 bR) 1 bU) 1 cD) 0 cJ)) 0 0 false)]⟩
def O110_6 (x1:Int) (x2:Int) (x3:Int) (aV:(List Int)) (bU:Int) (bR:Int) (cJ:Int) (cD:Int) (y:(Unit)):GX:=.st (.exit 2) (aJF aV bU bR cJ cD)
noncomputable def L110_5:Code:=at_ Tryz.f110 [1,4,5,1,0,4,1,4,5]
def S110_5 (aV:(List Int)) (bU:Int) (bR:Int):St:=⟨mkT 49 [(0,(.ref 1 0 0 0 aV.length .virt)),(1,(.int .i64 0)),(2,(.int .i64 3)),(6,(.int .i64 2)),(7,(.int .i64 1))],[(.arr 1 (List.map aN (List.set (List.set aV 2 bR) 1 bU)) 0 0 false)]⟩
def aDK (aV:(List Int)) (aN4:List Int):St:=⟨mkT 49 [(0,(.ref 1 0 0 0 aV.length .virt)),(1,(.int .i64 0)),(2,(.int .i64 3)),(6,(.int .i64 2))],[(.arr 1 (List.map aN aN4) 0 0 false)]⟩
def O110_5 (x1:Int) (x2:Int) (x3:Int) (aV:(List Int)) (bU:Int) (bR:Int) (y:((List Int))):GX:=.st (.exit 2) (aDK aV y)
noncomputable def L110_4:Code:=at_ Tryz.f110 [1,4,5,1,0,4,1,4,5]
def S110_4 (aV:(List Int)):St:=⟨mkT 49 [(0,(.ref 1 0 0 0 aV.length .virt)),(1,(.int .i64 0)),(2,(.int .i64 3)),(6,(.int .i64 2)),(7,(.int .i64 2))],[(.arr 1 (List.map aN aV) 0 0 false)]⟩
def y9 (aV:(List Int)) (aN5:List Int):St:=⟨mkT 49 [(0,(.ref 1 0 0 0 aV.length .virt)),(1,(.int .i64 0)),(2,(.int .i64 3)),(6,(.int .i64 2))],[(.arr 1 (List.map aN aN5) 0 0 false)]⟩
def O110_4 (x1:Int) (x2:Int) (x3:Int) (aV:(List Int)) (y:((List Int))):GX:=.st (.exit 2) (y9 aV y)
noncomputable def L110_3:Code:=at_ Tryz.f110 [1,4,5]
def S110_3 (aV:(List Int)):St:=⟨mkT 49 [(0,(.ref 1 0 0 0 aV.length .virt)),(1,(.int .i64 0)),(2,(.int .i64 3)),(6,(.int .i64 2))],[(.arr 1 (List.map aN aV) 0 0 false)]⟩
def aIL (aN6:List Int):St:=⟨mkT 49 [],[(.arr 1 (List.map aN aN6) 0 0 false)]⟩
def O110_3 (x1:Int) (x2:Int) (x3:Int) (aV:(List Int)) (y:((List Int))):GX:=.st (.exit 0) (aIL y)
noncomputable def L110_2:Code:=at_ Tryz.f110 [1,4,5,1,0,4,1,4,5]
def S110_2 (x1:Int) (x2:Int) (x3:Int):St:=⟨mkT 49 [(0,(.ref 1 0 0 0 3 .virt)),(1,(.int .i64 0)),(2,(.int .i64 3)),(6,(.int .i64 1)),(7,(.int .i64 0))],[(.arr 1 (List.map aN [x2,x1,x3]) 0 0 false)]⟩
def aJE (x1:Int) (x2:Int) (x3:Int):St:=⟨mkT 49 [(0,(.ref 1 0 0 0 3 .virt)),(1,(.int .i64 0)),(2,(.int .i64 3)),(6,(.int .i64 1))],[(.arr 1 (List.map aN [x2,x1,x3]) 0 0 false)]⟩
def O110_2 (x1:Int) (x2:Int) (x3:Int) (y:(Unit)):GX:=.st (.exit 2) (aJE x1 x2 x3)
noncomputable def L110_1:Code:=at_ Tryz.f110 [1,4,5,1,0,4,1,4,5]
def S110_1 (x1:Int) (x2:Int) (x3:Int):St:=⟨mkT 49 [(0,(.ref 1 0 0 0 3 .virt)),(1,(.int .i64 0)),(2,(.int .i64 3)),(6,(.int .i64 1)),(7,(.int .i64 1))],[(.arr 1 (List.map aN [x1,x2,x3]) 0 0 false)]⟩
def yQ (aGL:List Int):St:=⟨mkT 49 [(0,(.ref 1 0 0 0 aGL.length .virt)),(1,(.int .i64 0)),(2,(.int .i64 3)),(6,(.int .i64 1))],[(.arr 1 (List.map aN aGL) 0 0 false)]⟩
def O110_1 (x1:Int) (x2:Int) (x3:Int) (y:((List Int))):GX:=.st (.exit 2) (yQ y)
noncomputable def L110_0:Code:=at_ Tryz.f110 [1,4,5]
def S110_0 (x1:Int) (x2:Int) (x3:Int):St:=⟨mkT 49 [(0,(.ref 1 0 0 0 3 .virt)),(1,(.int .i64 0)),(2,(.int .i64 3)),(6,(.int .i64 1))],[(.arr 1 (List.map aN [x1,x2,x3]) 0 0 false)]⟩
def aDH (aN7:List Int):St:=⟨mkT 49 [],[(.arr 1 (List.map aN aN7) 0 0 false)]⟩
def O110_0 (x1:Int) (x2:Int) (x3:Int) (y:((List Int))):GX:=.st (.exit 0) (aDH y)
def A110_0:Ans:=.norm 8 ⟨[(0,[]),(1,[]),(2,[]),(6,[]),(7,[])],[],false,[],[]⟩
theorem kI (x1:Int) (x2:Int) (x3:Int) (aV:(List Int)) (eR:(List Int)) (y:(Unit)):∀(k:Nat),fP k x1 x2 x3 aV eR=some y→LT Tryz.prog (X110 x1 x2 x3) L110_7 (S110_7 aV eR) (O110_7 x1 x2 x3 aV eR y)
 | 0,h=>by cases h
 | k+1,h=>by
  rw[fP] at h
  obtain rfl:=osi h
  show LT _ _ _ _ (.st (.exit 0) (aJK eR))
  exact LT.done mixed (hs:=⟨[],[],false,[],[]⟩) (es:=(some ⟨[],[],false,[],[]⟩)) [df] [⟨(rfl:ltI 3 3=false)⟩] (by kernel_rfl) (fun s h=>by cases h)
theorem kK (x1:Int) (x2:Int) (x3:Int) (aV:(List Int)) (bU:Int) (bR:Int) (cJ:Int) (cD:Int) (y:(Unit)):∀(k:Nat),fL k x1 x2 x3 aV bU bR cJ cD=some y→LT Tryz.prog (X110 x1 x2 x3) L110_6 (S110_6 aV bU bR cJ cD) (O110_6 x1 x2 x3 aV bU bR cJ cD y)
 | 0,h=>by cases h
 | k+1,h=>by
  rw[fL] at h
  obtain rfl:=osi h
  show LT _ _ _ _ (.st (.exit 2) (aJF aV bU bR cJ cD))
  exact LT.done mixed (hs:=⟨[],[],false,[],[]⟩) (es:=(some ⟨[(0,[]),(1,[]),(2,[]),(6,[])],[],false,[],[]⟩)) [df,df,df,df,df,df,df,df,df,df,df,df] [⟨rF⟩,⟨(rfl:ltI 0 0=false)⟩,⟨(rfl:ltI 0 0=false)⟩,⟨(rfl:ltI 0 0=false)⟩,⟨(rfl:ltI 0 0=false)⟩,⟨(rfl:ltI 0 0=false)⟩,⟨(rfl:ltI 0 0=false)⟩,⟨(rfl:ltI 0 0=false)⟩,⟨(rfl:ltI 0 0=false)⟩,⟨(rfl:ltI 0 0=false)⟩,⟨(rfl:ltI 0 0=false)⟩,⟨(rfl:ltI 0 0=false)⟩] (by kernel_rfl) (fun s h=>by cases h)
theorem kG (x1:Int) (x2:Int) (x3:Int) (aV:(List Int)) (bU:Int) (bR:Int) (y:((List Int))):∀(k:Nat),fM k x1 x2 x3 aV bU bR=some y→LT Tryz.prog (X110 x1 x2 x3) L110_5 (S110_5 aV bU bR) (O110_5 x1 x2 x3 aV bU bR y)
 | 0,h=>by cases h
 | k+1,h=>by
  rw[fM] at h
  by_cases cL0:inI 1 aV.length=true
  · rw[if_pos cL0] at h
    obtain⟨cJ,eL1,h⟩:=bsm h
    by_cases cL2:inI 0 aV.length=true
    · rw[if_pos cL2] at h
      obtain⟨cD,eL3,h⟩:=bsm h
      let u1:List Ans:=[dt,dt,dt,dt,.row [(.int .u8 cJ)],dt,dt,dt,dt,dt,.row [(.int .u8 cD)],dt,.call ⟨true,[]⟩ (.bool (gV cJ cD)) [],dt]
      let w2:List Prf:=[⟨(rfl:ltI 0 1=true)⟩,⟨(tM cJ cD)⟩,⟨(rfl:ltI 0 1=true)⟩,⟨(cL (e:=aN) eL3 1 0 1 (by decide))⟩,⟨(rfl:ltI 0 1=true)⟩,⟨cL2⟩,⟨(rfl:ltI 0 1=true)⟩,⟨(rfl:ltI 0 1=true)⟩,⟨(rfl:ltI 0 1=true)⟩,⟨(rfl:ltI 0 1=true)⟩,⟨(cL (e:=aN) eL1 1 0 1 (by decide))⟩,⟨(rfl:ltI 0 1=true)⟩,⟨cL0⟩,⟨(rfl:ltI 0 1=true)⟩,⟨(rfl:ltI 0 1=true)⟩,⟨(rfl:ltI 0 1=true)⟩]
      by_cases cL4:(gV cJ cD)=true
      · rw[if_pos cL4] at h
        obtain⟨aNJ,eL5,h⟩:=bsm h
        obtain⟨aNK,eL6,h⟩:=bsm h
        obtain rfl:=osi h
        show LT _ _ _ _ (.st (.exit 2) (aDK aV (List.set (List.set (List.set (List.set aV 2 bR) 1 bU) 1 cD) 0 cJ)))
        exact LT.next mixed (hs:=⟨[(0,[]),(1,[]),(2,[]),(6,[]),(7,[])],[],false,[],[]⟩) (es:=none) (u1++[dt,.row [(.int .u8 cD)],.row [(.int .u8 cJ)],.rows (List.map aN (List.set (List.set (List.set aV 2 bR) 1 bU) 1 cD)),.rows (List.map aN (List.set (List.set (List.set (List.set aV 2 bR) 1 bU) 1 cD) 0 cJ))]) ([⟨(uS (e:=aN) eL5 0 [(.int .u8 cJ)] cJ rfl)⟩,⟨cL2⟩,⟨(uS (e:=aN) eL1 0 [(.int .u8 cD)] cD rfl)⟩,⟨cL0⟩,⟨(cL (e:=aN) eL1 1 0 1 (by decide))⟩,⟨cL0⟩,⟨(cL (e:=aN) eL3 1 0 1 (by decide))⟩,⟨cL2⟩,⟨cL4⟩]++w2) (by kernel_rfl) (kK x1 x2 x3 aV bU bR cJ cD _ k eL6)
      rw[if_neg cL4] at h;replace cL4:=eqf cL4
      obtain rfl:=osi h
      show LT _ _ _ _ (.st (.exit 2) (aDK aV (List.set (List.set aV 2 bR) 1 bU)))
      exact LT.done mixed (hs:=⟨[],[],false,[],[]⟩) (es:=(some ⟨[(0,[]),(1,[]),(2,[]),(6,[])],[],false,[],[]⟩)) (u1++[df]) ([⟨cL4⟩]++w2) (by kernel_rfl) (fun s h=>by cases h)
    rw[if_neg cL2] at h;replace cL2:=eqf cL2
    cases h
  rw[if_neg cL0] at h;replace cL0:=eqf cL0
  cases h
theorem kH (x1:Int) (x2:Int) (x3:Int) (aV:(List Int)) (y:((List Int))):∀(k:Nat),fI k x1 x2 x3 aV=some y→LT Tryz.prog (X110 x1 x2 x3) L110_4 (S110_4 aV) (O110_4 x1 x2 x3 aV y)
 | 0,h=>by cases h
 | k+1,h=>by
  rw[fI] at h
  by_cases cL0:inI 2 aV.length=true
  · rw[if_pos cL0] at h
    obtain⟨bU,eL1,h⟩:=bsm h
    by_cases cL2:inI 1 aV.length=true
    · rw[if_pos cL2] at h
      obtain⟨bR,eL3,h⟩:=bsm h
      let u3:List Ans:=[dt,dt,dt,dt,.row [(.int .u8 bU)],dt,dt,dt,dt,dt,.row [(.int .u8 bR)],dt,.call ⟨true,[]⟩ (.bool (gV bU bR)) [],dt]
      let w4:List Prf:=[⟨(rfl:ltI 0 2=true)⟩,⟨(tM bU bR)⟩,⟨(rfl:ltI 0 2=true)⟩,⟨(cL (e:=aN) eL3 1 0 1 (by decide))⟩,⟨(rfl:ltI 0 2=true)⟩,⟨cL2⟩,⟨(rfl:ltI 0 2=true)⟩,⟨(rfl:ltI 0 2=true)⟩,⟨(rfl:ltI 0 2=true)⟩,⟨(rfl:ltI 0 2=true)⟩,⟨(cL (e:=aN) eL1 1 0 1 (by decide))⟩,⟨(rfl:ltI 0 2=true)⟩,⟨cL0⟩,⟨(rfl:ltI 0 2=true)⟩,⟨(rfl:ltI 0 2=true)⟩,⟨(rfl:ltI 0 2=true)⟩]
      by_cases cL4:(gV bU bR)=true
      · rw[if_pos cL4] at h
        obtain⟨aNL,eL5,h⟩:=bsm h
        obtain⟨aBQ,eL6,h⟩:=bsm h
        obtain rfl:=osi h
        show LT _ _ _ _ (.st (.exit 2) (y9 aV aBQ))
        exact LT.next mixed (hs:=⟨[(0,[]),(1,[]),(2,[]),(6,[]),(7,[])],[],false,[],[]⟩) (es:=none) (u3++[dt,.row [(.int .u8 bR)],.row [(.int .u8 bU)],.rows (List.map aN (List.set aV 2 bR)),.rows (List.map aN (List.set (List.set aV 2 bR) 1 bU))]) ([⟨(uS (e:=aN) eL5 0 [(.int .u8 bU)] bU rfl)⟩,⟨cL2⟩,⟨(uS (e:=aN) eL1 0 [(.int .u8 bR)] bR rfl)⟩,⟨cL0⟩,⟨(cL (e:=aN) eL1 1 0 1 (by decide))⟩,⟨cL0⟩,⟨(cL (e:=aN) eL3 1 0 1 (by decide))⟩,⟨cL2⟩,⟨cL4⟩]++w4) (by kernel_rfl) (kG x1 x2 x3 aV bU bR _ k eL6)
      rw[if_neg cL4] at h;replace cL4:=eqf cL4
      obtain rfl:=osi h
      show LT _ _ _ _ (.st (.exit 2) (y9 aV aV))
      exact LT.done mixed (hs:=⟨[],[],false,[],[]⟩) (es:=(some ⟨[(0,[]),(1,[]),(2,[]),(6,[])],[],false,[],[]⟩)) (u3++[df]) ([⟨cL4⟩]++w4) (by kernel_rfl) (fun s h=>by cases h)
    rw[if_neg cL2] at h;replace cL2:=eqf cL2
    cases h
  rw[if_neg cL0] at h;replace cL0:=eqf cL0
  cases h
theorem kM (x1:Int) (x2:Int) (x3:Int) (aV:(List Int)) (y:((List Int))):∀(k:Nat),fO k x1 x2 x3 aV=some y→LT Tryz.prog (X110 x1 x2 x3) L110_3 (S110_3 aV) (O110_3 x1 x2 x3 aV y)
 | 0,h=>by cases h
 | k+1,h=>by
  rw[fO] at h
  obtain⟨eR,eL0,h⟩:=bsm h
  obtain⟨aNM,eL2,h⟩:=bsm h
  obtain rfl:=osi h
  show LT _ _ _ _ (.st (.exit 0) (aIL eR))
  exact LT.next mixed (hs:=⟨[(0,[]),(1,[]),(2,[]),(6,[])],[],false,[],[]⟩) (es:=none) [dt,A110_0,.out (.st .normal (y9 aV eR))] [⟨(LT.block (kH x1 x2 x3 aV _ k eL0))⟩,⟨(rfl:ltI 2 3=true)⟩] (by kernel_rfl) (kI x1 x2 x3 aV eR _ k eL2)
theorem kJ (x1:Int) (x2:Int) (x3:Int) (y:(Unit)):∀(k:Nat),fQ k x1 x2 x3=some y→LT Tryz.prog (X110 x1 x2 x3) L110_2 (S110_2 x1 x2 x3) (O110_2 x1 x2 x3 y)
 | 0,h=>by cases h
 | k+1,h=>by
  rw[fQ] at h
  obtain rfl:=osi h
  show LT _ _ _ _ (.st (.exit 2) (aJE x1 x2 x3))
  exact LT.done mixed (hs:=⟨[],[],false,[],[]⟩) (es:=(some ⟨[(0,[]),(1,[]),(2,[]),(6,[])],[],false,[],[]⟩)) [df,df,df,df,df,df,df,df,df,df,df,df] [⟨rF⟩,⟨(rfl:ltI 0 0=false)⟩,⟨(rfl:ltI 0 0=false)⟩,⟨(rfl:ltI 0 0=false)⟩,⟨(rfl:ltI 0 0=false)⟩,⟨(rfl:ltI 0 0=false)⟩,⟨(rfl:ltI 0 0=false)⟩,⟨(rfl:ltI 0 0=false)⟩,⟨(rfl:ltI 0 0=false)⟩,⟨(rfl:ltI 0 0=false)⟩,⟨(rfl:ltI 0 0=false)⟩,⟨(rfl:ltI 0 0=false)⟩] (by kernel_rfl) (fun s h=>by cases h)
theorem kL (x1:Int) (x2:Int) (x3:Int) (y:((List Int))):∀(k:Nat),fK k x1 x2 x3=some y→LT Tryz.prog (X110 x1 x2 x3) L110_1 (S110_1 x1 x2 x3) (O110_1 x1 x2 x3 y)
 | 0,h=>by cases h
 | k+1,h=>by
  rw[fK] at h
  let u5:List Ans:=[dt,dt,dt,dt,.row [(.int .u8 x2)],dt,dt,dt,dt,dt,.row [(.int .u8 x1)],dt,.call ⟨true,[]⟩ (.bool (gV x2 x1)) [],dt]
  let w6:List Prf:=[⟨(rfl:ltI 0 1=true)⟩,⟨(tM x2 x1)⟩,⟨(rfl:ltI 0 1=true)⟩,⟨(rfl:fR 1 (List.map aN [x1,x2,x3]) 0 0 1=some [(.int .u8 x1)])⟩,⟨(rfl:ltI 0 1=true)⟩,⟨(rfl:inI 0 3=true)⟩,⟨(rfl:ltI 0 1=true)⟩,⟨(rfl:ltI 0 1=true)⟩,⟨(rfl:ltI 0 1=true)⟩,⟨(rfl:ltI 0 1=true)⟩,⟨(rfl:fR 1 (List.map aN [x1,x2,x3]) 1 0 1=some [(.int .u8 x2)])⟩,⟨(rfl:ltI 0 1=true)⟩,⟨(rfl:inI 1 3=true)⟩,⟨(rfl:ltI 0 1=true)⟩,⟨(rfl:ltI 0 1=true)⟩,⟨(rfl:ltI 0 1=true)⟩]
  by_cases cL0:(gV x2 x1)=true
  · rw[if_pos cL0] at h
    obtain⟨aNN,eL1,h⟩:=bsm h
    obtain rfl:=osi h
    show LT _ _ _ _ (.st (.exit 2) (yQ [x2,x1,x3]))
    exact LT.next mixed (hs:=⟨[(0,[]),(1,[]),(2,[]),(6,[]),(7,[])],[],false,[],[]⟩) (es:=none) (u5++[dt,.row [(.int .u8 x1)],.row [(.int .u8 x2)],.rows (List.map aN [x1,x1,x3]),.rows (List.map aN [x2,x1,x3])]) ([⟨(rfl:oZ (List.map aN [x1,x1,x3]) 0 0 [(.int .u8 x2)]=some (List.map aN [x2,x1,x3]))⟩,⟨(rfl:inI 0 3=true)⟩,⟨(rfl:oZ (List.map aN [x1,x2,x3]) 1 0 [(.int .u8 x1)]=some (List.map aN [x1,x1,x3]))⟩,⟨(rfl:inI 1 3=true)⟩,⟨(rfl:fR 1 (List.map aN [x1,x2,x3]) 1 0 1=some [(.int .u8 x2)])⟩,⟨(rfl:inI 1 3=true)⟩,⟨(rfl:fR 1 (List.map aN [x1,x2,x3]) 0 0 1=some [(.int .u8 x1)])⟩,⟨(rfl:inI 0 3=true)⟩,⟨cL0⟩]++w6) (by kernel_rfl) (kJ x1 x2 x3 _ k eL1)
  rw[if_neg cL0] at h;replace cL0:=eqf cL0
  obtain rfl:=osi h
  show LT _ _ _ _ (.st (.exit 2) (yQ [x1,x2,x3]))
  exact LT.done mixed (hs:=⟨[],[],false,[],[]⟩) (es:=(some ⟨[(0,[]),(1,[]),(2,[]),(6,[])],[],false,[],[]⟩)) (u5++[df]) ([⟨cL0⟩]++w6) (by kernel_rfl) (fun s h=>by cases h)
theorem kF (x1:Int) (x2:Int) (x3:Int) (y:((List Int))):∀(k:Nat),fN k x1 x2 x3=some y→LT Tryz.prog (X110 x1 x2 x3) L110_0 (S110_0 x1 x2 x3) (O110_0 x1 x2 x3 y)
 | 0,h=>by cases h
 | k+1,h=>by
  rw[fN] at h
  obtain⟨aV,eL0,h⟩:=bsm h
  obtain⟨aBR,eL2,h⟩:=bsm h
  obtain rfl:=osi h
  show LT _ _ _ _ (.st (.exit 0) (aDH aBR))
  exact LT.next mixed (hs:=⟨[(0,[]),(1,[]),(2,[]),(6,[])],[],false,[],[]⟩) (es:=none) [dt,A110_0,.out (.st .normal (yQ aV))] [⟨(LT.block (kL x1 x2 x3 _ k eL0))⟩,⟨(rfl:ltI 1 3=true)⟩] (by kernel_rfl) (kM x1 x2 x3 aV _ k eL2)
theorem mZ (k:Nat) (x1:Int) (x2:Int) (x3:Int) (r:(List Int)) (h:eZ k x1 x2 x3=some r):Tri Tryz.prog 110 [(.ref 1 0 0 0 3 .virt),(.int .i64 0),(.int .i64 3)] [(.arr 1 (List.map aN [x1,x2,x3]) 0 0 false)] (.tup []) [(.arr 1 (List.map aN r) 0 0 false)]:=by
 unfold eZ at h
 obtain⟨x5,e0,h⟩:=bsm h
 obtain rfl:=osi h
 exact Tri.of (x:=(X110 x1 x2 x3)) mixed facts110 [.norm 2 ⟨[(0,[]),(1,[]),(2,[]),(6,[])],[],false,[],[]⟩,.out (.st .normal (aDH x5)),.norm 0 ⟨[],[],false,[],[]⟩] [⟨(LT.block (kF x1 x2 x3 _ k e0))⟩] (by kernel_rfl)
end Go.Ws

namespace Go.Ws
open Go.Proofs
set_option linter.unusedSimpArgs false
set_option linter.unusedVariables false
set_option maxRecDepth 1000000
set_option maxHeartbeats 4000000
noncomputable def X80 (x2:Int) (x3:Int) (x4:Int):Ctx:=⟨Tryz.f80,[(.arr 1 (List.map aN [x2,x3,x4]) 0 0 false)],false⟩
noncomputable def L80_0:Code:=at_ Tryz.f80 [1,1,4,5]
def S80_0 (x1:Int) (x2:Int) (x3:Int) (x4:Int):St:=⟨mkT 134 [(0,(.ref 1 0 0 0 3 .virt)),(1,(.int .i64 0)),(2,(.int .i64 3)),(3,(.int .i64 x1)),(8,(.bool true)),(9,(.bool true))],[(.arr 1 (List.map aN [x2,x3,x4]) 0 0 false)]⟩
def O80_0 (x1:Int) (x2:Int) (x3:Int) (x4:Int) (y:((List Int))):GX:=.fin (.tup []) [(.arr 1 (List.map aN y) 0 0 false)]
theorem oR (x1:Int) (x2:Int) (x3:Int) (x4:Int) (y:((List Int))):∀(k:Nat),gN k x1 x2 x3 x4=some y→LT Tryz.prog (X80 x2 x3 x4) L80_0 (S80_0 x1 x2 x3 x4) (O80_0 x1 x2 x3 x4 y)
 | 0,h=>by cases h
 | k+1,h=>by
  rw[gN] at h
  obtain⟨aAQ,eL0,h⟩:=bsm h
  obtain rfl:=osi h
  show LT _ _ _ _ (.fin (.tup []) [(.arr 1 (List.map aN aAQ) 0 0 false)])
  exact LT.done mixed (hs:=⟨[],[],false,[],[]⟩) (es:=none) [dt,.call ⟨false,[]⟩ (.tup []) [(.arr 1 (List.map aN aAQ) 0 0 false)],.norm 0 ⟨[],[],false,[],[]⟩] [⟨(mZ k x2 x3 x4 _ eL0)⟩,⟨(nT (rfl:ltI 12 3=false))⟩] (by kernel_rfl) (fun s h=>by cases h)
theorem qM (k:Nat) (x1:Int) (x2:Int) (x3:Int) (x4:Int) (r:(List Int)) (h:gA k x1 x2 x3 x4=some r):Tri Tryz.prog 80 [(.ref 1 0 0 0 3 .virt),(.int .i64 0),(.int .i64 3),(.int .i64 x1)] [(.arr 1 (List.map aN [x2,x3,x4]) 0 0 false)] (.tup []) [(.arr 1 (List.map aN r) 0 0 false)]:=by
 unfold gA at h
 obtain⟨x6,e0,h⟩:=bsm h
 obtain rfl:=osi h
 exact Tri.of (x:=(X80 x2 x3 x4)) mixed facts80 [.norm 2 ⟨[(0,[]),(1,[]),(2,[]),(3,[]),(8,[]),(9,[])],[],false,[],[]⟩,.out (.fin (.tup []) [(.arr 1 (List.map aN x6) 0 0 false)])] [⟨(LT.blockFin (id:=0) (oR x1 x2 x3 x4 _ k e0))⟩] (by kernel_rfl)
end Go.Ws

namespace Go.Ws
open Go.Proofs
set_option linter.unusedSimpArgs false
set_option linter.unusedVariables false
set_option maxRecDepth 1000000
set_option maxHeartbeats 4000000
noncomputable def X67 (x1:Int) (x2:Int) (x3:Int):Ctx:=⟨Tryz.f67,[(.arr 1 (List.map aN [x1,x2,x3]) 0 0 false)],false⟩
theorem aD1 (k:Nat) (x1:Int) (x2:Int) (x3:Int) (r:(List Int)) (h:pW k x1 x2 x3=some r):Tri Tryz.prog 67 [(.ref 1 0 0 0 3 .virt)] [(.arr 1 (List.map aN [x1,x2,x3]) 0 0 false)] (.tup []) [(.arr 1 (List.map aN r) 0 0 false)]:=by
 unfold pW at h
 obtain⟨x4,e0,h⟩:=bsm h
 obtain rfl:=osi h
 exact Tri.of (x:=(X67 x1 x2 x3)) mixed facts67 [.call ⟨true,[]⟩ (.int .i64 pI) [],.call ⟨false,[]⟩ (.tup []) [(.arr 1 (List.map aN x4) 0 0 false)],.norm 0 ⟨[],[],false,[],[]⟩] [⟨(qM k pI x1 x2 x3 _ e0)⟩,⟨(aIR)⟩] (by kernel_rfl)
end Go.Ws

namespace Go.Ws
open Go.Proofs
set_option linter.unusedSimpArgs false
set_option linter.unusedVariables false
set_option maxRecDepth 1000000
set_option maxHeartbeats 4000000
noncomputable def X40 (x1:Ty0) (x2:Ty0):Ctx:=⟨Tryz.f40,[(.row [(.int .i64 8),(.mp 1),(.mp 2)]),(.map (aZ .u8 (fun y=>AV.agg (aB y)) x1) x1.length),(.map (aZ .u8 (fun y=>AV.agg (aB y)) x2) x2.length)],false⟩
theorem gF (x1:Ty0) (x2:Ty0):Tri Tryz.prog 40 [(.hp 0 0)] [(.row [(.int .i64 8),(.mp 1),(.mp 2)]),(.map (aZ .u8 (fun y=>AV.agg (aB y)) x1) x1.length),(.map (aZ .u8 (fun y=>AV.agg (aB y)) x2) x2.length)] (.bool (ltI 0 8)) [(.row [(.int .i64 8),(.mp 1),(.mp 2)]),(.map (aZ .u8 (fun y=>AV.agg (aB y)) x1) x1.length),(.map (aZ .u8 (fun y=>AV.agg (aB y)) x2) x2.length)]:=by
 obtain⟨r,h⟩:∃r,pC x1 x2=r:=⟨_,rfl⟩
 try rw[h]
 unfold pC at h
 obtain rfl:=h
 exact Tri.of (x:=(X40 x1 x2)) mixed aLL [dt,dt,dt,dt,dt,dt,.norm 0 ⟨[(2,[])],[],false,[],[]⟩] [⟨(nT rfl)⟩,⟨(nT rfl)⟩,⟨(nT rfl)⟩,⟨(nT rfl)⟩,⟨(nT rfl)⟩,⟨(nT rfl)⟩] (by kernel_rfl)
end Go.Ws

namespace Go.Ws
open Go.Proofs
set_option linter.unusedSimpArgs false
set_option linter.unusedVariables false
set_option maxRecDepth 1000000
set_option maxHeartbeats 4000000
theorem qP (x1:Ty0):Tri Tryz.prog 41 [.mp 0] [(.map (aZ .u8 (fun y=>AV.agg (aB y)) x1) x1.length)] (.mp 1) [(.map (aZ .u8 (fun y=>AV.agg (aB y)) x1) x1.length),(.map (aZ .u8 (fun y=>AV.agg (aB y)) x1) x1.length)]:=aKN _ _ (aMO .u8 (fun y=>AV.agg (aB y)) (fun y=>by simp [AV.refs,AV.refsL,aB]))
end Go.Ws

namespace Go.Ws
open Go.Proofs
set_option linter.unusedSimpArgs false
set_option linter.unusedVariables false
set_option maxRecDepth 1000000
set_option maxHeartbeats 4000000
noncomputable def X25 (x1:Ty0) (x2:Ty0):Ctx:=⟨Tryz.f25,[(.row [(.int .i64 8),(.mp 1),(.mp 2)]),(.map (aZ .u8 (fun y=>AV.agg (aB y)) x1) x1.length),(.map (aZ .u8 (fun y=>AV.agg (aB y)) x2) x2.length)],false⟩
theorem cI (x1:Ty0) (x2:Ty0):Tri Tryz.prog 25 [(.hp 0 0)] [(.row [(.int .i64 8),(.mp 1),(.mp 2)]),(.map (aZ .u8 (fun y=>AV.agg (aB y)) x1) x1.length),(.map (aZ .u8 (fun y=>AV.agg (aB y)) x2) x2.length)] (.fn 46 [(.hp 3 0)]) [(.row [(.int .i64 8),(.mp 1),(.mp 2)]),(.map (aZ .u8 (fun y=>AV.agg (aB y)) x1) x1.length),(.map (aZ .u8 (fun y=>AV.agg (aB y)) x2) x2.length),(.row [(.mp 4)]),(.map (aZ .u8 (fun y=>AV.agg (aB y)) x1) x1.length)]:=by
 obtain⟨r,h⟩:∃r,tD x1 x2=r:=⟨_,rfl⟩
 try rw[h]
 unfold tD at h
 obtain rfl:=h
 exact Tri.of (x:=(X25 x1 x2)) mixed facts25 [.call ⟨true,[]⟩ (.bool (ltI 0 8)) [(.row [(.int .i64 8),(.mp 1),(.mp 2)]),(.map (aZ .u8 (fun y=>AV.agg (aB y)) x1) x1.length),(.map (aZ .u8 (fun y=>AV.agg (aB y)) x2) x2.length)],dt,.call ⟨false,[]⟩ (.mp 1) [(.map (aZ .u8 (fun y=>AV.agg (aB y)) x1) x1.length),(.map (aZ .u8 (fun y=>AV.agg (aB y)) x1) x1.length)],.norm 0 ⟨[(2,[])],[⟨.tcell 2 0,[],none⟩,⟨.cell 3 0,[],none⟩],false,[],[]⟩] [⟨(qP x1)⟩,⟨(rfl:ltI 0 8=true)⟩,⟨(gF x1 x2)⟩] (by kernel_rfl)
end Go.Ws

namespace Go.Ws
open Go.Proofs
set_option linter.unusedSimpArgs false
set_option linter.unusedVariables false
set_option maxRecDepth 1000000
set_option maxHeartbeats 4000000
noncomputable def X69:Ctx:=⟨Tryz.f69,[],true⟩
theorem pJ (x1:Int):Tri Tryz.prog 69 [(.int .i64 x1)] [] (.bool (cO x1)) []:=by
 obtain⟨r,h⟩:∃r,cO x1=r:=⟨_,rfl⟩
 try rw[h]
 unfold cO at h
 by_cases c0:ltI x1 1=true
 · rw[if_pos c0] at h
   obtain rfl:=h
   exact Tri.of (x:=X69) mixed aLG [df,df,df] [⟨(nF c0)⟩,⟨(nF c0)⟩,⟨(nF c0)⟩] (by kernel_rfl)
 rw[if_neg c0] at h;replace c0:=eqf c0
 obtain rfl:=h
 exact Tri.of (x:=X69) mixed aLG [dt,dt,dt] [⟨(nT c0)⟩,⟨(nT c0)⟩,⟨(nT c0)⟩] (by kernel_rfl)
end Go.Ws

namespace Go.Ws
open Go.Proofs
set_option linter.unusedSimpArgs false
set_option linter.unusedVariables false
set_option maxRecDepth 1000000
set_option maxHeartbeats 4000000
noncomputable def X50:Ctx:=⟨Tryz.f50,[],true⟩
theorem eT (x1:Int) (x2:Int) (x3:Int):Tri Tryz.prog 50 [(.agg [(.int .i64 x1),(.int .i64 x2),(.int .u8 x3)])] [] (.bool (bN x1 x2 x3)) []:=by
 obtain⟨r,h⟩:∃r,bN x1 x2 x3=r:=⟨_,rfl⟩
 try rw[h]
 unfold bN at h
 by_cases c0:eqI x2 0=true
 · rw[if_pos c0] at h
   obtain rfl:=h
   exact Tri.of (x:=X50) mixed uL [dt] [⟨c0⟩] (by kernel_rfl)
 rw[if_neg c0] at h;replace c0:=eqf c0
 by_cases c1:eqI x2 1=true
 · rw[if_pos c1] at h
   let w4:List Prf:=[⟨(pJ x1)⟩,⟨c1⟩,⟨c0⟩]
   by_cases c2:(cO x1)=true
   · rw[if_pos c2] at h
     obtain rfl:=h
     exact Tri.of (x:=X50) mixed uL [df,dt,.call ⟨true,[]⟩ (.bool (cO x1)) [],dt,dt,dt,dt] ([⟨c2⟩,⟨c2⟩,⟨c2⟩,⟨c2⟩]++w4) (by kernel_rfl)
   rw[if_neg c2] at h;replace c2:=eqf c2
   obtain rfl:=h
   exact Tri.of (x:=X50) mixed uL [df,dt,.call ⟨true,[]⟩ (.bool (cO x1)) [],df,df,df,df] ([⟨c2⟩,⟨c2⟩,⟨c2⟩,⟨c2⟩]++w4) (by kernel_rfl)
 rw[if_neg c1] at h;replace c1:=eqf c1
 by_cases c2:eqI x2 2=true
 · rw[if_pos c2] at h
   let u7:List Ans:=[df,df,dt,.call ⟨true,[]⟩ (.bool (cO x1)) []]
   let w8:List Prf:=[⟨(pJ x1)⟩,⟨c2⟩,⟨c1⟩,⟨c0⟩]
   by_cases c3:(cO x1)=true
   · rw[if_pos c3] at h
     obtain rfl:=h
     exact Tri.of (x:=X50) mixed uL (u7++[dt,dt,dt,dt]) ([⟨c3⟩,⟨c3⟩,⟨c3⟩,⟨c3⟩]++w8) (by kernel_rfl)
   rw[if_neg c3] at h;replace c3:=eqf c3
   obtain rfl:=h
   exact Tri.of (x:=X50) mixed uL (u7++[df,df,df,df]) ([⟨c3⟩,⟨c3⟩,⟨c3⟩,⟨c3⟩]++w8) (by kernel_rfl)
 rw[if_neg c2] at h;replace c2:=eqf c2
 obtain rfl:=h
 exact Tri.of (x:=X50) mixed uL [df,df,df] [⟨c2⟩,⟨c1⟩,⟨c0⟩] (by kernel_rfl)
end Go.Ws

namespace Go.Ws
open Go.Proofs
set_option linter.unusedSimpArgs false
set_option linter.unusedVariables false
set_option maxRecDepth 1000000
set_option maxHeartbeats 4000000
theorem aB9:Tri Tryz.prog 77 [(.str (ByteArray.mk #[97,99,97])),(.str (ByteArray.mk #[97,98,99,100,116]))] [] (.str (ByteArray.mk #[])) []:=aGY
end Go.Ws

namespace Go.Ws
open Go.Proofs
set_option linter.unusedSimpArgs false
set_option linter.unusedVariables false
set_option maxRecDepth 1000000
set_option maxHeartbeats 4000000
noncomputable def X53:Ctx:=⟨Tryz.f53,[],false⟩
theorem tV:Tri Tryz.prog 53 [(.str (ByteArray.mk #[97,99,97]))] [] (.bool (eqS (ByteArray.mk #[]) (ByteArray.mk #[]))) []:=by
 obtain⟨r,h⟩:∃r,tH=r:=⟨_,rfl⟩
 try rw[h]
 unfold tH at h
 obtain rfl:=h
 exact Tri.of (x:=X53) mixed aLM [dt,dt,.call ⟨true,[]⟩ (.str (ByteArray.mk #[])) [],dt,dt,.norm 0 ⟨[(2,[])],[],false,[],[]⟩] [⟨(nT (rfl:ltI 100 3=false))⟩,⟨(nT (rfl:ltI 100 3=false))⟩,⟨(aB9)⟩,⟨(nT (rfl:ltI 100 3=false))⟩,⟨(nT (rfl:ltI 100 3=false))⟩] (by kernel_rfl)
end Go.Ws

namespace Go.Ws
open Go.Proofs
set_option linter.unusedSimpArgs false
set_option linter.unusedVariables false
set_option maxRecDepth 1000000
set_option maxHeartbeats 4000000
noncomputable def X54:Ctx:=⟨Tryz.f54,[],false⟩
theorem fY:Tri Tryz.prog 54 [(.int .u8 97)] [] (.int .i64 1) []:=by
 obtain⟨r,h⟩:∃r,yD=r:=⟨_,rfl⟩
 try rw[h]
 unfold yD at h
 obtain rfl:=h
 exact Tri.of (x:=X54) mixed aCJ [df,.norm 0 ⟨[(2,[])],[],false,[],[]⟩] [⟨(rfl:eqI 97 116=false)⟩] (by kernel_rfl)
end Go.Ws

namespace Go.Ws
open Go.Proofs
set_option linter.unusedSimpArgs false
set_option linter.unusedVariables false
set_option maxRecDepth 1000000
set_option maxHeartbeats 4000000
noncomputable def X55:Ctx:=⟨Tryz.f55,[],false⟩
noncomputable def L55_1:Code:=at_ Tryz.f55 [1,0,1,4,5]
def S55_1 (x1:Int):St:=⟨mkT 23 [(0,(.ref 1 0 0 0 1 .virt)),(1,(.int .u64 x1)),(7,(.int .i64 (-8)))],[(.arr 1 (List.map aN [conv .u8 (aE .u64 x1 0)]) 0 0 false)]⟩
def aME (x1:Int):St:=⟨mkT 23 [(0,(.ref 1 0 0 0 1 .virt))],[(.arr 1 (List.map aN [conv .u8 (aE .u64 x1 0)]) 0 0 false)]⟩
def O55_1 (x1:Int) (y:(Unit)):GX:=.st (.exit 0) (aME x1)
noncomputable def L55_0:Code:=at_ Tryz.f55 [1,0,1,4,5]
def S55_0 (x1:Int):St:=⟨mkT 23 [(0,.nils),(1,(.int .u64 x1)),(7,(.int .i64 0))],[]⟩
def aGS (x1:Int):St:=⟨mkT 23 [(0,(.ref 1 0 0 0 1 .virt))],[(.arr 1 (List.map aN [conv .u8 (aE .u64 x1 0)]) 0 0 false)]⟩
def O55_0 (x1:Int) (y:(Unit)):GX:=.st (.exit 0) (aGS x1)
theorem aAA (x1:Int) (y:(Unit)):∀(k:Nat),dM k x1=some y→LT Tryz.prog X55 L55_1 (S55_1 x1) (O55_1 x1 y)
 | 0,h=>by cases h
 | k+1,h=>by
  rw[dM] at h
  obtain rfl:=osi h
  show LT _ _ _ _ (.st (.exit 0) (aME x1))
  exact LT.done mixed (hs:=⟨[],[],false,[],[]⟩) (es:=(some ⟨[(0,[])],[⟨.tmp 0,[],none⟩],false,[],[]⟩)) [df] [⟨(nF (rfl:ltI (-8) 0=true))⟩] (by kernel_rfl) (fun s h=>by cases h)
theorem aAM (x1:Int) (y:(Unit)):∀(k:Nat),dL k x1=some y→LT Tryz.prog X55 L55_0 (S55_0 x1) (O55_0 x1 y)
 | 0,h=>by cases h
 | k+1,h=>by
  rw[dL] at h
  obtain⟨aJO,eL0,h⟩:=bsm h
  obtain rfl:=osi h
  show LT _ _ _ _ (.st (.exit 0) (aGS x1))
  exact LT.next mixed (hs:=⟨[(0,[]),(1,[]),(7,[])],[⟨.tmp 0,[],none⟩],false,[],[]⟩) (es:=none) [dt,.rows (List.map aN [conv .u8 (aE .u64 x1 0)]),.n 1] [⟨(rfl:bV (1*1)=true)⟩,⟨(rfl:(List.map aN [conv .u8 (aE .u64 x1 0)]).length=1)⟩,⟨(bS aN (l:=[conv .u8 (aE .u64 x1 0)]) (n:=1) rfl)⟩,⟨(b9 aN (Nat.le_refl 1):0+1≤(List.map aN [conv .u8 (aE .u64 x1 0)]).length)⟩,⟨(nT (rfl:ltI 0 0=false))⟩] (by kernel_rfl) (aAA x1 _ k eL0)
theorem s6 (k:Nat) (x1:Int) (r:Unit) (h:i5 k x1=some r):Tri Tryz.prog 55 [.nils,(.int .u64 x1),(.int .i64 1)] [] (.ref 1 0 0 0 1 .virt) [(.arr 1 (List.map aN [conv .u8 (aE .u64 x1 0)]) 0 0 false)]:=by
 unfold i5 at h
 obtain⟨x3,e0,h⟩:=bsm h
 obtain rfl:=osi h
 exact Tri.of (x:=X55) mixed yU [.norm 2 ⟨[(0,[]),(1,[]),(7,[])],[],false,[],[]⟩,.out (.st .normal (aGS x1)),.norm 0 ⟨[(6,[])],[⟨.tmp 6,[],none⟩],false,[],[]⟩] [⟨(LT.block (aAM x1 _ k e0))⟩] (by kernel_rfl)
end Go.Ws

namespace Go.Ws
open Go.Proofs
set_option linter.unusedSimpArgs false
set_option linter.unusedVariables false
set_option maxRecDepth 1000000
set_option maxHeartbeats 4000000
noncomputable def X54_1:Ctx:=⟨Tryz.f54,[],false⟩
theorem sD:Tri Tryz.prog 54 [(.int .u8 99)] [] (.int .i64 4) []:=by
 obtain⟨r,h⟩:∃r,rP=r:=⟨_,rfl⟩
 try rw[h]
 unfold rP at h
 obtain rfl:=h
 exact Tri.of (x:=X54_1) mixed aCJ [df,.norm 0 ⟨[(2,[])],[],false,[],[]⟩] [⟨(rfl:eqI 99 116=false)⟩] (by kernel_rfl)
end Go.Ws

namespace Go.Ws
open Go.Proofs
set_option linter.unusedSimpArgs false
set_option linter.unusedVariables false
set_option maxRecDepth 1000000
set_option maxHeartbeats 4000000
noncomputable def aFA (x2:List Int):Ctx:=⟨Tryz.f55,[(.arr 1 (List.map aN x2) 0 0 false)],false⟩
noncomputable def L55_1_4:Code:=at_ Tryz.f55 [1,0,1,4,5]
def S55_1_4 (x1:Int) (x2:List Int):St:=⟨mkT 23 [(0,(.ref 1 0 4 0 (((((x2++[conv .u8 (aE .u64 x1 24)])++[conv .u8 (aE .u64 x1 16)])++[conv .u8 (aE .u64 x1 8)])++[conv .u8 (aE .u64 x1 0)]).length) .virt)),(1,(.int .u64 x1)),(7,(.int .i64 (-8)))],[(.arr 1 (List.map aN ((((x2++[conv .u8 (aE .u64 x1 24)])++[conv .u8 (aE .u64 x1 16)])++[conv .u8 (aE .u64 x1 8)])++[conv .u8 (aE .u64 x1 0)])) 4 0 false)]⟩
def aE3 (x1:Int) (x2:List Int):St:=⟨mkT 23 [(0,(.ref 1 0 4 0 (((((x2++[conv .u8 (aE .u64 x1 24)])++[conv .u8 (aE .u64 x1 16)])++[conv .u8 (aE .u64 x1 8)])++[conv .u8 (aE .u64 x1 0)]).length) .virt))],[(.arr 1 (List.map aN ((((x2++[conv .u8 (aE .u64 x1 24)])++[conv .u8 (aE .u64 x1 16)])++[conv .u8 (aE .u64 x1 8)])++[conv .u8 (aE .u64 x1 0)])) 4 0 false)]⟩
def O55_1_4 (x1:Int) (x2:List Int) (y:(Unit)):GX:=.st (.exit 0) (aE3 x1 x2)
noncomputable def L55_1_3:Code:=at_ Tryz.f55 [1,0,1,4,5]
def S55_1_3 (x1:Int) (x2:List Int):St:=⟨mkT 23 [(0,(.ref 1 0 3 0 ((((x2++[conv .u8 (aE .u64 x1 24)])++[conv .u8 (aE .u64 x1 16)])++[conv .u8 (aE .u64 x1 8)]).length) .virt)),(1,(.int .u64 x1)),(7,(.int .i64 0))],[(.arr 1 (List.map aN (((x2++[conv .u8 (aE .u64 x1 24)])++[conv .u8 (aE .u64 x1 16)])++[conv .u8 (aE .u64 x1 8)])) 3 0 false)]⟩
def aET (x1:Int) (x2:List Int):St:=⟨mkT 23 [(0,(.ref 1 0 4 0 (((((x2++[conv .u8 (aE .u64 x1 24)])++[conv .u8 (aE .u64 x1 16)])++[conv .u8 (aE .u64 x1 8)])++[conv .u8 (aE .u64 x1 0)]).length) .virt))],[(.arr 1 (List.map aN ((((x2++[conv .u8 (aE .u64 x1 24)])++[conv .u8 (aE .u64 x1 16)])++[conv .u8 (aE .u64 x1 8)])++[conv .u8 (aE .u64 x1 0)])) 4 0 false)]⟩
def O55_1_3 (x1:Int) (x2:List Int) (y:(Unit)):GX:=.st (.exit 0) (aET x1 x2)
noncomputable def L55_1_2:Code:=at_ Tryz.f55 [1,0,1,4,5]
def S55_1_2 (x1:Int) (x2:List Int):St:=⟨mkT 23 [(0,(.ref 1 0 2 0 (((x2++[conv .u8 (aE .u64 x1 24)])++[conv .u8 (aE .u64 x1 16)]).length) .virt)),(1,(.int .u64 x1)),(7,(.int .i64 8))],[(.arr 1 (List.map aN ((x2++[conv .u8 (aE .u64 x1 24)])++[conv .u8 (aE .u64 x1 16)])) 2 0 false)]⟩
def aFX (x1:Int) (x2:List Int):St:=⟨mkT 23 [(0,(.ref 1 0 4 0 (((((x2++[conv .u8 (aE .u64 x1 24)])++[conv .u8 (aE .u64 x1 16)])++[conv .u8 (aE .u64 x1 8)])++[conv .u8 (aE .u64 x1 0)]).length) .virt))],[(.arr 1 (List.map aN ((((x2++[conv .u8 (aE .u64 x1 24)])++[conv .u8 (aE .u64 x1 16)])++[conv .u8 (aE .u64 x1 8)])++[conv .u8 (aE .u64 x1 0)])) 4 0 false)]⟩
def O55_1_2 (x1:Int) (x2:List Int) (y:(Unit)):GX:=.st (.exit 0) (aFX x1 x2)
noncomputable def L55_1_1:Code:=at_ Tryz.f55 [1,0,1,4,5]
def S55_1_1 (x1:Int) (x2:List Int):St:=⟨mkT 23 [(0,(.ref 1 0 1 0 ((x2++[conv .u8 (aE .u64 x1 24)]).length) .virt)),(1,(.int .u64 x1)),(7,(.int .i64 16))],[(.arr 1 (List.map aN (x2++[conv .u8 (aE .u64 x1 24)])) 1 0 false)]⟩
def aFS (x1:Int) (x2:List Int):St:=⟨mkT 23 [(0,(.ref 1 0 4 0 (((((x2++[conv .u8 (aE .u64 x1 24)])++[conv .u8 (aE .u64 x1 16)])++[conv .u8 (aE .u64 x1 8)])++[conv .u8 (aE .u64 x1 0)]).length) .virt))],[(.arr 1 (List.map aN ((((x2++[conv .u8 (aE .u64 x1 24)])++[conv .u8 (aE .u64 x1 16)])++[conv .u8 (aE .u64 x1 8)])++[conv .u8 (aE .u64 x1 0)])) 4 0 false)]⟩
def O55_1_1 (x1:Int) (x2:List Int) (y:(Unit)):GX:=.st (.exit 0) (aFS x1 x2)
noncomputable def L55_1_0:Code:=at_ Tryz.f55 [1,0,1,4,5]
def S55_1_0 (x1:Int) (x2:List Int):St:=⟨mkT 23 [(0,(.ref 1 0 0 0 x2.length .virt)),(1,(.int .u64 x1)),(7,(.int .i64 24))],[(.arr 1 (List.map aN x2) 0 0 false)]⟩
def aBC (x1:Int) (x2:List Int):St:=⟨mkT 23 [(0,(.ref 1 0 4 0 (((((x2++[conv .u8 (aE .u64 x1 24)])++[conv .u8 (aE .u64 x1 16)])++[conv .u8 (aE .u64 x1 8)])++[conv .u8 (aE .u64 x1 0)]).length) .virt))],[(.arr 1 (List.map aN ((((x2++[conv .u8 (aE .u64 x1 24)])++[conv .u8 (aE .u64 x1 16)])++[conv .u8 (aE .u64 x1 8)])++[conv .u8 (aE .u64 x1 0)])) 4 0 false)]⟩
def O55_1_0 (x1:Int) (x2:List Int) (y:(Unit)):GX:=.st (.exit 0) (aBC x1 x2)
theorem wZ (x1:Int) (x2:List Int) (y:(Unit)):∀(k:Nat),cW k x1 x2=some y→LT Tryz.prog (aFA x2) L55_1_4 (S55_1_4 x1 x2) (O55_1_4 x1 x2 y)
 | 0,h=>by cases h
 | k+1,h=>by
  rw[cW] at h
  obtain rfl:=osi h
  show LT _ _ _ _ (.st (.exit 0) (aE3 x1 x2))
  exact LT.done mixed (hs:=⟨[],[],false,[],[]⟩) (es:=(some ⟨[(0,[])],[],false,[],[]⟩)) [df] [⟨(nF (rfl:ltI (-8) 0=true))⟩] (by kernel_rfl) (fun s h=>by cases h)
theorem wD (x1:Int) (x2:List Int) (y:(Unit)):∀(k:Nat),cU k x1 x2=some y→LT Tryz.prog (aFA x2) L55_1_3 (S55_1_3 x1 x2) (O55_1_3 x1 x2 y)
 | 0,h=>by cases h
 | k+1,h=>by
  rw[cU] at h
  by_cases cL0:bV ((((((x2++[conv .u8 (aE .u64 x1 24)])++[conv .u8 (aE .u64 x1 16)])++[conv .u8 (aE .u64 x1 8)])++[conv .u8 (aE .u64 x1 0)]).length)*1)=true
  · rw[if_pos cL0] at h
    obtain⟨aGG,eL1,h⟩:=bsm h
    obtain rfl:=osi h
    show LT _ _ _ _ (.st (.exit 0) (aET x1 x2))
    exact LT.next mixed (hs:=⟨[(0,[]),(1,[]),(7,[])],[],false,[],[]⟩) (es:=none) [dt,.rows (List.map aN [conv .u8 (aE .u64 x1 0)]),.n (((((x2++[conv .u8 (aE .u64 x1 24)])++[conv .u8 (aE .u64 x1 16)])++[conv .u8 (aE .u64 x1 8)])++[conv .u8 (aE .u64 x1 0)]).length),.n ((((x2++[conv .u8 (aE .u64 x1 24)])++[conv .u8 (aE .u64 x1 16)])++[conv .u8 (aE .u64 x1 8)]).length),dt,.rows (List.map aN ((((x2++[conv .u8 (aE .u64 x1 24)])++[conv .u8 (aE .u64 x1 16)])++[conv .u8 (aE .u64 x1 8)])++[conv .u8 (aE .u64 x1 0)]))] [⟨(dF aN (((x2++[conv .u8 (aE .u64 x1 24)])++[conv .u8 (aE .u64 x1 16)])++[conv .u8 (aE .u64 x1 8)]) [conv .u8 (aE .u64 x1 0)])⟩,⟨(cX ((((x2++[conv .u8 (aE .u64 x1 24)])++[conv .u8 (aE .u64 x1 16)])++[conv .u8 (aE .u64 x1 8)]).length))⟩,⟨(bK aN (((x2++[conv .u8 (aE .u64 x1 24)])++[conv .u8 (aE .u64 x1 16)])++[conv .u8 (aE .u64 x1 8)]))⟩,⟨cL0⟩,⟨(by simp only[wl,List.length_map,List.map_nil,List.map_cons]<;>omega:((((x2++[conv .u8 (aE .u64 x1 24)])++[conv .u8 (aE .u64 x1 16)])++[conv .u8 (aE .u64 x1 8)]).length)+(List.map aN [conv .u8 (aE .u64 x1 0)]).length=((((x2++[conv .u8 (aE .u64 x1 24)])++[conv .u8 (aE .u64 x1 16)])++[conv .u8 (aE .u64 x1 8)])++[conv .u8 (aE .u64 x1 0)]).length)⟩,⟨(bS aN (l:=[conv .u8 (aE .u64 x1 0)]) (n:=1) rfl)⟩,⟨(b9 aN (Nat.le_refl 1):0+1≤(List.map aN [conv .u8 (aE .u64 x1 0)]).length)⟩,⟨(nT (rfl:ltI 0 0=false))⟩] (by kernel_rfl) (wZ x1 x2 _ k eL1)
  rw[if_neg cL0] at h;replace cL0:=eqf cL0
  cases h
theorem vV (x1:Int) (x2:List Int) (y:(Unit)):∀(k:Nat),cQ k x1 x2=some y→LT Tryz.prog (aFA x2) L55_1_2 (S55_1_2 x1 x2) (O55_1_2 x1 x2 y)
 | 0,h=>by cases h
 | k+1,h=>by
  rw[cQ] at h
  by_cases cL0:bV (((((x2++[conv .u8 (aE .u64 x1 24)])++[conv .u8 (aE .u64 x1 16)])++[conv .u8 (aE .u64 x1 8)]).length)*1)=true
  · rw[if_pos cL0] at h
    obtain⟨aGH,eL1,h⟩:=bsm h
    obtain rfl:=osi h
    show LT _ _ _ _ (.st (.exit 0) (aFX x1 x2))
    exact LT.next mixed (hs:=⟨[(0,[]),(1,[]),(7,[])],[],false,[],[]⟩) (es:=none) [dt,.rows (List.map aN [conv .u8 (aE .u64 x1 8)]),.n ((((x2++[conv .u8 (aE .u64 x1 24)])++[conv .u8 (aE .u64 x1 16)])++[conv .u8 (aE .u64 x1 8)]).length),.n (((x2++[conv .u8 (aE .u64 x1 24)])++[conv .u8 (aE .u64 x1 16)]).length),dt,.rows (List.map aN (((x2++[conv .u8 (aE .u64 x1 24)])++[conv .u8 (aE .u64 x1 16)])++[conv .u8 (aE .u64 x1 8)]))] [⟨(dF aN ((x2++[conv .u8 (aE .u64 x1 24)])++[conv .u8 (aE .u64 x1 16)]) [conv .u8 (aE .u64 x1 8)])⟩,⟨(cX (((x2++[conv .u8 (aE .u64 x1 24)])++[conv .u8 (aE .u64 x1 16)]).length))⟩,⟨(bK aN ((x2++[conv .u8 (aE .u64 x1 24)])++[conv .u8 (aE .u64 x1 16)]))⟩,⟨cL0⟩,⟨(by simp only[wl,List.length_map,List.map_nil,List.map_cons]<;>omega:(((x2++[conv .u8 (aE .u64 x1 24)])++[conv .u8 (aE .u64 x1 16)]).length)+(List.map aN [conv .u8 (aE .u64 x1 8)]).length=(((x2++[conv .u8 (aE .u64 x1 24)])++[conv .u8 (aE .u64 x1 16)])++[conv .u8 (aE .u64 x1 8)]).length)⟩,⟨(bS aN (l:=[conv .u8 (aE .u64 x1 8)]) (n:=1) rfl)⟩,⟨(b9 aN (Nat.le_refl 1):0+1≤(List.map aN [conv .u8 (aE .u64 x1 8)]).length)⟩,⟨(nT (rfl:ltI 8 0=false))⟩] (by kernel_rfl) (wD x1 x2 _ k eL1)
  rw[if_neg cL0] at h;replace cL0:=eqf cL0
  cases h
theorem wO (x1:Int) (x2:List Int) (y:(Unit)):∀(k:Nat),cP k x1 x2=some y→LT Tryz.prog (aFA x2) L55_1_1 (S55_1_1 x1 x2) (O55_1_1 x1 x2 y)
 | 0,h=>by cases h
 | k+1,h=>by
  rw[cP] at h
  by_cases cL0:bV ((((x2++[conv .u8 (aE .u64 x1 24)])++[conv .u8 (aE .u64 x1 16)]).length)*1)=true
  · rw[if_pos cL0] at h
    obtain⟨aGI,eL1,h⟩:=bsm h
    obtain rfl:=osi h
    show LT _ _ _ _ (.st (.exit 0) (aFS x1 x2))
    exact LT.next mixed (hs:=⟨[(0,[]),(1,[]),(7,[])],[],false,[],[]⟩) (es:=none) [dt,.rows (List.map aN [conv .u8 (aE .u64 x1 16)]),.n (((x2++[conv .u8 (aE .u64 x1 24)])++[conv .u8 (aE .u64 x1 16)]).length),.n ((x2++[conv .u8 (aE .u64 x1 24)]).length),dt,.rows (List.map aN ((x2++[conv .u8 (aE .u64 x1 24)])++[conv .u8 (aE .u64 x1 16)]))] [⟨(dF aN (x2++[conv .u8 (aE .u64 x1 24)]) [conv .u8 (aE .u64 x1 16)])⟩,⟨(cX ((x2++[conv .u8 (aE .u64 x1 24)]).length))⟩,⟨(bK aN (x2++[conv .u8 (aE .u64 x1 24)]))⟩,⟨cL0⟩,⟨(by simp only[wl,List.length_map,List.map_nil,List.map_cons]<;>omega:((x2++[conv .u8 (aE .u64 x1 24)]).length)+(List.map aN [conv .u8 (aE .u64 x1 16)]).length=((x2++[conv .u8 (aE .u64 x1 24)])++[conv .u8 (aE .u64 x1 16)]).length)⟩,⟨(bS aN (l:=[conv .u8 (aE .u64 x1 16)]) (n:=1) rfl)⟩,⟨(b9 aN (Nat.le_refl 1):0+1≤(List.map aN [conv .u8 (aE .u64 x1 16)]).length)⟩,⟨(nT (rfl:ltI 16 0=false))⟩] (by kernel_rfl) (vV x1 x2 _ k eL1)
  rw[if_neg cL0] at h;replace cL0:=eqf cL0
  cases h
theorem vY (x1:Int) (x2:List Int) (y:(Unit)):∀(k:Nat),cY k x1 x2=some y→LT Tryz.prog (aFA x2) L55_1_0 (S55_1_0 x1 x2) (O55_1_0 x1 x2 y)
 | 0,h=>by cases h
 | k+1,h=>by
  rw[cY] at h
  by_cases cL0:bV (((x2++[conv .u8 (aE .u64 x1 24)]).length)*1)=true
  · rw[if_pos cL0] at h
    obtain⟨aGJ,eL1,h⟩:=bsm h
    obtain rfl:=osi h
    show LT _ _ _ _ (.st (.exit 0) (aBC x1 x2))
    exact LT.next mixed (hs:=⟨[(0,[]),(1,[]),(7,[])],[],false,[],[]⟩) (es:=none) [dt,.rows (List.map aN [conv .u8 (aE .u64 x1 24)]),.n ((x2++[conv .u8 (aE .u64 x1 24)]).length),.n x2.length,dt,.rows (List.map aN (x2++[conv .u8 (aE .u64 x1 24)]))] [⟨(dF aN x2 [conv .u8 (aE .u64 x1 24)])⟩,⟨(cX x2.length)⟩,⟨(bK aN x2)⟩,⟨cL0⟩,⟨(by simp only[wl,List.length_map,List.map_nil,List.map_cons]<;>omega:x2.length+(List.map aN [conv .u8 (aE .u64 x1 24)]).length=(x2++[conv .u8 (aE .u64 x1 24)]).length)⟩,⟨(bS aN (l:=[conv .u8 (aE .u64 x1 24)]) (n:=1) rfl)⟩,⟨(b9 aN (Nat.le_refl 1):0+1≤(List.map aN [conv .u8 (aE .u64 x1 24)]).length)⟩,⟨(nT (rfl:ltI 24 0=false))⟩] (by kernel_rfl) (wO x1 x2 _ k eL1)
  rw[if_neg cL0] at h;replace cL0:=eqf cL0
  cases h
theorem aAV (k:Nat) (x1:Int) (x2:List Int) (r:Unit) (h:iJ k x1 x2=some r):Tri Tryz.prog 55 [(.ref 1 0 0 0 x2.length .virt),(.int .u64 x1),(.int .i64 4)] [(.arr 1 (List.map aN x2) 0 0 false)] (.ref 1 0 4 0 (((((x2++[conv .u8 (aE .u64 x1 24)])++[conv .u8 (aE .u64 x1 16)])++[conv .u8 (aE .u64 x1 8)])++[conv .u8 (aE .u64 x1 0)]).length) .virt) [(.arr 1 (List.map aN ((((x2++[conv .u8 (aE .u64 x1 24)])++[conv .u8 (aE .u64 x1 16)])++[conv .u8 (aE .u64 x1 8)])++[conv .u8 (aE .u64 x1 0)])) 4 0 false)]:=by
 unfold iJ at h
 obtain⟨x4,e0,h⟩:=bsm h
 obtain rfl:=osi h
 exact Tri.of (x:=(aFA x2)) mixed yU [.norm 2 ⟨[(0,[]),(1,[]),(7,[])],[],false,[],[]⟩,.out (.st .normal (aBC x1 x2)),.norm 0 ⟨[(6,[])],[],false,[],[]⟩] [⟨(LT.block (vY x1 x2 _ k e0))⟩] (by kernel_rfl)
end Go.Ws

namespace Go.Ws
open Go.Proofs
set_option linter.unusedSimpArgs false
set_option linter.unusedVariables false
set_option maxRecDepth 1000000
set_option maxHeartbeats 4000000
noncomputable def X55_2 (x2:List Int):Ctx:=⟨Tryz.f55,[(.arr 1 (List.map aN x2) 0 0 false)],false⟩
noncomputable def L55_2_1:Code:=at_ Tryz.f55 [1,0,1,4,5]
def S55_2_1 (x1:Int) (x2:List Int):St:=⟨mkT 23 [(0,(.ref 1 0 1 0 ((x2++[conv .u8 (aE .u64 x1 0)]).length) .virt)),(1,(.int .u64 x1)),(7,(.int .i64 (-8)))],[(.arr 1 (List.map aN (x2++[conv .u8 (aE .u64 x1 0)])) 1 0 false)]⟩
def aFW (x1:Int) (x2:List Int):St:=⟨mkT 23 [(0,(.ref 1 0 1 0 ((x2++[conv .u8 (aE .u64 x1 0)]).length) .virt))],[(.arr 1 (List.map aN (x2++[conv .u8 (aE .u64 x1 0)])) 1 0 false)]⟩
def O55_2_1 (x1:Int) (x2:List Int) (y:(Unit)):GX:=.st (.exit 0) (aFW x1 x2)
noncomputable def L55_2_0:Code:=at_ Tryz.f55 [1,0,1,4,5]
def S55_2_0 (x1:Int) (x2:List Int):St:=⟨mkT 23 [(0,(.ref 1 0 0 0 x2.length .virt)),(1,(.int .u64 x1)),(7,(.int .i64 0))],[(.arr 1 (List.map aN x2) 0 0 false)]⟩
def aBK (x1:Int) (x2:List Int):St:=⟨mkT 23 [(0,(.ref 1 0 1 0 ((x2++[conv .u8 (aE .u64 x1 0)]).length) .virt))],[(.arr 1 (List.map aN (x2++[conv .u8 (aE .u64 x1 0)])) 1 0 false)]⟩
def O55_2_0 (x1:Int) (x2:List Int) (y:(Unit)):GX:=.st (.exit 0) (aBK x1 x2)
theorem uT (x1:Int) (x2:List Int) (y:(Unit)):∀(k:Nat),cV k x1 x2=some y→LT Tryz.prog (X55_2 x2) L55_2_1 (S55_2_1 x1 x2) (O55_2_1 x1 x2 y)
 | 0,h=>by cases h
 | k+1,h=>by
  rw[cV] at h
  obtain rfl:=osi h
  show LT _ _ _ _ (.st (.exit 0) (aFW x1 x2))
  exact LT.done mixed (hs:=⟨[],[],false,[],[]⟩) (es:=(some ⟨[(0,[])],[],false,[],[]⟩)) [df] [⟨(nF (rfl:ltI (-8) 0=true))⟩] (by kernel_rfl) (fun s h=>by cases h)
theorem uV (x1:Int) (x2:List Int) (y:(Unit)):∀(k:Nat),cR k x1 x2=some y→LT Tryz.prog (X55_2 x2) L55_2_0 (S55_2_0 x1 x2) (O55_2_0 x1 x2 y)
 | 0,h=>by cases h
 | k+1,h=>by
  rw[cR] at h
  by_cases cL0:bV (((x2++[conv .u8 (aE .u64 x1 0)]).length)*1)=true
  · rw[if_pos cL0] at h
    obtain⟨aGK,eL1,h⟩:=bsm h
    obtain rfl:=osi h
    show LT _ _ _ _ (.st (.exit 0) (aBK x1 x2))
    exact LT.next mixed (hs:=⟨[(0,[]),(1,[]),(7,[])],[],false,[],[]⟩) (es:=none) [dt,.rows (List.map aN [conv .u8 (aE .u64 x1 0)]),.n ((x2++[conv .u8 (aE .u64 x1 0)]).length),.n x2.length,dt,.rows (List.map aN (x2++[conv .u8 (aE .u64 x1 0)]))] [⟨(dF aN x2 [conv .u8 (aE .u64 x1 0)])⟩,⟨(cX x2.length)⟩,⟨(bK aN x2)⟩,⟨cL0⟩,⟨(by simp only[wl,List.length_map,List.map_nil,List.map_cons]<;>omega:x2.length+(List.map aN [conv .u8 (aE .u64 x1 0)]).length=(x2++[conv .u8 (aE .u64 x1 0)]).length)⟩,⟨(bS aN (l:=[conv .u8 (aE .u64 x1 0)]) (n:=1) rfl)⟩,⟨(b9 aN (Nat.le_refl 1):0+1≤(List.map aN [conv .u8 (aE .u64 x1 0)]).length)⟩,⟨(nT (rfl:ltI 0 0=false))⟩] (by kernel_rfl) (uT x1 x2 _ k eL1)
  rw[if_neg cL0] at h;replace cL0:=eqf cL0
  cases h
theorem rD (k:Nat) (x1:Int) (x2:List Int) (r:Unit) (h:gM k x1 x2=some r):Tri Tryz.prog 55 [(.ref 1 0 0 0 x2.length .virt),(.int .u64 x1),(.int .i64 1)] [(.arr 1 (List.map aN x2) 0 0 false)] (.ref 1 0 1 0 ((x2++[conv .u8 (aE .u64 x1 0)]).length) .virt) [(.arr 1 (List.map aN (x2++[conv .u8 (aE .u64 x1 0)])) 1 0 false)]:=by
 unfold gM at h
 obtain⟨x4,e0,h⟩:=bsm h
 obtain rfl:=osi h
 exact Tri.of (x:=(X55_2 x2)) mixed yU [.norm 2 ⟨[(0,[]),(1,[]),(7,[])],[],false,[],[]⟩,.out (.st .normal (aBK x1 x2)),.norm 0 ⟨[(6,[])],[],false,[],[]⟩] [⟨(LT.block (uV x1 x2 _ k e0))⟩] (by kernel_rfl)
end Go.Ws

namespace Go.Ws
open Go.Proofs
set_option linter.unusedSimpArgs false
set_option linter.unusedVariables false
set_option maxRecDepth 1000000
set_option maxHeartbeats 4000000
noncomputable def X31:Ctx:=⟨Tryz.f31,[],true⟩
noncomputable def L31_3:Code:=at_ Tryz.f31 [1,1,1,0,1,4,5]
def S31_3 (x1:Int × ByteArray) (x2:Int × ByteArray) (x3:Int × ByteArray):St:=⟨mkT 88 [(0,(.str (ByteArray.mk #[97,99,97]))),(6,(.ref 1 0 0 0 (((((([conv .u8 (aE .u64 x1.1 0)]++[conv .u8 (aE .u64 x2.1 24)])++[conv .u8 (aE .u64 x2.1 16)])++[conv .u8 (aE .u64 x2.1 8)])++[conv .u8 (aE .u64 x2.1 0)])++[conv .u8 (aE .u64 x3.1 0)]).length) .virt)),(20,(.sl 2 (List.map aU [x1,x2,x3]))),(21,(.int .i64 3)),(22,(.int .i64 3))],[(.arr 1 (List.map aN ((((([conv .u8 (aE .u64 x1.1 0)]++[conv .u8 (aE .u64 x2.1 24)])++[conv .u8 (aE .u64 x2.1 16)])++[conv .u8 (aE .u64 x2.1 8)])++[conv .u8 (aE .u64 x2.1 0)])++[conv .u8 (aE .u64 x3.1 0)])) 0 0 false)]⟩
def aL0 (x1:Int × ByteArray) (x2:Int × ByteArray) (x3:Int × ByteArray):St:=⟨mkT 88 [(6,(.ref 1 0 0 0 (((((([conv .u8 (aE .u64 x1.1 0)]++[conv .u8 (aE .u64 x2.1 24)])++[conv .u8 (aE .u64 x2.1 16)])++[conv .u8 (aE .u64 x2.1 8)])++[conv .u8 (aE .u64 x2.1 0)])++[conv .u8 (aE .u64 x3.1 0)]).length) .virt))],[(.arr 1 (List.map aN ((((([conv .u8 (aE .u64 x1.1 0)]++[conv .u8 (aE .u64 x2.1 24)])++[conv .u8 (aE .u64 x2.1 16)])++[conv .u8 (aE .u64 x2.1 8)])++[conv .u8 (aE .u64 x2.1 0)])++[conv .u8 (aE .u64 x3.1 0)])) 0 0 false)]⟩
def O31_3 (x1:Int × ByteArray) (x2:Int × ByteArray) (x3:Int × ByteArray) (y:(Unit)):GX:=.st (.exit 0) (aL0 x1 x2 x3)
noncomputable def L31_2:Code:=at_ Tryz.f31 [1,1,1,0,1,4,5]
def S31_2 (x1:Int × ByteArray) (x2:Int × ByteArray) (x3:Int × ByteArray):St:=⟨mkT 88 [(0,(.str (ByteArray.mk #[97,99,97]))),(6,(.ref 1 0 0 0 ((((([conv .u8 (aE .u64 x1.1 0)]++[conv .u8 (aE .u64 x2.1 24)])++[conv .u8 (aE .u64 x2.1 16)])++[conv .u8 (aE .u64 x2.1 8)])++[conv .u8 (aE .u64 x2.1 0)]).length) .virt)),(20,(.sl 2 (List.map aU [x1,x2,x3]))),(21,(.int .i64 3)),(22,(.int .i64 2))],[(.arr 1 (List.map aN (((([conv .u8 (aE .u64 x1.1 0)]++[conv .u8 (aE .u64 x2.1 24)])++[conv .u8 (aE .u64 x2.1 16)])++[conv .u8 (aE .u64 x2.1 8)])++[conv .u8 (aE .u64 x2.1 0)])) 0 0 false)]⟩
def aMC (x1:Int × ByteArray) (x2:Int × ByteArray) (x3:Int × ByteArray):St:=⟨mkT 88 [(6,(.ref 1 0 0 0 (((((([conv .u8 (aE .u64 x1.1 0)]++[conv .u8 (aE .u64 x2.1 24)])++[conv .u8 (aE .u64 x2.1 16)])++[conv .u8 (aE .u64 x2.1 8)])++[conv .u8 (aE .u64 x2.1 0)])++[conv .u8 (aE .u64 x3.1 0)]).length) .virt))],[(.arr 1 (List.map aN ((((([conv .u8 (aE .u64 x1.1 0)]++[conv .u8 (aE .u64 x2.1 24)])++[conv .u8 (aE .u64 x2.1 16)])++[conv .u8 (aE .u64 x2.1 8)])++[conv .u8 (aE .u64 x2.1 0)])++[conv .u8 (aE .u64 x3.1 0)])) 0 0 false)]⟩
def O31_2 (x1:Int × ByteArray) (x2:Int × ByteArray) (x3:Int × ByteArray) (y:Ty3):GX:=match y with
 | .inl y=>.st (.exit 0) (aMC x1 x2 x3)
 | .inr y=>.fin (.tup [(.sl 1 (List.map aN y.1)),(.int .i64 y.2)]) []
noncomputable def L31_1:Code:=at_ Tryz.f31 [1,1,1,0,1,4,5]
def S31_1 (x1:Int × ByteArray) (x2:Int × ByteArray) (x3:Int × ByteArray):St:=⟨mkT 88 [(0,(.str (ByteArray.mk #[97,99,97]))),(6,(.ref 1 0 0 0 1 .virt)),(20,(.sl 2 (List.map aU [x1,x2,x3]))),(21,(.int .i64 3)),(22,(.int .i64 1))],[(.arr 1 (List.map aN [conv .u8 (aE .u64 x1.1 0)]) 0 0 false)]⟩
def aLF (x1:Int × ByteArray) (x2:Int × ByteArray) (x3:Int × ByteArray):St:=⟨mkT 88 [(6,(.ref 1 0 0 0 (((((([conv .u8 (aE .u64 x1.1 0)]++[conv .u8 (aE .u64 x2.1 24)])++[conv .u8 (aE .u64 x2.1 16)])++[conv .u8 (aE .u64 x2.1 8)])++[conv .u8 (aE .u64 x2.1 0)])++[conv .u8 (aE .u64 x3.1 0)]).length) .virt))],[(.arr 1 (List.map aN ((((([conv .u8 (aE .u64 x1.1 0)]++[conv .u8 (aE .u64 x2.1 24)])++[conv .u8 (aE .u64 x2.1 16)])++[conv .u8 (aE .u64 x2.1 8)])++[conv .u8 (aE .u64 x2.1 0)])++[conv .u8 (aE .u64 x3.1 0)])) 0 0 false)]⟩
def O31_1 (x1:Int × ByteArray) (x2:Int × ByteArray) (x3:Int × ByteArray) (y:Ty3):GX:=match y with
 | .inl y=>.st (.exit 0) (aLF x1 x2 x3)
 | .inr y=>.fin (.tup [(.sl 1 (List.map aN y.1)),(.int .i64 y.2)]) []
noncomputable def L31_0:Code:=at_ Tryz.f31 [1,1,1,0,1,4,5]
def S31_0 (x1:Int × ByteArray) (x2:Int × ByteArray) (x3:Int × ByteArray):St:=⟨mkT 88 [(0,(.str (ByteArray.mk #[97,99,97]))),(6,.nils),(20,(.sl 2 (List.map aU [x1,x2,x3]))),(21,(.int .i64 3)),(22,(.int .i64 0))],[]⟩
def aG1 (x1:Int × ByteArray) (x2:Int × ByteArray) (x3:Int × ByteArray):St:=⟨mkT 88 [(6,(.ref 1 0 0 0 (((((([conv .u8 (aE .u64 x1.1 0)]++[conv .u8 (aE .u64 x2.1 24)])++[conv .u8 (aE .u64 x2.1 16)])++[conv .u8 (aE .u64 x2.1 8)])++[conv .u8 (aE .u64 x2.1 0)])++[conv .u8 (aE .u64 x3.1 0)]).length) .virt))],[(.arr 1 (List.map aN ((((([conv .u8 (aE .u64 x1.1 0)]++[conv .u8 (aE .u64 x2.1 24)])++[conv .u8 (aE .u64 x2.1 16)])++[conv .u8 (aE .u64 x2.1 8)])++[conv .u8 (aE .u64 x2.1 0)])++[conv .u8 (aE .u64 x3.1 0)])) 0 0 false)]⟩
def O31_0 (x1:Int × ByteArray) (x2:Int × ByteArray) (x3:Int × ByteArray) (y:Ty3):GX:=match y with
 | .inl y=>.st (.exit 0) (aG1 x1 x2 x3)
 | .inr y=>.fin (.tup [(.sl 1 (List.map aN y.1)),(.int .i64 y.2)]) []
def aEE:Ans:=.norm 0 ⟨[(4,[(0,1)]),(5,[])],[],false,[],[]⟩
def A31_1 (x1:Int × ByteArray) (x2:Int × ByteArray):Ans:=.call ⟨false,[]⟩ (.ref 1 0 4 0 ((((([conv .u8 (aE .u64 x1.1 0)]++[conv .u8 (aE .u64 x2.1 24)])++[conv .u8 (aE .u64 x2.1 16)])++[conv .u8 (aE .u64 x2.1 8)])++[conv .u8 (aE .u64 x2.1 0)]).length) .virt) [(.arr 1 (List.map aN (((([conv .u8 (aE .u64 x1.1 0)]++[conv .u8 (aE .u64 x2.1 24)])++[conv .u8 (aE .u64 x2.1 16)])++[conv .u8 (aE .u64 x2.1 8)])++[conv .u8 (aE .u64 x2.1 0)])) 4 0 false)]
def A31_2 (x1:Int × ByteArray):Ans:=.call ⟨false,[]⟩ (.ref 1 0 0 0 1 .virt) [(.arr 1 (List.map aN [conv .u8 (aE .u64 x1.1 0)]) 0 0 false)]
theorem yW (x1:Int × ByteArray) (x2:Int × ByteArray) (x3:Int × ByteArray) (y:(Unit)):∀(k:Nat),dH k x1 x2 x3=some y→LT Tryz.prog X31 L31_3 (S31_3 x1 x2 x3) (O31_3 x1 x2 x3 y)
 | 0,h=>by cases h
 | k+1,h=>by
  rw[dH] at h
  obtain rfl:=osi h
  show LT _ _ _ _ (.st (.exit 0) (aL0 x1 x2 x3))
  exact LT.done mixed (hs:=⟨[],[],false,[],[]⟩) (es:=(some ⟨[(6,[])],[⟨.tmp 6,[],none⟩],false,[],[]⟩)) [df] [⟨(rfl:ltI 3 3=false)⟩] (by kernel_rfl) (fun s h=>by cases h)
theorem qE (x1:Int × ByteArray) (x2:Int × ByteArray) (x3:Int × ByteArray) (y:Ty3):∀(k:Nat),dR k x1 x2 x3=some y→LT Tryz.prog X31 L31_2 (S31_2 x1 x2 x3) (O31_2 x1 x2 x3 y)
 | 0,h=>by cases h
 | k+1,h=>by
  rw[dR] at h
  let u1:List Ans:=[dt,.n 3,.row [(.int .u64 x3.1),(.str x3.2)],.call ⟨true,[]⟩ (.int .i64 1) [],df,df,df,df,df,df,df,dt,dt,dt,dt]
  let w2:List Prf:=[⟨(rfl:ltI 0 1=true)⟩,⟨(rfl:ltI 0 1=true)⟩,⟨(rfl:ltI 0 1=true)⟩,⟨(rfl:ltI 0 1=true)⟩,⟨rF⟩,⟨(rfl:eqI 1 0=false)⟩,⟨(rfl:eqI 1 0=false)⟩,⟨(rfl:eqI 1 0=false)⟩,⟨(rfl:eqI 1 0=false)⟩,⟨(rfl:eqI 1 0=false)⟩,⟨(rfl:eqI 1 0=false)⟩,⟨(fY)⟩,⟨(rfl:fR 2 (List.map aU [x1,x2,x3]) 2 0 2=some [(.int .u64 x3.1),(.str x3.2)])⟩,⟨(rfl:inI 2 3=true)⟩,⟨(rfl:(List.map aU [x1,x2,x3]).length=3)⟩,⟨(rfl:ltI 2 3=true)⟩]
  by_cases cL0:eqS x3.2 (ByteArray.mk #[])=true
  · rw[if_pos cL0] at h
    let u3:List Ans:=u1++[df,dt,dt,dt,dt,dt,dt,dt,dt,dt,dt]
    let w4:List Prf:=[⟨(rfl:ltI 1 8=true)⟩,⟨(rfl:ltI 1 8=true)⟩,⟨(rfl:ltI 1 8=true)⟩,⟨(rfl:ltI 1 8=true)⟩,⟨(rfl:ltI 1 8=true)⟩,⟨(rfl:ltI 1 8=true)⟩,⟨(rfl:ltI 1 8=true)⟩,⟨(rfl:ltI 0 1=true)⟩,⟨(rfl:ltI 0 1=true)⟩,⟨(rfl:ltI 0 1=true)⟩,⟨(nF cL0)⟩]++w2
    by_cases cL1:eqI (aE .u64 x3.1 8) 0=true
    · rw[if_pos cL1] at h
      obtain⟨aJP,eL2,h⟩:=bsm h
      obtain⟨aJQ,eL3,h⟩:=bsm h
      obtain rfl:=osi h
      show LT _ _ _ _ (.st (.exit 0) (aMC x1 x2 x3))
      exact LT.next mixed (hs:=⟨[(0,[]),(6,[]),(20,[]),(21,[]),(22,[])],[⟨.tmp 6,[],none⟩],false,[],[]⟩) (es:=none) (u3++[df,df,.call ⟨false,[]⟩ (.ref 1 0 1 0 (((((([conv .u8 (aE .u64 x1.1 0)]++[conv .u8 (aE .u64 x2.1 24)])++[conv .u8 (aE .u64 x2.1 16)])++[conv .u8 (aE .u64 x2.1 8)])++[conv .u8 (aE .u64 x2.1 0)])++[conv .u8 (aE .u64 x3.1 0)]).length) .virt) [(.arr 1 (List.map aN ((((([conv .u8 (aE .u64 x1.1 0)]++[conv .u8 (aE .u64 x2.1 24)])++[conv .u8 (aE .u64 x2.1 16)])++[conv .u8 (aE .u64 x2.1 8)])++[conv .u8 (aE .u64 x2.1 0)])++[conv .u8 (aE .u64 x3.1 0)])) 1 0 false)]]) ([⟨(rD k x3.1 (((([conv .u8 (aE .u64 x1.1 0)]++[conv .u8 (aE .u64 x2.1 24)])++[conv .u8 (aE .u64 x2.1 16)])++[conv .u8 (aE .u64 x2.1 8)])++[conv .u8 (aE .u64 x2.1 0)]) _ eL2)⟩,⟨(rfl:eqI 1 0=false)⟩,⟨(nF cL1)⟩]++w4) (by kernel_rfl) (yW x1 x2 x3 _ k eL3)
    rw[if_neg cL1] at h;replace cL1:=eqf cL1
    obtain rfl:=osi h
    show LT _ _ _ _ (.fin (.tup [(.sl 1 (List.map aN (([],2).1))),(.int .i64 (([],2).2))]) [])
    exact LT.done mixed (hs:=⟨[],[],false,[],[]⟩) (es:=none) (u3++[dt,aEE]) ([⟨(nT cL1)⟩]++w4) (by kernel_rfl) (fun s h=>by cases h)
  rw[if_neg cL0] at h;replace cL0:=eqf cL0
  obtain rfl:=osi h
  show LT _ _ _ _ (.fin (.tup [(.sl 1 (List.map aN (([],2).1))),(.int .i64 (([],2).2))]) [])
  exact LT.done mixed (hs:=⟨[],[],false,[],[]⟩) (es:=none) (u1++[dt,dt,aEE]) ([⟨(nT cL0)⟩,⟨(nT cL0)⟩]++w2) (by kernel_rfl) (fun s h=>by cases h)
theorem pX (x1:Int × ByteArray) (x2:Int × ByteArray) (x3:Int × ByteArray) (y:Ty3):∀(k:Nat),dO k x1 x2 x3=some y→LT Tryz.prog X31 L31_1 (S31_1 x1 x2 x3) (O31_1 x1 x2 x3 y)
 | 0,h=>by cases h
 | k+1,h=>by
  rw[dO] at h
  let u5:List Ans:=[dt,.n 3,.row [(.int .u64 x2.1),(.str x2.2)],.call ⟨true,[]⟩ (.int .i64 4) [],df,df,df,df,df,df,df,dt,dt,dt,dt]
  let w6:List Prf:=[⟨(rfl:ltI 0 4=true)⟩,⟨(rfl:ltI 0 4=true)⟩,⟨(rfl:ltI 0 4=true)⟩,⟨(rfl:ltI 0 4=true)⟩,⟨rF⟩,⟨(rfl:eqI 4 0=false)⟩,⟨(rfl:eqI 4 0=false)⟩,⟨(rfl:eqI 4 0=false)⟩,⟨(rfl:eqI 4 0=false)⟩,⟨(rfl:eqI 4 0=false)⟩,⟨(rfl:eqI 4 0=false)⟩,⟨(sD)⟩,⟨(rfl:fR 2 (List.map aU [x1,x2,x3]) 1 0 2=some [(.int .u64 x2.1),(.str x2.2)])⟩,⟨(rfl:inI 1 3=true)⟩,⟨(rfl:(List.map aU [x1,x2,x3]).length=3)⟩,⟨(rfl:ltI 1 3=true)⟩]
  by_cases cL0:eqS x2.2 (ByteArray.mk #[])=true
  · rw[if_pos cL0] at h
    let u7:List Ans:=u5++[df,dt,dt,dt,dt,dt,dt,dt,dt,dt,dt]
    let w8:List Prf:=[⟨(rfl:ltI 4 8=true)⟩,⟨(rfl:ltI 4 8=true)⟩,⟨(rfl:ltI 4 8=true)⟩,⟨(rfl:ltI 4 8=true)⟩,⟨(rfl:ltI 4 8=true)⟩,⟨(rfl:ltI 4 8=true)⟩,⟨(rfl:ltI 4 8=true)⟩,⟨(rfl:ltI 0 4=true)⟩,⟨(rfl:ltI 0 4=true)⟩,⟨(rfl:ltI 0 4=true)⟩,⟨(nF cL0)⟩]++w6
    by_cases cL1:eqI (aE .u64 x2.1 32) 0=true
    · rw[if_pos cL1] at h
      obtain⟨aJR,eL2,h⟩:=bsm h
      let w10:List Prf:=[⟨(aAV k x2.1 [conv .u8 (aE .u64 x1.1 0)] _ eL2)⟩,⟨(rfl:eqI 4 0=false)⟩,⟨(nF cL1)⟩]++w8
      obtain⟨v31010_2,eL3,h⟩:=bsm h
      cases v31010_2 with
      | inl lL =>
       simp only[Sum.elim_inl] at h
       obtain rfl:=osi h
       show LT _ _ _ _ (.st (.exit 0) (aLF x1 x2 x3))
       exact LT.next mixed (hs:=⟨[(0,[]),(6,[]),(20,[]),(21,[]),(22,[])],[⟨.tmp 6,[],none⟩],false,[],[]⟩) (es:=none) (u7++[df,df,(A31_1 x1 x2)]) w10 (by kernel_rfl) (qE x1 x2 x3 _ k eL3)
      | inr lL =>
       simp only[Sum.elim_inr] at h
       obtain rfl:=osi h
       show LT _ _ _ _ (.fin (.tup [(.sl 1 (List.map aN lL.1)),(.int .i64 lL.2)]) [])
       exact LT.next mixed (hs:=⟨[(0,[]),(6,[]),(20,[]),(21,[]),(22,[])],[⟨.tmp 6,[],none⟩],false,[],[]⟩) (es:=none) (u7++[df,df,(A31_1 x1 x2)]) w10 (by kernel_rfl) (qE x1 x2 x3 _ k eL3)
    rw[if_neg cL1] at h;replace cL1:=eqf cL1
    obtain rfl:=osi h
    show LT _ _ _ _ (.fin (.tup [(.sl 1 (List.map aN (([],2).1))),(.int .i64 (([],2).2))]) [])
    exact LT.done mixed (hs:=⟨[],[],false,[],[]⟩) (es:=none) (u7++[dt,aEE]) ([⟨(nT cL1)⟩]++w8) (by kernel_rfl) (fun s h=>by cases h)
  rw[if_neg cL0] at h;replace cL0:=eqf cL0
  obtain rfl:=osi h
  show LT _ _ _ _ (.fin (.tup [(.sl 1 (List.map aN (([],2).1))),(.int .i64 (([],2).2))]) [])
  exact LT.done mixed (hs:=⟨[],[],false,[],[]⟩) (es:=none) (u5++[dt,dt,aEE]) ([⟨(nT cL0)⟩,⟨(nT cL0)⟩]++w6) (by kernel_rfl) (fun s h=>by cases h)
theorem p6 (x1:Int × ByteArray) (x2:Int × ByteArray) (x3:Int × ByteArray) (y:Ty3):∀(k:Nat),dQ k x1 x2 x3=some y→LT Tryz.prog X31 L31_0 (S31_0 x1 x2 x3) (O31_0 x1 x2 x3 y)
 | 0,h=>by cases h
 | k+1,h=>by
  rw[dQ] at h
  let u11:List Ans:=[dt,.n 3,.row [(.int .u64 x1.1),(.str x1.2)],.call ⟨true,[]⟩ (.int .i64 1) [],df,df,df,df,df,df,df,dt,dt,dt,dt]
  let w12:List Prf:=[⟨(rfl:ltI 0 1=true)⟩,⟨(rfl:ltI 0 1=true)⟩,⟨(rfl:ltI 0 1=true)⟩,⟨(rfl:ltI 0 1=true)⟩,⟨rF⟩,⟨(rfl:eqI 1 0=false)⟩,⟨(rfl:eqI 1 0=false)⟩,⟨(rfl:eqI 1 0=false)⟩,⟨(rfl:eqI 1 0=false)⟩,⟨(rfl:eqI 1 0=false)⟩,⟨(rfl:eqI 1 0=false)⟩,⟨(fY)⟩,⟨(rfl:fR 2 (List.map aU [x1,x2,x3]) 0 0 2=some [(.int .u64 x1.1),(.str x1.2)])⟩,⟨(rfl:inI 0 3=true)⟩,⟨(rfl:(List.map aU [x1,x2,x3]).length=3)⟩,⟨(rfl:ltI 0 3=true)⟩]
  by_cases cL0:eqS x1.2 (ByteArray.mk #[])=true
  · rw[if_pos cL0] at h
    let u13:List Ans:=u11++[df,dt,dt,dt,dt,dt,dt,dt,dt,dt,dt]
    let w14:List Prf:=[⟨(rfl:ltI 1 8=true)⟩,⟨(rfl:ltI 1 8=true)⟩,⟨(rfl:ltI 1 8=true)⟩,⟨(rfl:ltI 1 8=true)⟩,⟨(rfl:ltI 1 8=true)⟩,⟨(rfl:ltI 1 8=true)⟩,⟨(rfl:ltI 1 8=true)⟩,⟨(rfl:ltI 0 1=true)⟩,⟨(rfl:ltI 0 1=true)⟩,⟨(rfl:ltI 0 1=true)⟩,⟨(nF cL0)⟩]++w12
    by_cases cL1:eqI (aE .u64 x1.1 8) 0=true
    · rw[if_pos cL1] at h
      obtain⟨aJS,eL2,h⟩:=bsm h
      let w16:List Prf:=[⟨(s6 k x1.1 _ eL2)⟩,⟨(rfl:eqI 1 0=false)⟩,⟨(nF cL1)⟩]++w14
      obtain⟨v31000_2,eL3,h⟩:=bsm h
      cases v31000_2 with
      | inl lN =>
       simp only[Sum.elim_inl] at h
       obtain rfl:=osi h
       show LT _ _ _ _ (.st (.exit 0) (aG1 x1 x2 x3))
       exact LT.next mixed (hs:=⟨[(0,[]),(6,[]),(20,[]),(21,[]),(22,[])],[⟨.tmp 6,[],none⟩],false,[],[]⟩) (es:=none) (u13++[df,df,(A31_2 x1)]) w16 (by kernel_rfl) (pX x1 x2 x3 _ k eL3)
      | inr lN =>
       simp only[Sum.elim_inr] at h
       obtain rfl:=osi h
       show LT _ _ _ _ (.fin (.tup [(.sl 1 (List.map aN lN.1)),(.int .i64 lN.2)]) [])
       exact LT.next mixed (hs:=⟨[(0,[]),(6,[]),(20,[]),(21,[]),(22,[])],[⟨.tmp 6,[],none⟩],false,[],[]⟩) (es:=none) (u13++[df,df,(A31_2 x1)]) w16 (by kernel_rfl) (pX x1 x2 x3 _ k eL3)
    rw[if_neg cL1] at h;replace cL1:=eqf cL1
    obtain rfl:=osi h
    show LT _ _ _ _ (.fin (.tup [(.sl 1 (List.map aN (([],2).1))),(.int .i64 (([],2).2))]) [])
    exact LT.done mixed (hs:=⟨[],[],false,[],[]⟩) (es:=none) (u13++[dt,aEE]) ([⟨(nT cL1)⟩]++w14) (by kernel_rfl) (fun s h=>by cases h)
  rw[if_neg cL0] at h;replace cL0:=eqf cL0
  obtain rfl:=osi h
  show LT _ _ _ _ (.fin (.tup [(.sl 1 (List.map aN (([],2).1))),(.int .i64 (([],2).2))]) [])
  exact LT.done mixed (hs:=⟨[],[],false,[],[]⟩) (es:=none) (u11++[dt,dt,aEE]) ([⟨(nT cL0)⟩,⟨(nT cL0)⟩]++w12) (by kernel_rfl) (fun s h=>by cases h)
theorem aC3 (k:Nat) (x1:Int × ByteArray) (x2:Int × ByteArray) (x3:Int × ByteArray) (r:(List Int) × Int) (h:kA k x1 x2 x3=some r):Tri Tryz.prog 31 [(.str (ByteArray.mk #[97,99,97])),(.sl 2 (List.map aU [x1,x2,x3]))] [] (.tup [(.sl 1 (List.map aN r.1)),(.int .i64 r.2)]) []:=by
 unfold kA at h
 let u17:List Ans:=[.call ⟨true,[]⟩ (.bool (eqS (ByteArray.mk #[]) (ByteArray.mk #[]))) [],df,df,.n 3,df,df,df,df,df,.n 3,.norm 2 ⟨[(0,[]),(6,[]),(20,[]),(21,[]),(22,[])],[],false,[],[]⟩]
 let w18:List Prf:=[⟨(rfl:(List.map aU [x1,x2,x3]).length=3)⟩,⟨(nF (rfl:eqI 3 3=true))⟩,⟨(nF (gJ (ByteArray.mk #[])))⟩,⟨(nF (gJ (ByteArray.mk #[])))⟩,⟨(nF (gJ (ByteArray.mk #[])))⟩,⟨(nF (gJ (ByteArray.mk #[])))⟩,⟨(rfl:(List.map aU [x1,x2,x3]).length=3)⟩,⟨(nF (gJ (ByteArray.mk #[])))⟩,⟨(nF (gJ (ByteArray.mk #[])))⟩,⟨(tV)⟩]
 obtain⟨x4,e0,h⟩:=bsm h
 cases x4 with
 | inl x5 =>
  simp only[Sum.elim_inl] at h
  let u19:List Ans:=u17++[.out (.st .normal (aG1 x1 x2 x3))]
  let w20:List Prf:=[⟨(LT.block (p6 x1 x2 x3 _ k e0))⟩]++w18
  by_cases c2:ltI 4000 (nI (((((([conv .u8 (aE .u64 x1.1 0)]++[conv .u8 (aE .u64 x2.1 24)])++[conv .u8 (aE .u64 x2.1 16)])++[conv .u8 (aE .u64 x2.1 8)])++[conv .u8 (aE .u64 x2.1 0)])++[conv .u8 (aE .u64 x3.1 0)]).length))=true
  · rw[if_pos c2] at h
    obtain rfl:=osi h
    exact Tri.of (x:=X31) mixed t8 (u19++[dt,aEE]) ([⟨c2⟩]++w20) (by kernel_rfl)
  rw[if_neg c2] at h;replace c2:=eqf c2
  obtain rfl:=osi h
  exact Tri.of (x:=X31) mixed t8 (u19++[df,.rows (List.map aN ((((([conv .u8 (aE .u64 x1.1 0)]++[conv .u8 (aE .u64 x2.1 24)])++[conv .u8 (aE .u64 x2.1 16)])++[conv .u8 (aE .u64 x2.1 8)])++[conv .u8 (aE .u64 x2.1 0)])++[conv .u8 (aE .u64 x3.1 0)]))]) ([⟨(bS aN (l:=((((([conv .u8 (aE .u64 x1.1 0)]++[conv .u8 (aE .u64 x2.1 24)])++[conv .u8 (aE .u64 x2.1 16)])++[conv .u8 (aE .u64 x2.1 8)])++[conv .u8 (aE .u64 x2.1 0)])++[conv .u8 (aE .u64 x3.1 0)])) (n:=(((((([conv .u8 (aE .u64 x1.1 0)]++[conv .u8 (aE .u64 x2.1 24)])++[conv .u8 (aE .u64 x2.1 16)])++[conv .u8 (aE .u64 x2.1 8)])++[conv .u8 (aE .u64 x2.1 0)])++[conv .u8 (aE .u64 x3.1 0)]).length)) rfl)⟩,⟨(b9 aN (Nat.le_refl (((((([conv .u8 (aE .u64 x1.1 0)]++[conv .u8 (aE .u64 x2.1 24)])++[conv .u8 (aE .u64 x2.1 16)])++[conv .u8 (aE .u64 x2.1 8)])++[conv .u8 (aE .u64 x2.1 0)])++[conv .u8 (aE .u64 x3.1 0)]).length)):0+((((([conv .u8 (aE .u64 x1.1 0)]++[conv .u8 (aE .u64 x2.1 24)])++[conv .u8 (aE .u64 x2.1 16)])++[conv .u8 (aE .u64 x2.1 8)])++[conv .u8 (aE .u64 x2.1 0)])++[conv .u8 (aE .u64 x3.1 0)]).length≤(List.map aN ((((([conv .u8 (aE .u64 x1.1 0)]++[conv .u8 (aE .u64 x2.1 24)])++[conv .u8 (aE .u64 x2.1 16)])++[conv .u8 (aE .u64 x2.1 8)])++[conv .u8 (aE .u64 x2.1 0)])++[conv .u8 (aE .u64 x3.1 0)])).length)⟩,⟨c2⟩]++w20) (by kernel_rfl)
 | inr x5 =>
  simp only[Sum.elim_inr] at h
  obtain rfl:=osi h
  exact Tri.of (x:=X31) mixed t8 (u17++[.out (.fin (.tup [(.sl 1 (List.map aN x5.1)),(.int .i64 x5.2)]) [])]) ([⟨(LT.blockFin (id:=0) (p6 x1 x2 x3 _ k e0))⟩]++w18) (by kernel_rfl)
end Go.Ws

namespace Go.Ws
open Go.Proofs
set_option linter.unusedSimpArgs false
set_option linter.unusedVariables false
set_option maxRecDepth 1000000
set_option maxHeartbeats 4000000
noncomputable def X26:Ctx:=⟨Tryz.f26,[],true⟩
theorem sF (k:Nat) (x1:Int) (x2:Int) (x3:Int) (r:(List Int) × Int) (h:gC k x1 x2 x3=some r):Tri Tryz.prog 26 [(.agg [(.int .i64 x1),(.int .i64 x2),(.int .u8 x3)])] [] (.tup [(.sl 1 (List.map aN r.1)),(.int .i64 r.2)]) []:=by
 unfold gC at h
 by_cases c0:(bN x1 x2 x3)=true
 · rw[if_pos c0] at h
   obtain⟨x4,e1,h⟩:=bsm h
   obtain rfl:=osi h
   exact Tri.of (x:=X26) mixed aLX [.call ⟨true,[]⟩ (.bool (bN x1 x2 x3)) [],df,.call ⟨true,[]⟩ (.tup [(.sl 1 (List.map aN x4.1)),(.int .i64 x4.2)]) [],.rows (List.map aU [(conv .u64 x2,(ByteArray.mk #[])),(conv .u64 x1,(ByteArray.mk #[])),(conv .u64 x3,(ByteArray.mk #[]))])] [⟨(aC3 k (conv .u64 x2,(ByteArray.mk #[])) (conv .u64 x1,(ByteArray.mk #[])) (conv .u64 x3,(ByteArray.mk #[])) _ e1)⟩,⟨(bS aU (l:=[(conv .u64 x2,(ByteArray.mk #[])),(conv .u64 x1,(ByteArray.mk #[])),(conv .u64 x3,(ByteArray.mk #[]))]) (n:=3) rfl)⟩,⟨(b9 aU (Nat.le_refl 3):0+3≤(List.map aU [(conv .u64 x2,(ByteArray.mk #[])),(conv .u64 x1,(ByteArray.mk #[])),(conv .u64 x3,(ByteArray.mk #[]))]).length)⟩,⟨(nF c0)⟩,⟨(eT x1 x2 x3)⟩] (by kernel_rfl)
 rw[if_neg c0] at h;replace c0:=eqf c0
 obtain rfl:=osi h
 exact Tri.of (x:=X26) mixed aLX [.call ⟨true,[]⟩ (.bool (bN x1 x2 x3)) [],dt,.norm 0 ⟨[(2,[(0,1)]),(3,[])],[],false,[],[]⟩] [⟨(nT c0)⟩,⟨(eT x1 x2 x3)⟩] (by kernel_rfl)
end Go.Ws

namespace Go.Ws
open Go.Proofs
set_option linter.unusedSimpArgs false
set_option linter.unusedVariables false
set_option maxRecDepth 1000000
set_option maxHeartbeats 4000000
noncomputable def X60 (x2:List Int) (x3:Bool):Ctx:=⟨Tryz.f60,[(.row [(.sl 1 (List.map aN x2)),(.bool x3)])],false⟩
theorem wH (k:Nat) (x1:Int) (x2:List Int) (x3:Bool) (r:(List Int) × (List Int) × Bool) (h:fZ k x1 x2 x3=some r):Tri Tryz.prog 60 [(.hp 0 0),(.int .i64 x1)] [(.row [(.sl 1 (List.map aN x2)),(.bool x3)])] (.sl 1 (List.map aN r.1)) [(.row [(.sl 1 (List.map aN r.2.1)),(.bool r.2.2)])]:=by
 unfold fZ at h
 by_cases c0:x3=true
 · rw[if_pos c0] at h
   obtain rfl:=osi h
   exact Tri.of (x:=(X60 x2 x3)) mixed aHP [dt,dt,dt,dt,dt,dt,dt,dt,dt,.norm 0 ⟨[(4,[(0,1)])],[],false,[],[]⟩] [⟨rT⟩,⟨c0⟩,⟨c0⟩,⟨c0⟩,⟨c0⟩,⟨c0⟩,⟨c0⟩,⟨c0⟩,⟨c0⟩] (by kernel_rfl)
 rw[if_neg c0] at h;replace c0:=eqf c0
 let u1:List Ans:=[df,df,df,df,df,df,.n x2.length,df,df]
 let w2:List Prf:=[⟨c0⟩,⟨c0⟩,⟨(bK aN x2)⟩,⟨c0⟩,⟨c0⟩,⟨c0⟩,⟨c0⟩,⟨c0⟩,⟨c0⟩]
 by_cases c1:ltI (nI x2.length) x1=true
 · rw[if_pos c1] at h
   obtain rfl:=osi h
   exact Tri.of (x:=(X60 x2 x3)) mixed aHP (u1++[dt,.norm 0 ⟨[(4,[(0,1)])],[],false,[],[]⟩]) ([⟨c1⟩]++w2) (by kernel_rfl)
 rw[if_neg c1] at h;replace c1:=eqf c1
 by_cases c2:leI x1 x2.length=true
 · rw[if_pos c2] at h
   obtain rfl:=osi h
   exact Tri.of (x:=(X60 x2 x3)) mixed aHP (u1++[df,.n x2.length,.rows (List.map aN (List.take (tN x1) x2)),.n x2.length,.rows (List.map aN (List.drop (tN x1) x2)),.norm 0 ⟨[(4,[])],[],false,[],[]⟩]) ([⟨(aCZ aN (l:=x2) (n:=x2.length) rfl (tN x1))⟩,⟨c2⟩,⟨(bK aN x2)⟩,⟨(zM aN x2 (tN x1))⟩,⟨c2⟩,⟨(bK aN x2)⟩,⟨c1⟩]++w2) (by kernel_rfl)
 rw[if_neg c2] at h;replace c2:=eqf c2
 cases h
end Go.Ws

namespace Go.Ws
open Go.Proofs
set_option linter.unusedSimpArgs false
set_option linter.unusedVariables false
set_option maxRecDepth 1000000
set_option maxHeartbeats 4000000
noncomputable def X59 (x2:List Int) (x3:Bool):Ctx:=⟨Tryz.f59,[(.row [(.sl 1 (List.map aN x2)),(.bool x3)])],false⟩
noncomputable def L59_0:Code:=at_ Tryz.f59 [1,1,0,1,4,5]
def S59_0 (x4:(List Int) × (List Int) × Bool) (dA:Int) (cE:Int):St:=⟨mkT 23 [(5,(.int .u64 dA)),(10,(.sl 1 (List.map aN x4.1))),(11,(.int .i64 (nI x4.1.length))),(12,(.int .i64 cE))],[(.row [(.sl 1 (List.map aN x4.2.1)),(.bool x4.2.2)])]⟩
def aG2 (x4:(List Int) × (List Int) × Bool) (v59002_1:Int):St:=⟨mkT 23 [(5,(.int .u64 v59002_1))],[(.row [(.sl 1 (List.map aN x4.2.1)),(.bool x4.2.2)])]⟩
def O59_0 (x2:List Int) (x3:Bool) (x4:(List Int) × (List Int) × Bool) (y:(Int)):GX:=.st (.exit 0) (aG2 x4 y)
theorem jS (x2:List Int) (x3:Bool) (x4:(List Int) × (List Int) × Bool) (y:(Int)):∀(k:Nat) (dA:Int) (cE:Int),bZ k x2 x3 x4 dA cE=some y→LT Tryz.prog (X59 x2 x3) L59_0 (S59_0 x4 dA cE) (O59_0 x2 x3 x4 y)
 | 0,dA,cE,h=>by cases h
 | k+1,dA,cE,h=>by
  rw[bZ] at h
  by_cases cL0:ltI cE (nI x4.1.length)=true
  · rw[if_pos cL0] at h
    by_cases cL1:inI cE x4.1.length=true
    · rw[if_pos cL1] at h
      obtain⟨rG,eL2,h⟩:=bsm h
      exact LT.next mixed (hs:=⟨[(5,[]),(10,[]),(11,[]),(12,[])],[],false,[],[]⟩) (es:=none) [dt,.n x4.1.length,.row [(.int .u8 rG)]] [⟨(cL (e:=aN) eL2 1 0 1 (by decide))⟩,⟨cL1⟩,⟨(bK aN x4.1)⟩,⟨cL0⟩] (by kernel_rfl) (jS x2 x3 x4 y k (ior .u64 (eQ .u64 dA 8) (conv .u64 rG)) (bI .i64 cE 1) h)
    rw[if_neg cL1] at h;replace cL1:=eqf cL1
    cases h
  rw[if_neg cL0] at h;replace cL0:=eqf cL0
  obtain rfl:=osi h
  show LT _ _ _ _ (.st (.exit 0) (aG2 x4 dA))
  exact LT.done mixed (hs:=⟨[],[],false,[],[]⟩) (es:=(some ⟨[(5,[])],[],false,[],[]⟩)) [df] [⟨cL0⟩] (by kernel_rfl) (fun s h=>by cases h)
theorem dE (k:Nat) (x1:Int) (x2:List Int) (x3:Bool) (r:Int × (List Int) × Bool) (h:cA k x1 x2 x3=some r):Tri Tryz.prog 59 [(.hp 0 0),(.int .i64 x1)] [(.row [(.sl 1 (List.map aN x2)),(.bool x3)])] (.int .u64 r.1) [(.row [(.sl 1 (List.map aN r.2.1)),(.bool r.2.2)])]:=by
 unfold cA at h
 obtain⟨x4,e0,h⟩:=bsm h
 obtain⟨x6,e1,h⟩:=bsm h
 obtain rfl:=osi h
 exact Tri.of (x:=(X59 x2 x3)) mixed facts59 [.call ⟨true,[]⟩ (.sl 1 (List.map aN x4.1)) [(.row [(.sl 1 (List.map aN x4.2.1)),(.bool x4.2.2)])],.n x4.1.length,.norm 2 ⟨[(5,[]),(10,[]),(11,[]),(12,[])],[],false,[],[]⟩,.out (.st .normal (aG2 x4 x6)),.norm 0 ⟨[(4,[])],[],false,[],[]⟩] [⟨(LT.block (jS x2 x3 x4 _ k 0 0 e1))⟩,⟨(bK aN x4.1)⟩,⟨(wH k x1 x2 x3 _ e0)⟩] (by kernel_rfl)
end Go.Ws

namespace Go.Ws
open Go.Proofs
set_option linter.unusedSimpArgs false
set_option linter.unusedVariables false
set_option maxRecDepth 1000000
set_option maxHeartbeats 4000000
noncomputable def X36:Ctx:=⟨Tryz.f36,[],true⟩
noncomputable def L36_3:Code:=at_ Tryz.f36 [1,1,1,1,1,0,1,4,5]
def S36_3 (x1:List Int) (aX:Int × (List Int) × Bool) (bE:Int × (List Int) × Bool) (bP:Int × (List Int) × Bool):St:=⟨mkT 70 [(0,(.str (ByteArray.mk #[97,99,97]))),(1,(.sl 1 (List.map aN x1))),(6,(.hp 0 0)),(7,(.fn 1000059 [(.hp 0 0)])),(8,(.ref 2 1 0 0 3 .virt)),(21,(.int .i64 3)),(22,(.int .i64 3))],[(.row [(.sl 1 (List.map aN bP.2.1)),(.bool bP.2.2)]),(.arr 2 (List.map aU [(aX.1,(ByteArray.mk #[])),(bE.1,(ByteArray.mk #[])),(bP.1,(ByteArray.mk #[]))]) 0 0 false)]⟩
def aL8 (x1:List Int) (aX:Int × (List Int) × Bool) (bE:Int × (List Int) × Bool) (bP:Int × (List Int) × Bool):St:=⟨mkT 70 [(1,(.sl 1 (List.map aN x1))),(6,(.hp 0 0)),(8,(.ref 2 1 0 0 3 .virt))],[(.row [(.sl 1 (List.map aN bP.2.1)),(.bool bP.2.2)]),(.arr 2 (List.map aU [(aX.1,(ByteArray.mk #[])),(bE.1,(ByteArray.mk #[])),(bP.1,(ByteArray.mk #[]))]) 0 0 false)]⟩
def O36_3 (x1:List Int) (aX:Int × (List Int) × Bool) (bE:Int × (List Int) × Bool) (bP:Int × (List Int) × Bool) (y:(Unit)):GX:=.st (.exit 0) (aL8 x1 aX bE bP)
noncomputable def L36_2:Code:=at_ Tryz.f36 [1,1,1,1,1,0,1,4,5]
def S36_2 (x1:List Int) (aX:Int × (List Int) × Bool) (bE:Int × (List Int) × Bool):St:=⟨mkT 70 [(0,(.str (ByteArray.mk #[97,99,97]))),(1,(.sl 1 (List.map aN x1))),(6,(.hp 0 0)),(7,(.fn 1000059 [(.hp 0 0)])),(8,(.ref 2 1 0 0 2 .virt)),(21,(.int .i64 3)),(22,(.int .i64 2))],[(.row [(.sl 1 (List.map aN bE.2.1)),(.bool bE.2.2)]),(.arr 2 (List.map aU [(aX.1,(ByteArray.mk #[])),(bE.1,(ByteArray.mk #[]))]) 0 0 false)]⟩
def aLO (x1:List Int) (v36022_1:List Int) (v36022_2:Bool) (aJU:Ty5):St:=⟨mkT 70 [(1,(.sl 1 (List.map aN x1))),(6,(.hp 0 0)),(8,(.ref 2 1 0 0 aJU.length .virt))],[(.row [(.sl 1 (List.map aN v36022_1)),(.bool v36022_2)]),(.arr 2 (List.map aU aJU) 0 0 false)]⟩
def O36_2 (x1:List Int) (aX:Int × (List Int) × Bool) (bE:Int × (List Int) × Bool) (y:((List Int) × Bool × Ty5)):GX:=.st (.exit 0) (aLO x1 y.1 y.2.1 y.2.2)
noncomputable def L36_1:Code:=at_ Tryz.f36 [1,1,1,1,1,0,1,4,5]
def S36_1 (x1:List Int) (aX:Int × (List Int) × Bool):St:=⟨mkT 70 [(0,(.str (ByteArray.mk #[97,99,97]))),(1,(.sl 1 (List.map aN x1))),(6,(.hp 0 0)),(7,(.fn 1000059 [(.hp 0 0)])),(8,(.ref 2 1 0 0 1 .virt)),(21,(.int .i64 3)),(22,(.int .i64 1))],[(.row [(.sl 1 (List.map aN aX.2.1)),(.bool aX.2.2)]),(.arr 2 (List.map aU [(aX.1,(ByteArray.mk #[]))]) 0 0 false)]⟩
def aLU (x1:List Int) (v36012_1:List Int) (v36012_2:Bool) (aJV:Ty5):St:=⟨mkT 70 [(1,(.sl 1 (List.map aN x1))),(6,(.hp 0 0)),(8,(.ref 2 1 0 0 aJV.length .virt))],[(.row [(.sl 1 (List.map aN v36012_1)),(.bool v36012_2)]),(.arr 2 (List.map aU aJV) 0 0 false)]⟩
def O36_1 (x1:List Int) (aX:Int × (List Int) × Bool) (y:((List Int) × Bool × Ty5)):GX:=.st (.exit 0) (aLU x1 y.1 y.2.1 y.2.2)
noncomputable def L36_0:Code:=at_ Tryz.f36 [1,1,1,1,1,0,1,4,5]
def S36_0 (x1:List Int):St:=⟨mkT 70 [(0,(.str (ByteArray.mk #[97,99,97]))),(1,(.sl 1 (List.map aN x1))),(6,(.hp 0 0)),(7,(.fn 1000059 [(.hp 0 0)])),(8,.nils),(21,(.int .i64 3)),(22,(.int .i64 0))],[(.row [(.sl 1 (List.map aN x1)),(.bool false)])]⟩
def aHC (x1:List Int) (v36002_1:List Int) (v36002_2:Bool) (aJW:Ty5):St:=⟨mkT 70 [(1,(.sl 1 (List.map aN x1))),(6,(.hp 0 0)),(8,(.ref 2 1 0 0 aJW.length .virt))],[(.row [(.sl 1 (List.map aN v36002_1)),(.bool v36002_2)]),(.arr 2 (List.map aU aJW) 0 0 false)]⟩
def O36_0 (x1:List Int) (y:((List Int) × Bool × Ty5)):GX:=.st (.exit 0) (aHC x1 y.1 y.2.1 y.2.2)
def A36_0:Ans:=.norm 0 ⟨[(4,[(0,2)]),(5,[])],[],false,[],[]⟩
theorem zZ (x1:List Int) (aX:Int × (List Int) × Bool) (bE:Int × (List Int) × Bool) (bP:Int × (List Int) × Bool) (y:(Unit)):∀(k:Nat),dJ k x1 aX bE bP=some y→LT Tryz.prog X36 L36_3 (S36_3 x1 aX bE bP) (O36_3 x1 aX bE bP y)
 | 0,h=>by cases h
 | k+1,h=>by
  rw[dJ] at h
  obtain rfl:=osi h
  show LT _ _ _ _ (.st (.exit 0) (aL8 x1 aX bE bP))
  exact LT.done mixed (hs:=⟨[],[],false,[],[]⟩) (es:=(some ⟨[(1,[]),(6,[]),(8,[])],[⟨.tmp 6,[],none⟩,⟨.tmp 8,[],none⟩],false,[],[]⟩)) [df] [⟨(rfl:ltI 3 3=false)⟩] (by kernel_rfl) (fun s h=>by cases h)
theorem z7 (x1:List Int) (aX:Int × (List Int) × Bool) (bE:Int × (List Int) × Bool) (y:((List Int) × Bool × Ty5)):∀(k:Nat),dI k x1 aX bE=some y→LT Tryz.prog X36 L36_2 (S36_2 x1 aX bE) (O36_2 x1 aX bE y)
 | 0,h=>by cases h
 | k+1,h=>by
  rw[dI] at h
  obtain⟨bP,eL0,h⟩:=bsm h
  obtain⟨aJT,eL1,h⟩:=bsm h
  obtain rfl:=osi h
  show LT _ _ _ _ (.st (.exit 0) (aLO x1 bP.2.1 bP.2.2 [(aX.1,(ByteArray.mk #[])),(bE.1,(ByteArray.mk #[])),(bP.1,(ByteArray.mk #[]))]))
  exact LT.next mixed (hs:=⟨[(0,[]),(1,[]),(6,[]),(7,[]),(8,[]),(21,[]),(22,[])],[⟨.tmp 6,[],none⟩,⟨.tmp 8,[],none⟩],false,[],[]⟩) (es:=none) [dt,.call ⟨true,[]⟩ (.int .i64 1) [],dt,.call ⟨true,[]⟩ (.int .u64 bP.1) [(.row [(.sl 1 (List.map aN bP.2.1)),(.bool bP.2.2)])],.rows (List.map aU [(bP.1,(ByteArray.mk #[]))]),.n 3,.n 2,dt,.rows (List.map aU [(aX.1,(ByteArray.mk #[])),(bE.1,(ByteArray.mk #[])),(bP.1,(ByteArray.mk #[]))])] [⟨(by simp:(List.map aU [(aX.1,(ByteArray.mk #[])),(bE.1,(ByteArray.mk #[]))])++(List.map aU [(bP.1,(ByteArray.mk #[]))])=(List.map aU [(aX.1,(ByteArray.mk #[])),(bE.1,(ByteArray.mk #[])),(bP.1,(ByteArray.mk #[]))]))⟩,⟨(rfl:eqN 2 2=true)⟩,⟨(rfl:(List.map aU [(aX.1,(ByteArray.mk #[])),(bE.1,(ByteArray.mk #[]))]).length=2)⟩,⟨(rfl:bV (3*24)=true)⟩,⟨(rfl:2+(List.map aU [(bP.1,(ByteArray.mk #[]))]).length=3)⟩,⟨(bS aU (l:=[(bP.1,(ByteArray.mk #[]))]) (n:=1) rfl)⟩,⟨(b9 aU (Nat.le_refl 1):0+1≤(List.map aU [(bP.1,(ByteArray.mk #[]))]).length)⟩,⟨(dE k 1 bE.2.1 bE.2.2 _ eL0)⟩,⟨(rfl:ltI 0 1=true)⟩,⟨(fY)⟩,⟨(rfl:ltI 2 3=true)⟩] (by kernel_rfl) (zZ x1 aX bE bP _ k eL1)
theorem zU (x1:List Int) (aX:Int × (List Int) × Bool) (y:((List Int) × Bool × Ty5)):∀(k:Nat),dN k x1 aX=some y→LT Tryz.prog X36 L36_1 (S36_1 x1 aX) (O36_1 x1 aX y)
 | 0,h=>by cases h
 | k+1,h=>by
  rw[dN] at h
  obtain⟨bE,eL0,h⟩:=bsm h
  obtain⟨i7,eL1,h⟩:=bsm h
  obtain rfl:=osi h
  show LT _ _ _ _ (.st (.exit 0) (aLU x1 i7.1 i7.2.1 i7.2.2))
  exact LT.next mixed (hs:=⟨[(0,[]),(1,[]),(6,[]),(7,[]),(8,[]),(21,[]),(22,[])],[⟨.tmp 6,[],none⟩,⟨.tmp 8,[],none⟩],false,[],[]⟩) (es:=none) [dt,.call ⟨true,[]⟩ (.int .i64 4) [],dt,.call ⟨true,[]⟩ (.int .u64 bE.1) [(.row [(.sl 1 (List.map aN bE.2.1)),(.bool bE.2.2)])],.rows (List.map aU [(bE.1,(ByteArray.mk #[]))]),.n 2,.n 1,dt,.rows (List.map aU [(aX.1,(ByteArray.mk #[])),(bE.1,(ByteArray.mk #[]))])] [⟨(by simp:(List.map aU [(aX.1,(ByteArray.mk #[]))])++(List.map aU [(bE.1,(ByteArray.mk #[]))])=(List.map aU [(aX.1,(ByteArray.mk #[])),(bE.1,(ByteArray.mk #[]))]))⟩,⟨(rfl:eqN 1 1=true)⟩,⟨(rfl:(List.map aU [(aX.1,(ByteArray.mk #[]))]).length=1)⟩,⟨(rfl:bV (2*24)=true)⟩,⟨(rfl:1+(List.map aU [(bE.1,(ByteArray.mk #[]))]).length=2)⟩,⟨(bS aU (l:=[(bE.1,(ByteArray.mk #[]))]) (n:=1) rfl)⟩,⟨(b9 aU (Nat.le_refl 1):0+1≤(List.map aU [(bE.1,(ByteArray.mk #[]))]).length)⟩,⟨(dE k 4 aX.2.1 aX.2.2 _ eL0)⟩,⟨(rfl:ltI 0 4=true)⟩,⟨(sD)⟩,⟨(rfl:ltI 1 3=true)⟩] (by kernel_rfl) (z7 x1 aX bE _ k eL1)
theorem aAG (x1:List Int) (y:((List Int) × Bool × Ty5)):∀(k:Nat),dG k x1=some y→LT Tryz.prog X36 L36_0 (S36_0 x1) (O36_0 x1 y)
 | 0,h=>by cases h
 | k+1,h=>by
  rw[dG] at h
  obtain⟨aX,eL0,h⟩:=bsm h
  obtain⟨i8,eL1,h⟩:=bsm h
  obtain rfl:=osi h
  show LT _ _ _ _ (.st (.exit 0) (aHC x1 i8.1 i8.2.1 i8.2.2))
  exact LT.next mixed (hs:=⟨[(0,[]),(1,[]),(6,[]),(7,[]),(8,[]),(21,[]),(22,[])],[⟨.tmp 6,[],none⟩,⟨.tmp 8,[],none⟩],false,[],[]⟩) (es:=none) [dt,.call ⟨true,[]⟩ (.int .i64 1) [],dt,.call ⟨true,[]⟩ (.int .u64 aX.1) [(.row [(.sl 1 (List.map aN aX.2.1)),(.bool aX.2.2)])],.rows (List.map aU [(aX.1,(ByteArray.mk #[]))]),.n 1] [⟨(rfl:bV (1*24)=true)⟩,⟨(rfl:(List.map aU [(aX.1,(ByteArray.mk #[]))]).length=1)⟩,⟨(bS aU (l:=[(aX.1,(ByteArray.mk #[]))]) (n:=1) rfl)⟩,⟨(b9 aU (Nat.le_refl 1):0+1≤(List.map aU [(aX.1,(ByteArray.mk #[]))]).length)⟩,⟨(dE k 1 x1 false _ eL0)⟩,⟨(rfl:ltI 0 1=true)⟩,⟨(fY)⟩,⟨(rfl:ltI 0 3=true)⟩] (by kernel_rfl) (zU x1 aX _ k eL1)
theorem tB (k:Nat) (x1:List Int) (r:Ty5 × Int) (h:j9 k x1=some r):Tri Tryz.prog 36 [(.str (ByteArray.mk #[97,99,97])),(.sl 1 (List.map aN x1))] [] (.tup [(.sl 2 (List.map aU r.1)),(.int .i64 r.2)]) []:=by
 unfold j9 at h
 obtain⟨x3,e0,h⟩:=bsm h
 let u1:List Ans:=[.call ⟨true,[]⟩ (.bool (eqS (ByteArray.mk #[]) (ByteArray.mk #[]))) [],df,.norm 2 ⟨[(0,[]),(1,[]),(6,[]),(7,[]),(8,[]),(21,[]),(22,[])],[⟨.tmp 6,[],none⟩],false,[],[]⟩,.out (.st .normal (aHC x1 x3.1 x3.2.1 x3.2.2))]
 let w2:List Prf:=[⟨(LT.block (aAG x1 _ k e0))⟩,⟨(nF (gJ (ByteArray.mk #[])))⟩,⟨(tV)⟩]
 by_cases c2:x3.2.1=true
 · rw[if_pos c2] at h
   obtain rfl:=osi h
   exact Tri.of (x:=X36) mixed qH (u1++[dt,dt,dt,dt,dt,dt,dt,dt,dt,dt,dt,dt,A36_0]) ([⟨rT⟩,⟨rT⟩,⟨rT⟩,⟨rT⟩,⟨rT⟩,⟨c2⟩,⟨c2⟩,⟨c2⟩,⟨c2⟩,⟨c2⟩,⟨c2⟩,⟨c2⟩]++w2) (by kernel_rfl)
 rw[if_neg c2] at h;replace c2:=eqf c2
 let u3:List Ans:=u1++[df,df,df,df,df,.n x3.1.length,df,df]
 let w4:List Prf:=[⟨c2⟩,⟨c2⟩,⟨(bK aN x3.1)⟩,⟨c2⟩,⟨c2⟩,⟨c2⟩,⟨c2⟩,⟨c2⟩]++w2
 by_cases c3:ltI 0 (nI x3.1.length)=true
 · rw[if_pos c3] at h
   obtain rfl:=osi h
   exact Tri.of (x:=X36) mixed qH (u3++[dt,dt,dt,dt,dt,A36_0]) ([⟨rT⟩,⟨c3⟩,⟨c3⟩,⟨c3⟩,⟨c3⟩]++w4) (by kernel_rfl)
 rw[if_neg c3] at h;replace c3:=eqf c3
 let w6:List Prf:=[⟨c3⟩,⟨c3⟩,⟨(bK aN x1)⟩,⟨c3⟩,⟨c3⟩]++w4
 by_cases c4:ltI 4000 (nI x1.length)=true
 · rw[if_pos c4] at h
   obtain rfl:=osi h
   exact Tri.of (x:=X36) mixed qH (u3++[df,df,.n x1.length,df,df,dt,A36_0]) ([⟨c4⟩]++w6) (by kernel_rfl)
 rw[if_neg c4] at h;replace c4:=eqf c4
 obtain rfl:=osi h
 exact Tri.of (x:=X36) mixed qH (u3++[df,df,.n x1.length,df,df,df,.rows (List.map aU x3.2.2)]) ([⟨(bS aU (l:=x3.2.2) (n:=x3.2.2.length) rfl)⟩,⟨(b9 aU (Nat.le_refl x3.2.2.length):0+x3.2.2.length≤(List.map aU x3.2.2).length)⟩,⟨c4⟩]++w6) (by kernel_rfl)
end Go.Ws

namespace Go.Ws
open Go.Proofs
set_option linter.unusedSimpArgs false
set_option linter.unusedVariables false
set_option maxRecDepth 1000000
set_option maxHeartbeats 4000000
noncomputable def X27:Ctx:=⟨Tryz.f27,[],true⟩
theorem sG (k:Nat) (x1:List Int) (r:Int × Int × Int × Int) (h:gH k x1=some r):Tri Tryz.prog 27 [(.sl 1 (List.map aN x1))] [] (.tup [(.agg [(.int .i64 r.1),(.int .i64 r.2.1),(.int .u8 r.2.2.1)]),(.int .i64 r.2.2.2)]) []:=by
 unfold gH at h
 obtain⟨x2,e0,h⟩:=bsm h
 by_cases c1:eqI x2.2 0=true
 · rw[if_pos c1] at h
   by_cases c2:inI 1 x2.1.length=true
   · rw[if_pos c2] at h
     obtain⟨x3,e3,h⟩:=bsm h
     by_cases c4:inI 0 x2.1.length=true
     · rw[if_pos c4] at h
       obtain⟨x4,e5,h⟩:=bsm h
       by_cases c6:inI 2 x2.1.length=true
       · rw[if_pos c6] at h
         obtain⟨x5,e7,h⟩:=bsm h
         let u3:List Ans:=[.call ⟨true,[]⟩ (.tup [(.sl 2 (List.map aU x2.1)),(.int .i64 x2.2)]) [],df,.n x2.1.length,.row [(.int .u64 x3.1)],.n x2.1.length,.row [(.int .u64 x4.1)],.n x2.1.length,.row [(.int .u64 x5.1)],.call ⟨true,[]⟩ (.bool (bN (conv .i64 x3.1) (conv .i64 x4.1) (conv .u8 x5.1))) []]
         let w4:List Prf:=[⟨(eT (conv .i64 x3.1) (conv .i64 x4.1) (conv .u8 x5.1))⟩,⟨(cL (e:=aU) e7 2 0 1 (by decide))⟩,⟨c6⟩,⟨(bK aU x2.1)⟩,⟨(cL (e:=aU) e5 2 0 1 (by decide))⟩,⟨c4⟩,⟨(bK aU x2.1)⟩,⟨(cL (e:=aU) e3 2 0 1 (by decide))⟩,⟨c2⟩,⟨(bK aU x2.1)⟩,⟨(nF c1)⟩,⟨(tB k x1 _ e0)⟩]
         by_cases c8:(bN (conv .i64 x3.1) (conv .i64 x4.1) (conv .u8 x5.1))=true
         · rw[if_pos c8] at h
           obtain rfl:=osi h
           exact Tri.of (x:=X27) mixed aH2 (u3++[df]) ([⟨(nF c8)⟩]++w4) (by kernel_rfl)
         rw[if_neg c8] at h;replace c8:=eqf c8
         obtain rfl:=osi h
         exact Tri.of (x:=X27) mixed aH2 (u3++[dt]) ([⟨(nT c8)⟩]++w4) (by kernel_rfl)
       rw[if_neg c6] at h;replace c6:=eqf c6
       cases h
     rw[if_neg c4] at h;replace c4:=eqf c4
     cases h
   rw[if_neg c2] at h;replace c2:=eqf c2
   cases h
 rw[if_neg c1] at h;replace c1:=eqf c1
 obtain rfl:=osi h
 exact Tri.of (x:=X27) mixed aH2 [.call ⟨true,[]⟩ (.tup [(.sl 2 (List.map aU x2.1)),(.int .i64 x2.2)]) [],dt] [⟨(nT c1)⟩,⟨(tB k x1 _ e0)⟩] (by kernel_rfl)
end Go.Ws

namespace Go.Ws
open Go.Proofs
set_option linter.unusedSimpArgs false
set_option linter.unusedVariables false
set_option maxRecDepth 1000000
set_option maxHeartbeats 4000000
noncomputable def X32:Ctx:=⟨Tryz.f32,[],true⟩
theorem aG3 (x1:Int):Tri Tryz.prog 32 [(.int .i64 x1)] [] (.int .u64 (gU x1)) []:=by
 obtain⟨r,h⟩:∃r,gU x1=r:=⟨_,rfl⟩
 try rw[h]
 unfold gU at h
 obtain rfl:=h
 exact Tri.of (x:=X32) mixed facts32 [] [] (by kernel_rfl)
end Go.Ws

namespace Go.Ws
open Go.Proofs
set_option linter.unusedSimpArgs false
set_option linter.unusedVariables false
set_option maxRecDepth 1000000
set_option maxHeartbeats 4000000
theorem zJ:Tri Tryz.prog 77 [(.str (ByteArray.mk #[97,98,97,100])),(.str (ByteArray.mk #[97,98,99,100,116]))] [] (.str (ByteArray.mk #[])) []:=trim_tri
end Go.Ws

namespace Go.Ws
open Go.Proofs
set_option linter.unusedSimpArgs false
set_option linter.unusedVariables false
set_option maxRecDepth 1000000
set_option maxHeartbeats 4000000
noncomputable def X53_1:Ctx:=⟨Tryz.f53,[],false⟩
theorem q9:Tri Tryz.prog 53 [(.str (ByteArray.mk #[97,98,97,100]))] [] (.bool (eqS (ByteArray.mk #[]) (ByteArray.mk #[]))) []:=by
 obtain⟨r,h⟩:∃r,qL=r:=⟨_,rfl⟩
 try rw[h]
 unfold qL at h
 obtain rfl:=h
 exact Tri.of (x:=X53_1) mixed aLM [dt,dt,.call ⟨true,[]⟩ (.str (ByteArray.mk #[])) [],dt,dt,.norm 0 ⟨[(2,[])],[],false,[],[]⟩] [⟨(nT (rfl:ltI 100 4=false))⟩,⟨(nT (rfl:ltI 100 4=false))⟩,⟨(zJ)⟩,⟨(nT (rfl:ltI 100 4=false))⟩,⟨(nT (rfl:ltI 100 4=false))⟩] (by kernel_rfl)
end Go.Ws

namespace Go.Ws
open Go.Proofs
set_option linter.unusedSimpArgs false
set_option linter.unusedVariables false
set_option maxRecDepth 1000000
set_option maxHeartbeats 4000000
noncomputable def X54_2:Ctx:=⟨Tryz.f54,[],false⟩
theorem sC:Tri Tryz.prog 54 [(.int .u8 98)] [] (.int .i64 2) []:=by
 obtain⟨r,h⟩:∃r,sB=r:=⟨_,rfl⟩
 try rw[h]
 unfold sB at h
 obtain rfl:=h
 exact Tri.of (x:=X54_2) mixed aCJ [df,.norm 0 ⟨[(2,[])],[],false,[],[]⟩] [⟨(rfl:eqI 98 116=false)⟩] (by kernel_rfl)
end Go.Ws

namespace Go.Ws
open Go.Proofs
set_option linter.unusedSimpArgs false
set_option linter.unusedVariables false
set_option maxRecDepth 1000000
set_option maxHeartbeats 4000000
noncomputable def X55_3 (x2:List Int):Ctx:=⟨Tryz.f55,[(.arr 1 (List.map aN x2) 0 0 false)],false⟩
noncomputable def L55_3_2:Code:=at_ Tryz.f55 [1,0,1,4,5]
def S55_3_2 (x1:Int) (x2:List Int):St:=⟨mkT 23 [(0,(.ref 1 0 2 0 (((x2++[conv .u8 (aE .u64 x1 8)])++[conv .u8 (aE .u64 x1 0)]).length) .virt)),(1,(.int .u64 x1)),(7,(.int .i64 (-8)))],[(.arr 1 (List.map aN ((x2++[conv .u8 (aE .u64 x1 8)])++[conv .u8 (aE .u64 x1 0)])) 2 0 false)]⟩
def aGC (x1:Int) (x2:List Int):St:=⟨mkT 23 [(0,(.ref 1 0 2 0 (((x2++[conv .u8 (aE .u64 x1 8)])++[conv .u8 (aE .u64 x1 0)]).length) .virt))],[(.arr 1 (List.map aN ((x2++[conv .u8 (aE .u64 x1 8)])++[conv .u8 (aE .u64 x1 0)])) 2 0 false)]⟩
def O55_3_2 (x1:Int) (x2:List Int) (y:(Unit)):GX:=.st (.exit 0) (aGC x1 x2)
noncomputable def L55_3_1:Code:=at_ Tryz.f55 [1,0,1,4,5]
def S55_3_1 (x1:Int) (x2:List Int):St:=⟨mkT 23 [(0,(.ref 1 0 1 0 ((x2++[conv .u8 (aE .u64 x1 8)]).length) .virt)),(1,(.int .u64 x1)),(7,(.int .i64 0))],[(.arr 1 (List.map aN (x2++[conv .u8 (aE .u64 x1 8)])) 1 0 false)]⟩
def aE9 (x1:Int) (x2:List Int):St:=⟨mkT 23 [(0,(.ref 1 0 2 0 (((x2++[conv .u8 (aE .u64 x1 8)])++[conv .u8 (aE .u64 x1 0)]).length) .virt))],[(.arr 1 (List.map aN ((x2++[conv .u8 (aE .u64 x1 8)])++[conv .u8 (aE .u64 x1 0)])) 2 0 false)]⟩
def O55_3_1 (x1:Int) (x2:List Int) (y:(Unit)):GX:=.st (.exit 0) (aE9 x1 x2)
noncomputable def L55_3_0:Code:=at_ Tryz.f55 [1,0,1,4,5]
def S55_3_0 (x1:Int) (x2:List Int):St:=⟨mkT 23 [(0,(.ref 1 0 0 0 x2.length .virt)),(1,(.int .u64 x1)),(7,(.int .i64 8))],[(.arr 1 (List.map aN x2) 0 0 false)]⟩
def aA1 (x1:Int) (x2:List Int):St:=⟨mkT 23 [(0,(.ref 1 0 2 0 (((x2++[conv .u8 (aE .u64 x1 8)])++[conv .u8 (aE .u64 x1 0)]).length) .virt))],[(.arr 1 (List.map aN ((x2++[conv .u8 (aE .u64 x1 8)])++[conv .u8 (aE .u64 x1 0)])) 2 0 false)]⟩
def O55_3_0 (x1:Int) (x2:List Int) (y:(Unit)):GX:=.st (.exit 0) (aA1 x1 x2)
theorem uU (x1:Int) (x2:List Int) (y:(Unit)):∀(k:Nat),eG k x1 x2=some y→LT Tryz.prog (X55_3 x2) L55_3_2 (S55_3_2 x1 x2) (O55_3_2 x1 x2 y)
 | 0,h=>by cases h
 | k+1,h=>by
  rw[eG] at h
  obtain rfl:=osi h
  show LT _ _ _ _ (.st (.exit 0) (aGC x1 x2))
  exact LT.done mixed (hs:=⟨[],[],false,[],[]⟩) (es:=(some ⟨[(0,[])],[],false,[],[]⟩)) [df] [⟨(nF (rfl:ltI (-8) 0=true))⟩] (by kernel_rfl) (fun s h=>by cases h)
theorem v7 (x1:Int) (x2:List Int) (y:(Unit)):∀(k:Nat),eF k x1 x2=some y→LT Tryz.prog (X55_3 x2) L55_3_1 (S55_3_1 x1 x2) (O55_3_1 x1 x2 y)
 | 0,h=>by cases h
 | k+1,h=>by
  rw[eF] at h
  by_cases cL0:bV ((((x2++[conv .u8 (aE .u64 x1 8)])++[conv .u8 (aE .u64 x1 0)]).length)*1)=true
  · rw[if_pos cL0] at h
    obtain⟨aNO,eL1,h⟩:=bsm h
    obtain rfl:=osi h
    show LT _ _ _ _ (.st (.exit 0) (aE9 x1 x2))
    exact LT.next mixed (hs:=⟨[(0,[]),(1,[]),(7,[])],[],false,[],[]⟩) (es:=none) [dt,.rows (List.map aN [conv .u8 (aE .u64 x1 0)]),.n (((x2++[conv .u8 (aE .u64 x1 8)])++[conv .u8 (aE .u64 x1 0)]).length),.n ((x2++[conv .u8 (aE .u64 x1 8)]).length),dt,.rows (List.map aN ((x2++[conv .u8 (aE .u64 x1 8)])++[conv .u8 (aE .u64 x1 0)]))] [⟨(dF aN (x2++[conv .u8 (aE .u64 x1 8)]) [conv .u8 (aE .u64 x1 0)])⟩,⟨(cX ((x2++[conv .u8 (aE .u64 x1 8)]).length))⟩,⟨(bK aN (x2++[conv .u8 (aE .u64 x1 8)]))⟩,⟨cL0⟩,⟨(by simp only[wl,List.length_map,List.map_nil,List.map_cons]<;>omega:((x2++[conv .u8 (aE .u64 x1 8)]).length)+(List.map aN [conv .u8 (aE .u64 x1 0)]).length=((x2++[conv .u8 (aE .u64 x1 8)])++[conv .u8 (aE .u64 x1 0)]).length)⟩,⟨(bS aN (l:=[conv .u8 (aE .u64 x1 0)]) (n:=1) rfl)⟩,⟨(b9 aN (Nat.le_refl 1):0+1≤(List.map aN [conv .u8 (aE .u64 x1 0)]).length)⟩,⟨(nT (rfl:ltI 0 0=false))⟩] (by kernel_rfl) (uU x1 x2 _ k eL1)
  rw[if_neg cL0] at h;replace cL0:=eqf cL0
  cases h
theorem uZ (x1:Int) (x2:List Int) (y:(Unit)):∀(k:Nat),dT k x1 x2=some y→LT Tryz.prog (X55_3 x2) L55_3_0 (S55_3_0 x1 x2) (O55_3_0 x1 x2 y)
 | 0,h=>by cases h
 | k+1,h=>by
  rw[dT] at h
  by_cases cL0:bV (((x2++[conv .u8 (aE .u64 x1 8)]).length)*1)=true
  · rw[if_pos cL0] at h
    obtain⟨aNP,eL1,h⟩:=bsm h
    obtain rfl:=osi h
    show LT _ _ _ _ (.st (.exit 0) (aA1 x1 x2))
    exact LT.next mixed (hs:=⟨[(0,[]),(1,[]),(7,[])],[],false,[],[]⟩) (es:=none) [dt,.rows (List.map aN [conv .u8 (aE .u64 x1 8)]),.n ((x2++[conv .u8 (aE .u64 x1 8)]).length),.n x2.length,dt,.rows (List.map aN (x2++[conv .u8 (aE .u64 x1 8)]))] [⟨(dF aN x2 [conv .u8 (aE .u64 x1 8)])⟩,⟨(cX x2.length)⟩,⟨(bK aN x2)⟩,⟨cL0⟩,⟨(by simp only[wl,List.length_map,List.map_nil,List.map_cons]<;>omega:x2.length+(List.map aN [conv .u8 (aE .u64 x1 8)]).length=(x2++[conv .u8 (aE .u64 x1 8)]).length)⟩,⟨(bS aN (l:=[conv .u8 (aE .u64 x1 8)]) (n:=1) rfl)⟩,⟨(b9 aN (Nat.le_refl 1):0+1≤(List.map aN [conv .u8 (aE .u64 x1 8)]).length)⟩,⟨(nT (rfl:ltI 8 0=false))⟩] (by kernel_rfl) (v7 x1 x2 _ k eL1)
  rw[if_neg cL0] at h;replace cL0:=eqf cL0
  cases h
theorem aBB (k:Nat) (x1:Int) (x2:List Int) (r:Unit) (h:iI k x1 x2=some r):Tri Tryz.prog 55 [(.ref 1 0 0 0 x2.length .virt),(.int .u64 x1),(.int .i64 2)] [(.arr 1 (List.map aN x2) 0 0 false)] (.ref 1 0 2 0 (((x2++[conv .u8 (aE .u64 x1 8)])++[conv .u8 (aE .u64 x1 0)]).length) .virt) [(.arr 1 (List.map aN ((x2++[conv .u8 (aE .u64 x1 8)])++[conv .u8 (aE .u64 x1 0)])) 2 0 false)]:=by
 unfold iI at h
 obtain⟨x4,e0,h⟩:=bsm h
 obtain rfl:=osi h
 exact Tri.of (x:=(X55_3 x2)) mixed yU [.norm 2 ⟨[(0,[]),(1,[]),(7,[])],[],false,[],[]⟩,.out (.st .normal (aA1 x1 x2)),.norm 0 ⟨[(6,[])],[],false,[],[]⟩] [⟨(LT.block (uZ x1 x2 _ k e0))⟩] (by kernel_rfl)
end Go.Ws

namespace Go.Ws
open Go.Proofs
set_option linter.unusedSimpArgs false
set_option linter.unusedVariables false
set_option maxRecDepth 1000000
set_option maxHeartbeats 4000000
noncomputable def X54_3:Ctx:=⟨Tryz.f54,[],false⟩
theorem sE:Tri Tryz.prog 54 [(.int .u8 100)] [] (.int .i64 8) []:=by
 obtain⟨r,h⟩:∃r,rO=r:=⟨_,rfl⟩
 try rw[h]
 unfold rO at h
 obtain rfl:=h
 exact Tri.of (x:=X54_3) mixed aCJ [df,.norm 0 ⟨[(2,[])],[],false,[],[]⟩] [⟨(rfl:eqI 100 116=false)⟩] (by kernel_rfl)
end Go.Ws

namespace Go.Ws
open Go.Proofs
set_option linter.unusedSimpArgs false
set_option linter.unusedVariables false
set_option maxRecDepth 1000000
set_option maxHeartbeats 4000000
noncomputable def w9 (x2:List Int):Ctx:=⟨Tryz.f55,[(.arr 1 (List.map aN x2) 0 0 false)],false⟩
noncomputable def L55_4_8:Code:=at_ Tryz.f55 [1,0,1,4,5]
def S55_4_8 (x1:Int) (x2:List Int):St:=⟨mkT 23 [(0,(.ref 1 0 8 0 (((((((((x2++[conv .u8 (aE .u64 x1 56)])++[conv .u8 (aE .u64 x1 48)])++[conv .u8 (aE .u64 x1 40)])++[conv .u8 (aE .u64 x1 32)])++[conv .u8 (aE .u64 x1 24)])++[conv .u8 (aE .u64 x1 16)])++[conv .u8 (aE .u64 x1 8)])++[conv .u8 (aE .u64 x1 0)]).length) .virt)),(1,(.int .u64 x1)),(7,(.int .i64 (-8)))],[(.arr 1 (List.map aN ((((((((x2++[conv .u8 (aE .u64 x1 56)])++[conv .u8 (aE .u64 x1 48)])++[conv .u8 (aE .u64 x1 40)])++[conv .u8 (aE .u64 x1 32)])++[conv .u8 (aE .u64 x1 24)])++[conv .u8 (aE .u64 x1 16)])++[conv .u8 (aE .u64 x1 8)])++[conv .u8 (aE .u64 x1 0)])) 8 0 false)]⟩
def aFK (x1:Int) (x2:List Int):St:=⟨mkT 23 [(0,(.ref 1 0 8 0 (((((((((x2++[conv .u8 (aE .u64 x1 56)])++[conv .u8 (aE .u64 x1 48)])++[conv .u8 (aE .u64 x1 40)])++[conv .u8 (aE .u64 x1 32)])++[conv .u8 (aE .u64 x1 24)])++[conv .u8 (aE .u64 x1 16)])++[conv .u8 (aE .u64 x1 8)])++[conv .u8 (aE .u64 x1 0)]).length) .virt))],[(.arr 1 (List.map aN ((((((((x2++[conv .u8 (aE .u64 x1 56)])++[conv .u8 (aE .u64 x1 48)])++[conv .u8 (aE .u64 x1 40)])++[conv .u8 (aE .u64 x1 32)])++[conv .u8 (aE .u64 x1 24)])++[conv .u8 (aE .u64 x1 16)])++[conv .u8 (aE .u64 x1 8)])++[conv .u8 (aE .u64 x1 0)])) 8 0 false)]⟩
def O55_4_8 (x1:Int) (x2:List Int) (y:(Unit)):GX:=.st (.exit 0) (aFK x1 x2)
noncomputable def L55_4_7:Code:=at_ Tryz.f55 [1,0,1,4,5]
def S55_4_7 (x1:Int) (x2:List Int):St:=⟨mkT 23 [(0,(.ref 1 0 7 0 ((((((((x2++[conv .u8 (aE .u64 x1 56)])++[conv .u8 (aE .u64 x1 48)])++[conv .u8 (aE .u64 x1 40)])++[conv .u8 (aE .u64 x1 32)])++[conv .u8 (aE .u64 x1 24)])++[conv .u8 (aE .u64 x1 16)])++[conv .u8 (aE .u64 x1 8)]).length) .virt)),(1,(.int .u64 x1)),(7,(.int .i64 0))],[(.arr 1 (List.map aN (((((((x2++[conv .u8 (aE .u64 x1 56)])++[conv .u8 (aE .u64 x1 48)])++[conv .u8 (aE .u64 x1 40)])++[conv .u8 (aE .u64 x1 32)])++[conv .u8 (aE .u64 x1 24)])++[conv .u8 (aE .u64 x1 16)])++[conv .u8 (aE .u64 x1 8)])) 7 0 false)]⟩
def aFF (x1:Int) (x2:List Int):St:=⟨mkT 23 [(0,(.ref 1 0 8 0 (((((((((x2++[conv .u8 (aE .u64 x1 56)])++[conv .u8 (aE .u64 x1 48)])++[conv .u8 (aE .u64 x1 40)])++[conv .u8 (aE .u64 x1 32)])++[conv .u8 (aE .u64 x1 24)])++[conv .u8 (aE .u64 x1 16)])++[conv .u8 (aE .u64 x1 8)])++[conv .u8 (aE .u64 x1 0)]).length) .virt))],[(.arr 1 (List.map aN ((((((((x2++[conv .u8 (aE .u64 x1 56)])++[conv .u8 (aE .u64 x1 48)])++[conv .u8 (aE .u64 x1 40)])++[conv .u8 (aE .u64 x1 32)])++[conv .u8 (aE .u64 x1 24)])++[conv .u8 (aE .u64 x1 16)])++[conv .u8 (aE .u64 x1 8)])++[conv .u8 (aE .u64 x1 0)])) 8 0 false)]⟩
def O55_4_7 (x1:Int) (x2:List Int) (y:(Unit)):GX:=.st (.exit 0) (aFF x1 x2)
noncomputable def L55_4_6:Code:=at_ Tryz.f55 [1,0,1,4,5]
def S55_4_6 (x1:Int) (x2:List Int):St:=⟨mkT 23 [(0,(.ref 1 0 6 0 (((((((x2++[conv .u8 (aE .u64 x1 56)])++[conv .u8 (aE .u64 x1 48)])++[conv .u8 (aE .u64 x1 40)])++[conv .u8 (aE .u64 x1 32)])++[conv .u8 (aE .u64 x1 24)])++[conv .u8 (aE .u64 x1 16)]).length) .virt)),(1,(.int .u64 x1)),(7,(.int .i64 8))],[(.arr 1 (List.map aN ((((((x2++[conv .u8 (aE .u64 x1 56)])++[conv .u8 (aE .u64 x1 48)])++[conv .u8 (aE .u64 x1 40)])++[conv .u8 (aE .u64 x1 32)])++[conv .u8 (aE .u64 x1 24)])++[conv .u8 (aE .u64 x1 16)])) 6 0 false)]⟩
def aFZ (x1:Int) (x2:List Int):St:=⟨mkT 23 [(0,(.ref 1 0 8 0 (((((((((x2++[conv .u8 (aE .u64 x1 56)])++[conv .u8 (aE .u64 x1 48)])++[conv .u8 (aE .u64 x1 40)])++[conv .u8 (aE .u64 x1 32)])++[conv .u8 (aE .u64 x1 24)])++[conv .u8 (aE .u64 x1 16)])++[conv .u8 (aE .u64 x1 8)])++[conv .u8 (aE .u64 x1 0)]).length) .virt))],[(.arr 1 (List.map aN ((((((((x2++[conv .u8 (aE .u64 x1 56)])++[conv .u8 (aE .u64 x1 48)])++[conv .u8 (aE .u64 x1 40)])++[conv .u8 (aE .u64 x1 32)])++[conv .u8 (aE .u64 x1 24)])++[conv .u8 (aE .u64 x1 16)])++[conv .u8 (aE .u64 x1 8)])++[conv .u8 (aE .u64 x1 0)])) 8 0 false)]⟩
def O55_4_6 (x1:Int) (x2:List Int) (y:(Unit)):GX:=.st (.exit 0) (aFZ x1 x2)
noncomputable def L55_4_5:Code:=at_ Tryz.f55 [1,0,1,4,5]
def S55_4_5 (x1:Int) (x2:List Int):St:=⟨mkT 23 [(0,(.ref 1 0 5 0 ((((((x2++[conv .u8 (aE .u64 x1 56)])++[conv .u8 (aE .u64 x1 48)])++[conv .u8 (aE .u64 x1 40)])++[conv .u8 (aE .u64 x1 32)])++[conv .u8 (aE .u64 x1 24)]).length) .virt)),(1,(.int .u64 x1)),(7,(.int .i64 16))],[(.arr 1 (List.map aN (((((x2++[conv .u8 (aE .u64 x1 56)])++[conv .u8 (aE .u64 x1 48)])++[conv .u8 (aE .u64 x1 40)])++[conv .u8 (aE .u64 x1 32)])++[conv .u8 (aE .u64 x1 24)])) 5 0 false)]⟩
def aEV (x1:Int) (x2:List Int):St:=⟨mkT 23 [(0,(.ref 1 0 8 0 (((((((((x2++[conv .u8 (aE .u64 x1 56)])++[conv .u8 (aE .u64 x1 48)])++[conv .u8 (aE .u64 x1 40)])++[conv .u8 (aE .u64 x1 32)])++[conv .u8 (aE .u64 x1 24)])++[conv .u8 (aE .u64 x1 16)])++[conv .u8 (aE .u64 x1 8)])++[conv .u8 (aE .u64 x1 0)]).length) .virt))],[(.arr 1 (List.map aN ((((((((x2++[conv .u8 (aE .u64 x1 56)])++[conv .u8 (aE .u64 x1 48)])++[conv .u8 (aE .u64 x1 40)])++[conv .u8 (aE .u64 x1 32)])++[conv .u8 (aE .u64 x1 24)])++[conv .u8 (aE .u64 x1 16)])++[conv .u8 (aE .u64 x1 8)])++[conv .u8 (aE .u64 x1 0)])) 8 0 false)]⟩
def O55_4_5 (x1:Int) (x2:List Int) (y:(Unit)):GX:=.st (.exit 0) (aEV x1 x2)
noncomputable def L55_4_4:Code:=at_ Tryz.f55 [1,0,1,4,5]
def S55_4_4 (x1:Int) (x2:List Int):St:=⟨mkT 23 [(0,(.ref 1 0 4 0 (((((x2++[conv .u8 (aE .u64 x1 56)])++[conv .u8 (aE .u64 x1 48)])++[conv .u8 (aE .u64 x1 40)])++[conv .u8 (aE .u64 x1 32)]).length) .virt)),(1,(.int .u64 x1)),(7,(.int .i64 24))],[(.arr 1 (List.map aN ((((x2++[conv .u8 (aE .u64 x1 56)])++[conv .u8 (aE .u64 x1 48)])++[conv .u8 (aE .u64 x1 40)])++[conv .u8 (aE .u64 x1 32)])) 4 0 false)]⟩
def aF9 (x1:Int) (x2:List Int):St:=⟨mkT 23 [(0,(.ref 1 0 8 0 (((((((((x2++[conv .u8 (aE .u64 x1 56)])++[conv .u8 (aE .u64 x1 48)])++[conv .u8 (aE .u64 x1 40)])++[conv .u8 (aE .u64 x1 32)])++[conv .u8 (aE .u64 x1 24)])++[conv .u8 (aE .u64 x1 16)])++[conv .u8 (aE .u64 x1 8)])++[conv .u8 (aE .u64 x1 0)]).length) .virt))],[(.arr 1 (List.map aN ((((((((x2++[conv .u8 (aE .u64 x1 56)])++[conv .u8 (aE .u64 x1 48)])++[conv .u8 (aE .u64 x1 40)])++[conv .u8 (aE .u64 x1 32)])++[conv .u8 (aE .u64 x1 24)])++[conv .u8 (aE .u64 x1 16)])++[conv .u8 (aE .u64 x1 8)])++[conv .u8 (aE .u64 x1 0)])) 8 0 false)]⟩
def O55_4_4 (x1:Int) (x2:List Int) (y:(Unit)):GX:=.st (.exit 0) (aF9 x1 x2)
noncomputable def L55_4_3:Code:=at_ Tryz.f55 [1,0,1,4,5]
def S55_4_3 (x1:Int) (x2:List Int):St:=⟨mkT 23 [(0,(.ref 1 0 3 0 ((((x2++[conv .u8 (aE .u64 x1 56)])++[conv .u8 (aE .u64 x1 48)])++[conv .u8 (aE .u64 x1 40)]).length) .virt)),(1,(.int .u64 x1)),(7,(.int .i64 32))],[(.arr 1 (List.map aN (((x2++[conv .u8 (aE .u64 x1 56)])++[conv .u8 (aE .u64 x1 48)])++[conv .u8 (aE .u64 x1 40)])) 3 0 false)]⟩
def aGB (x1:Int) (x2:List Int):St:=⟨mkT 23 [(0,(.ref 1 0 8 0 (((((((((x2++[conv .u8 (aE .u64 x1 56)])++[conv .u8 (aE .u64 x1 48)])++[conv .u8 (aE .u64 x1 40)])++[conv .u8 (aE .u64 x1 32)])++[conv .u8 (aE .u64 x1 24)])++[conv .u8 (aE .u64 x1 16)])++[conv .u8 (aE .u64 x1 8)])++[conv .u8 (aE .u64 x1 0)]).length) .virt))],[(.arr 1 (List.map aN ((((((((x2++[conv .u8 (aE .u64 x1 56)])++[conv .u8 (aE .u64 x1 48)])++[conv .u8 (aE .u64 x1 40)])++[conv .u8 (aE .u64 x1 32)])++[conv .u8 (aE .u64 x1 24)])++[conv .u8 (aE .u64 x1 16)])++[conv .u8 (aE .u64 x1 8)])++[conv .u8 (aE .u64 x1 0)])) 8 0 false)]⟩
def O55_4_3 (x1:Int) (x2:List Int) (y:(Unit)):GX:=.st (.exit 0) (aGB x1 x2)
noncomputable def L55_4_2:Code:=at_ Tryz.f55 [1,0,1,4,5]
def S55_4_2 (x1:Int) (x2:List Int):St:=⟨mkT 23 [(0,(.ref 1 0 2 0 (((x2++[conv .u8 (aE .u64 x1 56)])++[conv .u8 (aE .u64 x1 48)]).length) .virt)),(1,(.int .u64 x1)),(7,(.int .i64 40))],[(.arr 1 (List.map aN ((x2++[conv .u8 (aE .u64 x1 56)])++[conv .u8 (aE .u64 x1 48)])) 2 0 false)]⟩
def aFB (x1:Int) (x2:List Int):St:=⟨mkT 23 [(0,(.ref 1 0 8 0 (((((((((x2++[conv .u8 (aE .u64 x1 56)])++[conv .u8 (aE .u64 x1 48)])++[conv .u8 (aE .u64 x1 40)])++[conv .u8 (aE .u64 x1 32)])++[conv .u8 (aE .u64 x1 24)])++[conv .u8 (aE .u64 x1 16)])++[conv .u8 (aE .u64 x1 8)])++[conv .u8 (aE .u64 x1 0)]).length) .virt))],[(.arr 1 (List.map aN ((((((((x2++[conv .u8 (aE .u64 x1 56)])++[conv .u8 (aE .u64 x1 48)])++[conv .u8 (aE .u64 x1 40)])++[conv .u8 (aE .u64 x1 32)])++[conv .u8 (aE .u64 x1 24)])++[conv .u8 (aE .u64 x1 16)])++[conv .u8 (aE .u64 x1 8)])++[conv .u8 (aE .u64 x1 0)])) 8 0 false)]⟩
def O55_4_2 (x1:Int) (x2:List Int) (y:(Unit)):GX:=.st (.exit 0) (aFB x1 x2)
noncomputable def L55_4_1:Code:=at_ Tryz.f55 [1,0,1,4,5]
def S55_4_1 (x1:Int) (x2:List Int):St:=⟨mkT 23 [(0,(.ref 1 0 1 0 ((x2++[conv .u8 (aE .u64 x1 56)]).length) .virt)),(1,(.int .u64 x1)),(7,(.int .i64 48))],[(.arr 1 (List.map aN (x2++[conv .u8 (aE .u64 x1 56)])) 1 0 false)]⟩
def aFU (x1:Int) (x2:List Int):St:=⟨mkT 23 [(0,(.ref 1 0 8 0 (((((((((x2++[conv .u8 (aE .u64 x1 56)])++[conv .u8 (aE .u64 x1 48)])++[conv .u8 (aE .u64 x1 40)])++[conv .u8 (aE .u64 x1 32)])++[conv .u8 (aE .u64 x1 24)])++[conv .u8 (aE .u64 x1 16)])++[conv .u8 (aE .u64 x1 8)])++[conv .u8 (aE .u64 x1 0)]).length) .virt))],[(.arr 1 (List.map aN ((((((((x2++[conv .u8 (aE .u64 x1 56)])++[conv .u8 (aE .u64 x1 48)])++[conv .u8 (aE .u64 x1 40)])++[conv .u8 (aE .u64 x1 32)])++[conv .u8 (aE .u64 x1 24)])++[conv .u8 (aE .u64 x1 16)])++[conv .u8 (aE .u64 x1 8)])++[conv .u8 (aE .u64 x1 0)])) 8 0 false)]⟩
def O55_4_1 (x1:Int) (x2:List Int) (y:(Unit)):GX:=.st (.exit 0) (aFU x1 x2)
noncomputable def L55_4_0:Code:=at_ Tryz.f55 [1,0,1,4,5]
def S55_4_0 (x1:Int) (x2:List Int):St:=⟨mkT 23 [(0,(.ref 1 0 0 0 x2.length .virt)),(1,(.int .u64 x1)),(7,(.int .i64 56))],[(.arr 1 (List.map aN x2) 0 0 false)]⟩
def aAZ (x1:Int) (x2:List Int):St:=⟨mkT 23 [(0,(.ref 1 0 8 0 (((((((((x2++[conv .u8 (aE .u64 x1 56)])++[conv .u8 (aE .u64 x1 48)])++[conv .u8 (aE .u64 x1 40)])++[conv .u8 (aE .u64 x1 32)])++[conv .u8 (aE .u64 x1 24)])++[conv .u8 (aE .u64 x1 16)])++[conv .u8 (aE .u64 x1 8)])++[conv .u8 (aE .u64 x1 0)]).length) .virt))],[(.arr 1 (List.map aN ((((((((x2++[conv .u8 (aE .u64 x1 56)])++[conv .u8 (aE .u64 x1 48)])++[conv .u8 (aE .u64 x1 40)])++[conv .u8 (aE .u64 x1 32)])++[conv .u8 (aE .u64 x1 24)])++[conv .u8 (aE .u64 x1 16)])++[conv .u8 (aE .u64 x1 8)])++[conv .u8 (aE .u64 x1 0)])) 8 0 false)]⟩
def O55_4_0 (x1:Int) (x2:List Int) (y:(Unit)):GX:=.st (.exit 0) (aAZ x1 x2)
def aLP (x1:Int) (x2:List Int):Ans:=.n ((((((((x2++[conv .u8 (aE .u64 x1 56)])++[conv .u8 (aE .u64 x1 48)])++[conv .u8 (aE .u64 x1 40)])++[conv .u8 (aE .u64 x1 32)])++[conv .u8 (aE .u64 x1 24)])++[conv .u8 (aE .u64 x1 16)])++[conv .u8 (aE .u64 x1 8)]).length)
def aMF (x1:Int) (x2:List Int):Ans:=.n (((((((x2++[conv .u8 (aE .u64 x1 56)])++[conv .u8 (aE .u64 x1 48)])++[conv .u8 (aE .u64 x1 40)])++[conv .u8 (aE .u64 x1 32)])++[conv .u8 (aE .u64 x1 24)])++[conv .u8 (aE .u64 x1 16)]).length)
def aL5 (x1:Int) (x2:List Int):Ans:=.n ((((((x2++[conv .u8 (aE .u64 x1 56)])++[conv .u8 (aE .u64 x1 48)])++[conv .u8 (aE .u64 x1 40)])++[conv .u8 (aE .u64 x1 32)])++[conv .u8 (aE .u64 x1 24)]).length)
def aMG (x1:Int) (x2:List Int):Ans:=.n (((((x2++[conv .u8 (aE .u64 x1 56)])++[conv .u8 (aE .u64 x1 48)])++[conv .u8 (aE .u64 x1 40)])++[conv .u8 (aE .u64 x1 32)]).length)
theorem wJ (x1:Int) (x2:List Int) (y:(Unit)):∀(k:Nat),eJ k x1 x2=some y→LT Tryz.prog (w9 x2) L55_4_8 (S55_4_8 x1 x2) (O55_4_8 x1 x2 y)
 | 0,h=>by cases h
 | k+1,h=>by
  rw[eJ] at h
  obtain rfl:=osi h
  show LT _ _ _ _ (.st (.exit 0) (aFK x1 x2))
  exact LT.done mixed (hs:=⟨[],[],false,[],[]⟩) (es:=(some ⟨[(0,[])],[],false,[],[]⟩)) [df] [⟨(nF (rfl:ltI (-8) 0=true))⟩] (by kernel_rfl) (fun s h=>by cases h)
theorem vJ (x1:Int) (x2:List Int) (y:(Unit)):∀(k:Nat),dU k x1 x2=some y→LT Tryz.prog (w9 x2) L55_4_7 (S55_4_7 x1 x2) (O55_4_7 x1 x2 y)
 | 0,h=>by cases h
 | k+1,h=>by
  rw[dU] at h
  by_cases cL0:bV ((((((((((x2++[conv .u8 (aE .u64 x1 56)])++[conv .u8 (aE .u64 x1 48)])++[conv .u8 (aE .u64 x1 40)])++[conv .u8 (aE .u64 x1 32)])++[conv .u8 (aE .u64 x1 24)])++[conv .u8 (aE .u64 x1 16)])++[conv .u8 (aE .u64 x1 8)])++[conv .u8 (aE .u64 x1 0)]).length)*1)=true
  · rw[if_pos cL0] at h
    obtain⟨aNQ,eL1,h⟩:=bsm h
    obtain rfl:=osi h
    show LT _ _ _ _ (.st (.exit 0) (aFF x1 x2))
    exact LT.next mixed (hs:=⟨[(0,[]),(1,[]),(7,[])],[],false,[],[]⟩) (es:=none) [dt,.rows (List.map aN [conv .u8 (aE .u64 x1 0)]),.n (((((((((x2++[conv .u8 (aE .u64 x1 56)])++[conv .u8 (aE .u64 x1 48)])++[conv .u8 (aE .u64 x1 40)])++[conv .u8 (aE .u64 x1 32)])++[conv .u8 (aE .u64 x1 24)])++[conv .u8 (aE .u64 x1 16)])++[conv .u8 (aE .u64 x1 8)])++[conv .u8 (aE .u64 x1 0)]).length),(aLP x1 x2),dt,.rows (List.map aN ((((((((x2++[conv .u8 (aE .u64 x1 56)])++[conv .u8 (aE .u64 x1 48)])++[conv .u8 (aE .u64 x1 40)])++[conv .u8 (aE .u64 x1 32)])++[conv .u8 (aE .u64 x1 24)])++[conv .u8 (aE .u64 x1 16)])++[conv .u8 (aE .u64 x1 8)])++[conv .u8 (aE .u64 x1 0)]))] [⟨(dF aN (((((((x2++[conv .u8 (aE .u64 x1 56)])++[conv .u8 (aE .u64 x1 48)])++[conv .u8 (aE .u64 x1 40)])++[conv .u8 (aE .u64 x1 32)])++[conv .u8 (aE .u64 x1 24)])++[conv .u8 (aE .u64 x1 16)])++[conv .u8 (aE .u64 x1 8)]) [conv .u8 (aE .u64 x1 0)])⟩,⟨(cX ((((((((x2++[conv .u8 (aE .u64 x1 56)])++[conv .u8 (aE .u64 x1 48)])++[conv .u8 (aE .u64 x1 40)])++[conv .u8 (aE .u64 x1 32)])++[conv .u8 (aE .u64 x1 24)])++[conv .u8 (aE .u64 x1 16)])++[conv .u8 (aE .u64 x1 8)]).length))⟩,⟨(bK aN (((((((x2++[conv .u8 (aE .u64 x1 56)])++[conv .u8 (aE .u64 x1 48)])++[conv .u8 (aE .u64 x1 40)])++[conv .u8 (aE .u64 x1 32)])++[conv .u8 (aE .u64 x1 24)])++[conv .u8 (aE .u64 x1 16)])++[conv .u8 (aE .u64 x1 8)]))⟩,⟨cL0⟩,⟨(by simp only[wl,List.length_map,List.map_nil,List.map_cons]<;>omega:((((((((x2++[conv .u8 (aE .u64 x1 56)])++[conv .u8 (aE .u64 x1 48)])++[conv .u8 (aE .u64 x1 40)])++[conv .u8 (aE .u64 x1 32)])++[conv .u8 (aE .u64 x1 24)])++[conv .u8 (aE .u64 x1 16)])++[conv .u8 (aE .u64 x1 8)]).length)+(List.map aN [conv .u8 (aE .u64 x1 0)]).length=((((((((x2++[conv .u8 (aE .u64 x1 56)])++[conv .u8 (aE .u64 x1 48)])++[conv .u8 (aE .u64 x1 40)])++[conv .u8 (aE .u64 x1 32)])++[conv .u8 (aE .u64 x1 24)])++[conv .u8 (aE .u64 x1 16)])++[conv .u8 (aE .u64 x1 8)])++[conv .u8 (aE .u64 x1 0)]).length)⟩,⟨(bS aN (l:=[conv .u8 (aE .u64 x1 0)]) (n:=1) rfl)⟩,⟨(b9 aN (Nat.le_refl 1):0+1≤(List.map aN [conv .u8 (aE .u64 x1 0)]).length)⟩,⟨(nT (rfl:ltI 0 0=false))⟩] (by kernel_rfl) (wJ x1 x2 _ k eL1)
  rw[if_neg cL0] at h;replace cL0:=eqf cL0
  cases h
theorem wA (x1:Int) (x2:List Int) (y:(Unit)):∀(k:Nat),eC k x1 x2=some y→LT Tryz.prog (w9 x2) L55_4_6 (S55_4_6 x1 x2) (O55_4_6 x1 x2 y)
 | 0,h=>by cases h
 | k+1,h=>by
  rw[eC] at h
  by_cases cL0:bV (((((((((x2++[conv .u8 (aE .u64 x1 56)])++[conv .u8 (aE .u64 x1 48)])++[conv .u8 (aE .u64 x1 40)])++[conv .u8 (aE .u64 x1 32)])++[conv .u8 (aE .u64 x1 24)])++[conv .u8 (aE .u64 x1 16)])++[conv .u8 (aE .u64 x1 8)]).length)*1)=true
  · rw[if_pos cL0] at h
    obtain⟨aNR,eL1,h⟩:=bsm h
    obtain rfl:=osi h
    show LT _ _ _ _ (.st (.exit 0) (aFZ x1 x2))
    exact LT.next mixed (hs:=⟨[(0,[]),(1,[]),(7,[])],[],false,[],[]⟩) (es:=none) [dt,.rows (List.map aN [conv .u8 (aE .u64 x1 8)]),(aLP x1 x2),(aMF x1 x2),dt,.rows (List.map aN (((((((x2++[conv .u8 (aE .u64 x1 56)])++[conv .u8 (aE .u64 x1 48)])++[conv .u8 (aE .u64 x1 40)])++[conv .u8 (aE .u64 x1 32)])++[conv .u8 (aE .u64 x1 24)])++[conv .u8 (aE .u64 x1 16)])++[conv .u8 (aE .u64 x1 8)]))] [⟨(dF aN ((((((x2++[conv .u8 (aE .u64 x1 56)])++[conv .u8 (aE .u64 x1 48)])++[conv .u8 (aE .u64 x1 40)])++[conv .u8 (aE .u64 x1 32)])++[conv .u8 (aE .u64 x1 24)])++[conv .u8 (aE .u64 x1 16)]) [conv .u8 (aE .u64 x1 8)])⟩,⟨(cX (((((((x2++[conv .u8 (aE .u64 x1 56)])++[conv .u8 (aE .u64 x1 48)])++[conv .u8 (aE .u64 x1 40)])++[conv .u8 (aE .u64 x1 32)])++[conv .u8 (aE .u64 x1 24)])++[conv .u8 (aE .u64 x1 16)]).length))⟩,⟨(bK aN ((((((x2++[conv .u8 (aE .u64 x1 56)])++[conv .u8 (aE .u64 x1 48)])++[conv .u8 (aE .u64 x1 40)])++[conv .u8 (aE .u64 x1 32)])++[conv .u8 (aE .u64 x1 24)])++[conv .u8 (aE .u64 x1 16)]))⟩,⟨cL0⟩,⟨(by simp only[wl,List.length_map,List.map_nil,List.map_cons]<;>omega:(((((((x2++[conv .u8 (aE .u64 x1 56)])++[conv .u8 (aE .u64 x1 48)])++[conv .u8 (aE .u64 x1 40)])++[conv .u8 (aE .u64 x1 32)])++[conv .u8 (aE .u64 x1 24)])++[conv .u8 (aE .u64 x1 16)]).length)+(List.map aN [conv .u8 (aE .u64 x1 8)]).length=(((((((x2++[conv .u8 (aE .u64 x1 56)])++[conv .u8 (aE .u64 x1 48)])++[conv .u8 (aE .u64 x1 40)])++[conv .u8 (aE .u64 x1 32)])++[conv .u8 (aE .u64 x1 24)])++[conv .u8 (aE .u64 x1 16)])++[conv .u8 (aE .u64 x1 8)]).length)⟩,⟨(bS aN (l:=[conv .u8 (aE .u64 x1 8)]) (n:=1) rfl)⟩,⟨(b9 aN (Nat.le_refl 1):0+1≤(List.map aN [conv .u8 (aE .u64 x1 8)]).length)⟩,⟨(nT (rfl:ltI 8 0=false))⟩] (by kernel_rfl) (vJ x1 x2 _ k eL1)
  rw[if_neg cL0] at h;replace cL0:=eqf cL0
  cases h
theorem vC (x1:Int) (x2:List Int) (y:(Unit)):∀(k:Nat),d9 k x1 x2=some y→LT Tryz.prog (w9 x2) L55_4_5 (S55_4_5 x1 x2) (O55_4_5 x1 x2 y)
 | 0,h=>by cases h
 | k+1,h=>by
  rw[d9] at h
  by_cases cL0:bV ((((((((x2++[conv .u8 (aE .u64 x1 56)])++[conv .u8 (aE .u64 x1 48)])++[conv .u8 (aE .u64 x1 40)])++[conv .u8 (aE .u64 x1 32)])++[conv .u8 (aE .u64 x1 24)])++[conv .u8 (aE .u64 x1 16)]).length)*1)=true
  · rw[if_pos cL0] at h
    obtain⟨aNS,eL1,h⟩:=bsm h
    obtain rfl:=osi h
    show LT _ _ _ _ (.st (.exit 0) (aEV x1 x2))
    exact LT.next mixed (hs:=⟨[(0,[]),(1,[]),(7,[])],[],false,[],[]⟩) (es:=none) [dt,.rows (List.map aN [conv .u8 (aE .u64 x1 16)]),(aMF x1 x2),(aL5 x1 x2),dt,.rows (List.map aN ((((((x2++[conv .u8 (aE .u64 x1 56)])++[conv .u8 (aE .u64 x1 48)])++[conv .u8 (aE .u64 x1 40)])++[conv .u8 (aE .u64 x1 32)])++[conv .u8 (aE .u64 x1 24)])++[conv .u8 (aE .u64 x1 16)]))] [⟨(dF aN (((((x2++[conv .u8 (aE .u64 x1 56)])++[conv .u8 (aE .u64 x1 48)])++[conv .u8 (aE .u64 x1 40)])++[conv .u8 (aE .u64 x1 32)])++[conv .u8 (aE .u64 x1 24)]) [conv .u8 (aE .u64 x1 16)])⟩,⟨(cX ((((((x2++[conv .u8 (aE .u64 x1 56)])++[conv .u8 (aE .u64 x1 48)])++[conv .u8 (aE .u64 x1 40)])++[conv .u8 (aE .u64 x1 32)])++[conv .u8 (aE .u64 x1 24)]).length))⟩,⟨(bK aN (((((x2++[conv .u8 (aE .u64 x1 56)])++[conv .u8 (aE .u64 x1 48)])++[conv .u8 (aE .u64 x1 40)])++[conv .u8 (aE .u64 x1 32)])++[conv .u8 (aE .u64 x1 24)]))⟩,⟨cL0⟩,⟨(by simp only[wl,List.length_map,List.map_nil,List.map_cons]<;>omega:((((((x2++[conv .u8 (aE .u64 x1 56)])++[conv .u8 (aE .u64 x1 48)])++[conv .u8 (aE .u64 x1 40)])++[conv .u8 (aE .u64 x1 32)])++[conv .u8 (aE .u64 x1 24)]).length)+(List.map aN [conv .u8 (aE .u64 x1 16)]).length=((((((x2++[conv .u8 (aE .u64 x1 56)])++[conv .u8 (aE .u64 x1 48)])++[conv .u8 (aE .u64 x1 40)])++[conv .u8 (aE .u64 x1 32)])++[conv .u8 (aE .u64 x1 24)])++[conv .u8 (aE .u64 x1 16)]).length)⟩,⟨(bS aN (l:=[conv .u8 (aE .u64 x1 16)]) (n:=1) rfl)⟩,⟨(b9 aN (Nat.le_refl 1):0+1≤(List.map aN [conv .u8 (aE .u64 x1 16)]).length)⟩,⟨(nT (rfl:ltI 16 0=false))⟩] (by kernel_rfl) (wA x1 x2 _ k eL1)
  rw[if_neg cL0] at h;replace cL0:=eqf cL0
  cases h
theorem vK (x1:Int) (x2:List Int) (y:(Unit)):∀(k:Nat),eL k x1 x2=some y→LT Tryz.prog (w9 x2) L55_4_4 (S55_4_4 x1 x2) (O55_4_4 x1 x2 y)
 | 0,h=>by cases h
 | k+1,h=>by
  rw[eL] at h
  by_cases cL0:bV (((((((x2++[conv .u8 (aE .u64 x1 56)])++[conv .u8 (aE .u64 x1 48)])++[conv .u8 (aE .u64 x1 40)])++[conv .u8 (aE .u64 x1 32)])++[conv .u8 (aE .u64 x1 24)]).length)*1)=true
  · rw[if_pos cL0] at h
    obtain⟨aNT,eL1,h⟩:=bsm h
    obtain rfl:=osi h
    show LT _ _ _ _ (.st (.exit 0) (aF9 x1 x2))
    exact LT.next mixed (hs:=⟨[(0,[]),(1,[]),(7,[])],[],false,[],[]⟩) (es:=none) [dt,.rows (List.map aN [conv .u8 (aE .u64 x1 24)]),(aL5 x1 x2),(aMG x1 x2),dt,.rows (List.map aN (((((x2++[conv .u8 (aE .u64 x1 56)])++[conv .u8 (aE .u64 x1 48)])++[conv .u8 (aE .u64 x1 40)])++[conv .u8 (aE .u64 x1 32)])++[conv .u8 (aE .u64 x1 24)]))] [⟨(dF aN ((((x2++[conv .u8 (aE .u64 x1 56)])++[conv .u8 (aE .u64 x1 48)])++[conv .u8 (aE .u64 x1 40)])++[conv .u8 (aE .u64 x1 32)]) [conv .u8 (aE .u64 x1 24)])⟩,⟨(cX (((((x2++[conv .u8 (aE .u64 x1 56)])++[conv .u8 (aE .u64 x1 48)])++[conv .u8 (aE .u64 x1 40)])++[conv .u8 (aE .u64 x1 32)]).length))⟩,⟨(bK aN ((((x2++[conv .u8 (aE .u64 x1 56)])++[conv .u8 (aE .u64 x1 48)])++[conv .u8 (aE .u64 x1 40)])++[conv .u8 (aE .u64 x1 32)]))⟩,⟨cL0⟩,⟨(by simp only[wl,List.length_map,List.map_nil,List.map_cons]<;>omega:(((((x2++[conv .u8 (aE .u64 x1 56)])++[conv .u8 (aE .u64 x1 48)])++[conv .u8 (aE .u64 x1 40)])++[conv .u8 (aE .u64 x1 32)]).length)+(List.map aN [conv .u8 (aE .u64 x1 24)]).length=(((((x2++[conv .u8 (aE .u64 x1 56)])++[conv .u8 (aE .u64 x1 48)])++[conv .u8 (aE .u64 x1 40)])++[conv .u8 (aE .u64 x1 32)])++[conv .u8 (aE .u64 x1 24)]).length)⟩,⟨(bS aN (l:=[conv .u8 (aE .u64 x1 24)]) (n:=1) rfl)⟩,⟨(b9 aN (Nat.le_refl 1):0+1≤(List.map aN [conv .u8 (aE .u64 x1 24)]).length)⟩,⟨(nT (rfl:ltI 24 0=false))⟩] (by kernel_rfl) (vC x1 x2 _ k eL1)
  rw[if_neg cL0] at h;replace cL0:=eqf cL0
  cases h
theorem u4 (x1:Int) (x2:List Int) (y:(Unit)):∀(k:Nat),d8 k x1 x2=some y→LT Tryz.prog (w9 x2) L55_4_3 (S55_4_3 x1 x2) (O55_4_3 x1 x2 y)
 | 0,h=>by cases h
 | k+1,h=>by
  rw[d8] at h
  by_cases cL0:bV ((((((x2++[conv .u8 (aE .u64 x1 56)])++[conv .u8 (aE .u64 x1 48)])++[conv .u8 (aE .u64 x1 40)])++[conv .u8 (aE .u64 x1 32)]).length)*1)=true
  · rw[if_pos cL0] at h
    obtain⟨aNU,eL1,h⟩:=bsm h
    obtain rfl:=osi h
    show LT _ _ _ _ (.st (.exit 0) (aGB x1 x2))
    exact LT.next mixed (hs:=⟨[(0,[]),(1,[]),(7,[])],[],false,[],[]⟩) (es:=none) [dt,.rows (List.map aN [conv .u8 (aE .u64 x1 32)]),(aMG x1 x2),.n ((((x2++[conv .u8 (aE .u64 x1 56)])++[conv .u8 (aE .u64 x1 48)])++[conv .u8 (aE .u64 x1 40)]).length),dt,.rows (List.map aN ((((x2++[conv .u8 (aE .u64 x1 56)])++[conv .u8 (aE .u64 x1 48)])++[conv .u8 (aE .u64 x1 40)])++[conv .u8 (aE .u64 x1 32)]))] [⟨(dF aN (((x2++[conv .u8 (aE .u64 x1 56)])++[conv .u8 (aE .u64 x1 48)])++[conv .u8 (aE .u64 x1 40)]) [conv .u8 (aE .u64 x1 32)])⟩,⟨(cX ((((x2++[conv .u8 (aE .u64 x1 56)])++[conv .u8 (aE .u64 x1 48)])++[conv .u8 (aE .u64 x1 40)]).length))⟩,⟨(bK aN (((x2++[conv .u8 (aE .u64 x1 56)])++[conv .u8 (aE .u64 x1 48)])++[conv .u8 (aE .u64 x1 40)]))⟩,⟨cL0⟩,⟨(by simp only[wl,List.length_map,List.map_nil,List.map_cons]<;>omega:((((x2++[conv .u8 (aE .u64 x1 56)])++[conv .u8 (aE .u64 x1 48)])++[conv .u8 (aE .u64 x1 40)]).length)+(List.map aN [conv .u8 (aE .u64 x1 32)]).length=((((x2++[conv .u8 (aE .u64 x1 56)])++[conv .u8 (aE .u64 x1 48)])++[conv .u8 (aE .u64 x1 40)])++[conv .u8 (aE .u64 x1 32)]).length)⟩,⟨(bS aN (l:=[conv .u8 (aE .u64 x1 32)]) (n:=1) rfl)⟩,⟨(b9 aN (Nat.le_refl 1):0+1≤(List.map aN [conv .u8 (aE .u64 x1 32)]).length)⟩,⟨(nT (rfl:ltI 32 0=false))⟩] (by kernel_rfl) (vK x1 x2 _ k eL1)
  rw[if_neg cL0] at h;replace cL0:=eqf cL0
  cases h
theorem wK (x1:Int) (x2:List Int) (y:(Unit)):∀(k:Nat),eB k x1 x2=some y→LT Tryz.prog (w9 x2) L55_4_2 (S55_4_2 x1 x2) (O55_4_2 x1 x2 y)
 | 0,h=>by cases h
 | k+1,h=>by
  rw[eB] at h
  by_cases cL0:bV (((((x2++[conv .u8 (aE .u64 x1 56)])++[conv .u8 (aE .u64 x1 48)])++[conv .u8 (aE .u64 x1 40)]).length)*1)=true
  · rw[if_pos cL0] at h
    obtain⟨aNV,eL1,h⟩:=bsm h
    obtain rfl:=osi h
    show LT _ _ _ _ (.st (.exit 0) (aFB x1 x2))
    exact LT.next mixed (hs:=⟨[(0,[]),(1,[]),(7,[])],[],false,[],[]⟩) (es:=none) [dt,.rows (List.map aN [conv .u8 (aE .u64 x1 40)]),.n ((((x2++[conv .u8 (aE .u64 x1 56)])++[conv .u8 (aE .u64 x1 48)])++[conv .u8 (aE .u64 x1 40)]).length),.n (((x2++[conv .u8 (aE .u64 x1 56)])++[conv .u8 (aE .u64 x1 48)]).length),dt,.rows (List.map aN (((x2++[conv .u8 (aE .u64 x1 56)])++[conv .u8 (aE .u64 x1 48)])++[conv .u8 (aE .u64 x1 40)]))] [⟨(dF aN ((x2++[conv .u8 (aE .u64 x1 56)])++[conv .u8 (aE .u64 x1 48)]) [conv .u8 (aE .u64 x1 40)])⟩,⟨(cX (((x2++[conv .u8 (aE .u64 x1 56)])++[conv .u8 (aE .u64 x1 48)]).length))⟩,⟨(bK aN ((x2++[conv .u8 (aE .u64 x1 56)])++[conv .u8 (aE .u64 x1 48)]))⟩,⟨cL0⟩,⟨(by simp only[wl,List.length_map,List.map_nil,List.map_cons]<;>omega:(((x2++[conv .u8 (aE .u64 x1 56)])++[conv .u8 (aE .u64 x1 48)]).length)+(List.map aN [conv .u8 (aE .u64 x1 40)]).length=(((x2++[conv .u8 (aE .u64 x1 56)])++[conv .u8 (aE .u64 x1 48)])++[conv .u8 (aE .u64 x1 40)]).length)⟩,⟨(bS aN (l:=[conv .u8 (aE .u64 x1 40)]) (n:=1) rfl)⟩,⟨(b9 aN (Nat.le_refl 1):0+1≤(List.map aN [conv .u8 (aE .u64 x1 40)]).length)⟩,⟨(nT (rfl:ltI 40 0=false))⟩] (by kernel_rfl) (u4 x1 x2 _ k eL1)
  rw[if_neg cL0] at h;replace cL0:=eqf cL0
  cases h
theorem wU (x1:Int) (x2:List Int) (y:(Unit)):∀(k:Nat),eI k x1 x2=some y→LT Tryz.prog (w9 x2) L55_4_1 (S55_4_1 x1 x2) (O55_4_1 x1 x2 y)
 | 0,h=>by cases h
 | k+1,h=>by
  rw[eI] at h
  by_cases cL0:bV ((((x2++[conv .u8 (aE .u64 x1 56)])++[conv .u8 (aE .u64 x1 48)]).length)*1)=true
  · rw[if_pos cL0] at h
    obtain⟨aNW,eL1,h⟩:=bsm h
    obtain rfl:=osi h
    show LT _ _ _ _ (.st (.exit 0) (aFU x1 x2))
    exact LT.next mixed (hs:=⟨[(0,[]),(1,[]),(7,[])],[],false,[],[]⟩) (es:=none) [dt,.rows (List.map aN [conv .u8 (aE .u64 x1 48)]),.n (((x2++[conv .u8 (aE .u64 x1 56)])++[conv .u8 (aE .u64 x1 48)]).length),.n ((x2++[conv .u8 (aE .u64 x1 56)]).length),dt,.rows (List.map aN ((x2++[conv .u8 (aE .u64 x1 56)])++[conv .u8 (aE .u64 x1 48)]))] [⟨(dF aN (x2++[conv .u8 (aE .u64 x1 56)]) [conv .u8 (aE .u64 x1 48)])⟩,⟨(cX ((x2++[conv .u8 (aE .u64 x1 56)]).length))⟩,⟨(bK aN (x2++[conv .u8 (aE .u64 x1 56)]))⟩,⟨cL0⟩,⟨(by simp only[wl,List.length_map,List.map_nil,List.map_cons]<;>omega:((x2++[conv .u8 (aE .u64 x1 56)]).length)+(List.map aN [conv .u8 (aE .u64 x1 48)]).length=((x2++[conv .u8 (aE .u64 x1 56)])++[conv .u8 (aE .u64 x1 48)]).length)⟩,⟨(bS aN (l:=[conv .u8 (aE .u64 x1 48)]) (n:=1) rfl)⟩,⟨(b9 aN (Nat.le_refl 1):0+1≤(List.map aN [conv .u8 (aE .u64 x1 48)]).length)⟩,⟨(nT (rfl:ltI 48 0=false))⟩] (by kernel_rfl) (wK x1 x2 _ k eL1)
  rw[if_neg cL0] at h;replace cL0:=eqf cL0
  cases h
theorem vR (x1:Int) (x2:List Int) (y:(Unit)):∀(k:Nat),dY k x1 x2=some y→LT Tryz.prog (w9 x2) L55_4_0 (S55_4_0 x1 x2) (O55_4_0 x1 x2 y)
 | 0,h=>by cases h
 | k+1,h=>by
  rw[dY] at h
  by_cases cL0:bV (((x2++[conv .u8 (aE .u64 x1 56)]).length)*1)=true
  · rw[if_pos cL0] at h
    obtain⟨aNX,eL1,h⟩:=bsm h
    obtain rfl:=osi h
    show LT _ _ _ _ (.st (.exit 0) (aAZ x1 x2))
    exact LT.next mixed (hs:=⟨[(0,[]),(1,[]),(7,[])],[],false,[],[]⟩) (es:=none) [dt,.rows (List.map aN [conv .u8 (aE .u64 x1 56)]),.n ((x2++[conv .u8 (aE .u64 x1 56)]).length),.n x2.length,dt,.rows (List.map aN (x2++[conv .u8 (aE .u64 x1 56)]))] [⟨(dF aN x2 [conv .u8 (aE .u64 x1 56)])⟩,⟨(cX x2.length)⟩,⟨(bK aN x2)⟩,⟨cL0⟩,⟨(by simp only[wl,List.length_map,List.map_nil,List.map_cons]<;>omega:x2.length+(List.map aN [conv .u8 (aE .u64 x1 56)]).length=(x2++[conv .u8 (aE .u64 x1 56)]).length)⟩,⟨(bS aN (l:=[conv .u8 (aE .u64 x1 56)]) (n:=1) rfl)⟩,⟨(b9 aN (Nat.le_refl 1):0+1≤(List.map aN [conv .u8 (aE .u64 x1 56)]).length)⟩,⟨(nT (rfl:ltI 56 0=false))⟩] (by kernel_rfl) (wU x1 x2 _ k eL1)
  rw[if_neg cL0] at h;replace cL0:=eqf cL0
  cases h
theorem aAS (k:Nat) (x1:Int) (x2:List Int) (r:Unit) (h:iK k x1 x2=some r):Tri Tryz.prog 55 [(.ref 1 0 0 0 x2.length .virt),(.int .u64 x1),(.int .i64 8)] [(.arr 1 (List.map aN x2) 0 0 false)] (.ref 1 0 8 0 (((((((((x2++[conv .u8 (aE .u64 x1 56)])++[conv .u8 (aE .u64 x1 48)])++[conv .u8 (aE .u64 x1 40)])++[conv .u8 (aE .u64 x1 32)])++[conv .u8 (aE .u64 x1 24)])++[conv .u8 (aE .u64 x1 16)])++[conv .u8 (aE .u64 x1 8)])++[conv .u8 (aE .u64 x1 0)]).length) .virt) [(.arr 1 (List.map aN ((((((((x2++[conv .u8 (aE .u64 x1 56)])++[conv .u8 (aE .u64 x1 48)])++[conv .u8 (aE .u64 x1 40)])++[conv .u8 (aE .u64 x1 32)])++[conv .u8 (aE .u64 x1 24)])++[conv .u8 (aE .u64 x1 16)])++[conv .u8 (aE .u64 x1 8)])++[conv .u8 (aE .u64 x1 0)])) 8 0 false)]:=by
 unfold iK at h
 obtain⟨x4,e0,h⟩:=bsm h
 obtain rfl:=osi h
 exact Tri.of (x:=(w9 x2)) mixed yU [.norm 2 ⟨[(0,[]),(1,[]),(7,[])],[],false,[],[]⟩,.out (.st .normal (aAZ x1 x2)),.norm 0 ⟨[(6,[])],[],false,[],[]⟩] [⟨(LT.block (vR x1 x2 _ k e0))⟩] (by kernel_rfl)
end Go.Ws

namespace Go.Ws
open Go.Proofs
set_option linter.unusedSimpArgs false
set_option linter.unusedVariables false
set_option maxRecDepth 1000000
set_option maxHeartbeats 4000000
noncomputable def aBY:Ctx:=⟨Tryz.f31,[],true⟩
noncomputable def L31_1_4:Code:=at_ Tryz.f31 [1,1,1,0,1,4,5]
def S31_1_4 (x1:Int × ByteArray) (x2:Int × ByteArray) (x3:Int × ByteArray) (x4:Int × ByteArray):St:=⟨mkT 88 [(0,(.str (ByteArray.mk #[97,98,97,100]))),(6,(.ref 1 0 0 0 (((((((((((([conv .u8 (aE .u64 x1.1 0)]++[conv .u8 (aE .u64 x2.1 8)])++[conv .u8 (aE .u64 x2.1 0)])++[conv .u8 (aE .u64 x3.1 0)])++[conv .u8 (aE .u64 x4.1 56)])++[conv .u8 (aE .u64 x4.1 48)])++[conv .u8 (aE .u64 x4.1 40)])++[conv .u8 (aE .u64 x4.1 32)])++[conv .u8 (aE .u64 x4.1 24)])++[conv .u8 (aE .u64 x4.1 16)])++[conv .u8 (aE .u64 x4.1 8)])++[conv .u8 (aE .u64 x4.1 0)]).length) .virt)),(20,(.sl 2 (List.map aU [x1,x2,x3,x4]))),(21,(.int .i64 4)),(22,(.int .i64 4))],[(.arr 1 (List.map aN ((((((((((([conv .u8 (aE .u64 x1.1 0)]++[conv .u8 (aE .u64 x2.1 8)])++[conv .u8 (aE .u64 x2.1 0)])++[conv .u8 (aE .u64 x3.1 0)])++[conv .u8 (aE .u64 x4.1 56)])++[conv .u8 (aE .u64 x4.1 48)])++[conv .u8 (aE .u64 x4.1 40)])++[conv .u8 (aE .u64 x4.1 32)])++[conv .u8 (aE .u64 x4.1 24)])++[conv .u8 (aE .u64 x4.1 16)])++[conv .u8 (aE .u64 x4.1 8)])++[conv .u8 (aE .u64 x4.1 0)])) 0 0 false)]⟩
def aGE (x1:Int × ByteArray) (x2:Int × ByteArray) (x3:Int × ByteArray) (x4:Int × ByteArray):St:=⟨mkT 88 [(6,(.ref 1 0 0 0 (((((((((((([conv .u8 (aE .u64 x1.1 0)]++[conv .u8 (aE .u64 x2.1 8)])++[conv .u8 (aE .u64 x2.1 0)])++[conv .u8 (aE .u64 x3.1 0)])++[conv .u8 (aE .u64 x4.1 56)])++[conv .u8 (aE .u64 x4.1 48)])++[conv .u8 (aE .u64 x4.1 40)])++[conv .u8 (aE .u64 x4.1 32)])++[conv .u8 (aE .u64 x4.1 24)])++[conv .u8 (aE .u64 x4.1 16)])++[conv .u8 (aE .u64 x4.1 8)])++[conv .u8 (aE .u64 x4.1 0)]).length) .virt))],[(.arr 1 (List.map aN ((((((((((([conv .u8 (aE .u64 x1.1 0)]++[conv .u8 (aE .u64 x2.1 8)])++[conv .u8 (aE .u64 x2.1 0)])++[conv .u8 (aE .u64 x3.1 0)])++[conv .u8 (aE .u64 x4.1 56)])++[conv .u8 (aE .u64 x4.1 48)])++[conv .u8 (aE .u64 x4.1 40)])++[conv .u8 (aE .u64 x4.1 32)])++[conv .u8 (aE .u64 x4.1 24)])++[conv .u8 (aE .u64 x4.1 16)])++[conv .u8 (aE .u64 x4.1 8)])++[conv .u8 (aE .u64 x4.1 0)])) 0 0 false)]⟩
def O31_1_4 (x1:Int × ByteArray) (x2:Int × ByteArray) (x3:Int × ByteArray) (x4:Int × ByteArray) (y:(Unit)):GX:=.st (.exit 0) (aGE x1 x2 x3 x4)
noncomputable def L31_1_3:Code:=at_ Tryz.f31 [1,1,1,0,1,4,5]
def S31_1_3 (x1:Int × ByteArray) (x2:Int × ByteArray) (x3:Int × ByteArray) (x4:Int × ByteArray):St:=⟨mkT 88 [(0,(.str (ByteArray.mk #[97,98,97,100]))),(6,(.ref 1 0 0 0 (((([conv .u8 (aE .u64 x1.1 0)]++[conv .u8 (aE .u64 x2.1 8)])++[conv .u8 (aE .u64 x2.1 0)])++[conv .u8 (aE .u64 x3.1 0)]).length) .virt)),(20,(.sl 2 (List.map aU [x1,x2,x3,x4]))),(21,(.int .i64 4)),(22,(.int .i64 3))],[(.arr 1 (List.map aN ((([conv .u8 (aE .u64 x1.1 0)]++[conv .u8 (aE .u64 x2.1 8)])++[conv .u8 (aE .u64 x2.1 0)])++[conv .u8 (aE .u64 x3.1 0)])) 0 0 false)]⟩
def aF3 (x1:Int × ByteArray) (x2:Int × ByteArray) (x3:Int × ByteArray) (x4:Int × ByteArray):St:=⟨mkT 88 [(6,(.ref 1 0 0 0 (((((((((((([conv .u8 (aE .u64 x1.1 0)]++[conv .u8 (aE .u64 x2.1 8)])++[conv .u8 (aE .u64 x2.1 0)])++[conv .u8 (aE .u64 x3.1 0)])++[conv .u8 (aE .u64 x4.1 56)])++[conv .u8 (aE .u64 x4.1 48)])++[conv .u8 (aE .u64 x4.1 40)])++[conv .u8 (aE .u64 x4.1 32)])++[conv .u8 (aE .u64 x4.1 24)])++[conv .u8 (aE .u64 x4.1 16)])++[conv .u8 (aE .u64 x4.1 8)])++[conv .u8 (aE .u64 x4.1 0)]).length) .virt))],[(.arr 1 (List.map aN ((((((((((([conv .u8 (aE .u64 x1.1 0)]++[conv .u8 (aE .u64 x2.1 8)])++[conv .u8 (aE .u64 x2.1 0)])++[conv .u8 (aE .u64 x3.1 0)])++[conv .u8 (aE .u64 x4.1 56)])++[conv .u8 (aE .u64 x4.1 48)])++[conv .u8 (aE .u64 x4.1 40)])++[conv .u8 (aE .u64 x4.1 32)])++[conv .u8 (aE .u64 x4.1 24)])++[conv .u8 (aE .u64 x4.1 16)])++[conv .u8 (aE .u64 x4.1 8)])++[conv .u8 (aE .u64 x4.1 0)])) 0 0 false)]⟩
def O31_1_3 (x1:Int × ByteArray) (x2:Int × ByteArray) (x3:Int × ByteArray) (x4:Int × ByteArray) (y:Ty3):GX:=match y with
 | .inl y=>.st (.exit 0) (aF3 x1 x2 x3 x4)
 | .inr y=>.fin (.tup [(.sl 1 (List.map aN y.1)),(.int .i64 y.2)]) []
noncomputable def L31_1_2:Code:=at_ Tryz.f31 [1,1,1,0,1,4,5]
def S31_1_2 (x1:Int × ByteArray) (x2:Int × ByteArray) (x3:Int × ByteArray) (x4:Int × ByteArray):St:=⟨mkT 88 [(0,(.str (ByteArray.mk #[97,98,97,100]))),(6,(.ref 1 0 0 0 ((([conv .u8 (aE .u64 x1.1 0)]++[conv .u8 (aE .u64 x2.1 8)])++[conv .u8 (aE .u64 x2.1 0)]).length) .virt)),(20,(.sl 2 (List.map aU [x1,x2,x3,x4]))),(21,(.int .i64 4)),(22,(.int .i64 2))],[(.arr 1 (List.map aN (([conv .u8 (aE .u64 x1.1 0)]++[conv .u8 (aE .u64 x2.1 8)])++[conv .u8 (aE .u64 x2.1 0)])) 0 0 false)]⟩
def aEZ (x1:Int × ByteArray) (x2:Int × ByteArray) (x3:Int × ByteArray) (x4:Int × ByteArray):St:=⟨mkT 88 [(6,(.ref 1 0 0 0 (((((((((((([conv .u8 (aE .u64 x1.1 0)]++[conv .u8 (aE .u64 x2.1 8)])++[conv .u8 (aE .u64 x2.1 0)])++[conv .u8 (aE .u64 x3.1 0)])++[conv .u8 (aE .u64 x4.1 56)])++[conv .u8 (aE .u64 x4.1 48)])++[conv .u8 (aE .u64 x4.1 40)])++[conv .u8 (aE .u64 x4.1 32)])++[conv .u8 (aE .u64 x4.1 24)])++[conv .u8 (aE .u64 x4.1 16)])++[conv .u8 (aE .u64 x4.1 8)])++[conv .u8 (aE .u64 x4.1 0)]).length) .virt))],[(.arr 1 (List.map aN ((((((((((([conv .u8 (aE .u64 x1.1 0)]++[conv .u8 (aE .u64 x2.1 8)])++[conv .u8 (aE .u64 x2.1 0)])++[conv .u8 (aE .u64 x3.1 0)])++[conv .u8 (aE .u64 x4.1 56)])++[conv .u8 (aE .u64 x4.1 48)])++[conv .u8 (aE .u64 x4.1 40)])++[conv .u8 (aE .u64 x4.1 32)])++[conv .u8 (aE .u64 x4.1 24)])++[conv .u8 (aE .u64 x4.1 16)])++[conv .u8 (aE .u64 x4.1 8)])++[conv .u8 (aE .u64 x4.1 0)])) 0 0 false)]⟩
def O31_1_2 (x1:Int × ByteArray) (x2:Int × ByteArray) (x3:Int × ByteArray) (x4:Int × ByteArray) (y:Ty3):GX:=match y with
 | .inl y=>.st (.exit 0) (aEZ x1 x2 x3 x4)
 | .inr y=>.fin (.tup [(.sl 1 (List.map aN y.1)),(.int .i64 y.2)]) []
noncomputable def L31_1_1:Code:=at_ Tryz.f31 [1,1,1,0,1,4,5]
def S31_1_1 (x1:Int × ByteArray) (x2:Int × ByteArray) (x3:Int × ByteArray) (x4:Int × ByteArray):St:=⟨mkT 88 [(0,(.str (ByteArray.mk #[97,98,97,100]))),(6,(.ref 1 0 0 0 1 .virt)),(20,(.sl 2 (List.map aU [x1,x2,x3,x4]))),(21,(.int .i64 4)),(22,(.int .i64 1))],[(.arr 1 (List.map aN [conv .u8 (aE .u64 x1.1 0)]) 0 0 false)]⟩
def aFC (x1:Int × ByteArray) (x2:Int × ByteArray) (x3:Int × ByteArray) (x4:Int × ByteArray):St:=⟨mkT 88 [(6,(.ref 1 0 0 0 (((((((((((([conv .u8 (aE .u64 x1.1 0)]++[conv .u8 (aE .u64 x2.1 8)])++[conv .u8 (aE .u64 x2.1 0)])++[conv .u8 (aE .u64 x3.1 0)])++[conv .u8 (aE .u64 x4.1 56)])++[conv .u8 (aE .u64 x4.1 48)])++[conv .u8 (aE .u64 x4.1 40)])++[conv .u8 (aE .u64 x4.1 32)])++[conv .u8 (aE .u64 x4.1 24)])++[conv .u8 (aE .u64 x4.1 16)])++[conv .u8 (aE .u64 x4.1 8)])++[conv .u8 (aE .u64 x4.1 0)]).length) .virt))],[(.arr 1 (List.map aN ((((((((((([conv .u8 (aE .u64 x1.1 0)]++[conv .u8 (aE .u64 x2.1 8)])++[conv .u8 (aE .u64 x2.1 0)])++[conv .u8 (aE .u64 x3.1 0)])++[conv .u8 (aE .u64 x4.1 56)])++[conv .u8 (aE .u64 x4.1 48)])++[conv .u8 (aE .u64 x4.1 40)])++[conv .u8 (aE .u64 x4.1 32)])++[conv .u8 (aE .u64 x4.1 24)])++[conv .u8 (aE .u64 x4.1 16)])++[conv .u8 (aE .u64 x4.1 8)])++[conv .u8 (aE .u64 x4.1 0)])) 0 0 false)]⟩
def O31_1_1 (x1:Int × ByteArray) (x2:Int × ByteArray) (x3:Int × ByteArray) (x4:Int × ByteArray) (y:Ty3):GX:=match y with
 | .inl y=>.st (.exit 0) (aFC x1 x2 x3 x4)
 | .inr y=>.fin (.tup [(.sl 1 (List.map aN y.1)),(.int .i64 y.2)]) []
noncomputable def L31_1_0:Code:=at_ Tryz.f31 [1,1,1,0,1,4,5]
def S31_1_0 (x1:Int × ByteArray) (x2:Int × ByteArray) (x3:Int × ByteArray) (x4:Int × ByteArray):St:=⟨mkT 88 [(0,(.str (ByteArray.mk #[97,98,97,100]))),(6,.nils),(20,(.sl 2 (List.map aU [x1,x2,x3,x4]))),(21,(.int .i64 4)),(22,(.int .i64 0))],[]⟩
def uF (x1:Int × ByteArray) (x2:Int × ByteArray) (x3:Int × ByteArray) (x4:Int × ByteArray):St:=⟨mkT 88 [(6,(.ref 1 0 0 0 (((((((((((([conv .u8 (aE .u64 x1.1 0)]++[conv .u8 (aE .u64 x2.1 8)])++[conv .u8 (aE .u64 x2.1 0)])++[conv .u8 (aE .u64 x3.1 0)])++[conv .u8 (aE .u64 x4.1 56)])++[conv .u8 (aE .u64 x4.1 48)])++[conv .u8 (aE .u64 x4.1 40)])++[conv .u8 (aE .u64 x4.1 32)])++[conv .u8 (aE .u64 x4.1 24)])++[conv .u8 (aE .u64 x4.1 16)])++[conv .u8 (aE .u64 x4.1 8)])++[conv .u8 (aE .u64 x4.1 0)]).length) .virt))],[(.arr 1 (List.map aN ((((((((((([conv .u8 (aE .u64 x1.1 0)]++[conv .u8 (aE .u64 x2.1 8)])++[conv .u8 (aE .u64 x2.1 0)])++[conv .u8 (aE .u64 x3.1 0)])++[conv .u8 (aE .u64 x4.1 56)])++[conv .u8 (aE .u64 x4.1 48)])++[conv .u8 (aE .u64 x4.1 40)])++[conv .u8 (aE .u64 x4.1 32)])++[conv .u8 (aE .u64 x4.1 24)])++[conv .u8 (aE .u64 x4.1 16)])++[conv .u8 (aE .u64 x4.1 8)])++[conv .u8 (aE .u64 x4.1 0)])) 0 0 false)]⟩
def O31_1_0 (x1:Int × ByteArray) (x2:Int × ByteArray) (x3:Int × ByteArray) (x4:Int × ByteArray) (y:Ty3):GX:=match y with
 | .inl y=>.st (.exit 0) (uF x1 x2 x3 x4)
 | .inr y=>.fin (.tup [(.sl 1 (List.map aN y.1)),(.int .i64 y.2)]) []
def qJ:Ans:=.norm 0 ⟨[(4,[(0,1)]),(5,[])],[],false,[],[]⟩
def aL4 (x1:Int × ByteArray) (x2:Int × ByteArray) (x3:Int × ByteArray):Ans:=.call ⟨false,[]⟩ (.ref 1 0 1 0 (((([conv .u8 (aE .u64 x1.1 0)]++[conv .u8 (aE .u64 x2.1 8)])++[conv .u8 (aE .u64 x2.1 0)])++[conv .u8 (aE .u64 x3.1 0)]).length) .virt) [(.arr 1 (List.map aN ((([conv .u8 (aE .u64 x1.1 0)]++[conv .u8 (aE .u64 x2.1 8)])++[conv .u8 (aE .u64 x2.1 0)])++[conv .u8 (aE .u64 x3.1 0)])) 1 0 false)]
def aMB (x1:Int × ByteArray) (x2:Int × ByteArray):Ans:=.call ⟨false,[]⟩ (.ref 1 0 2 0 ((([conv .u8 (aE .u64 x1.1 0)]++[conv .u8 (aE .u64 x2.1 8)])++[conv .u8 (aE .u64 x2.1 0)]).length) .virt) [(.arr 1 (List.map aN (([conv .u8 (aE .u64 x1.1 0)]++[conv .u8 (aE .u64 x2.1 8)])++[conv .u8 (aE .u64 x2.1 0)])) 2 0 false)]
def aLI (x1:Int × ByteArray):Ans:=.call ⟨false,[]⟩ (.ref 1 0 0 0 1 .virt) [(.arr 1 (List.map aN [conv .u8 (aE .u64 x1.1 0)]) 0 0 false)]
theorem vI (x1:Int × ByteArray) (x2:Int × ByteArray) (x3:Int × ByteArray) (x4:Int × ByteArray) (y:(Unit)):∀(k:Nat),eE k x1 x2 x3 x4=some y→LT Tryz.prog aBY L31_1_4 (S31_1_4 x1 x2 x3 x4) (O31_1_4 x1 x2 x3 x4 y)
 | 0,h=>by cases h
 | k+1,h=>by
  rw[eE] at h
  obtain rfl:=osi h
  show LT _ _ _ _ (.st (.exit 0) (aGE x1 x2 x3 x4))
  exact LT.done mixed (hs:=⟨[],[],false,[],[]⟩) (es:=(some ⟨[(6,[])],[⟨.tmp 6,[],none⟩],false,[],[]⟩)) [df] [⟨(rfl:ltI 4 4=false)⟩] (by kernel_rfl) (fun s h=>by cases h)
theorem oO (x1:Int × ByteArray) (x2:Int × ByteArray) (x3:Int × ByteArray) (x4:Int × ByteArray) (y:Ty3):∀(k:Nat),dX k x1 x2 x3 x4=some y→LT Tryz.prog aBY L31_1_3 (S31_1_3 x1 x2 x3 x4) (O31_1_3 x1 x2 x3 x4 y)
 | 0,h=>by cases h
 | k+1,h=>by
  rw[dX] at h
  let u1:List Ans:=[dt,.n 4,.row [(.int .u64 x4.1),(.str x4.2)],.call ⟨true,[]⟩ (.int .i64 8) [],df,df,df,df,df,df,df,dt,dt,dt,dt]
  let w2:List Prf:=[⟨(rfl:ltI 0 8=true)⟩,⟨(rfl:ltI 0 8=true)⟩,⟨(rfl:ltI 0 8=true)⟩,⟨(rfl:ltI 0 8=true)⟩,⟨rF⟩,⟨(rfl:eqI 8 0=false)⟩,⟨(rfl:eqI 8 0=false)⟩,⟨(rfl:eqI 8 0=false)⟩,⟨(rfl:eqI 8 0=false)⟩,⟨(rfl:eqI 8 0=false)⟩,⟨(rfl:eqI 8 0=false)⟩,⟨(sE)⟩,⟨(rfl:fR 2 (List.map aU [x1,x2,x3,x4]) 3 0 2=some [(.int .u64 x4.1),(.str x4.2)])⟩,⟨(rfl:inI 3 4=true)⟩,⟨(rfl:(List.map aU [x1,x2,x3,x4]).length=4)⟩,⟨(rfl:ltI 3 4=true)⟩]
  by_cases cL0:eqS x4.2 (ByteArray.mk #[])=true
  · rw[if_pos cL0] at h
    obtain⟨aNY,eL1,h⟩:=bsm h
    obtain⟨aNZ,eL2,h⟩:=bsm h
    obtain rfl:=osi h
    show LT _ _ _ _ (.st (.exit 0) (aF3 x1 x2 x3 x4))
    exact LT.next mixed (hs:=⟨[(0,[]),(6,[]),(20,[]),(21,[]),(22,[])],[⟨.tmp 6,[],none⟩],false,[],[]⟩) (es:=none) (u1++[df,dt,dt,dt,df,df,df,df,df,df,df,df,df,.call ⟨false,[]⟩ (.ref 1 0 8 0 (((((((((((([conv .u8 (aE .u64 x1.1 0)]++[conv .u8 (aE .u64 x2.1 8)])++[conv .u8 (aE .u64 x2.1 0)])++[conv .u8 (aE .u64 x3.1 0)])++[conv .u8 (aE .u64 x4.1 56)])++[conv .u8 (aE .u64 x4.1 48)])++[conv .u8 (aE .u64 x4.1 40)])++[conv .u8 (aE .u64 x4.1 32)])++[conv .u8 (aE .u64 x4.1 24)])++[conv .u8 (aE .u64 x4.1 16)])++[conv .u8 (aE .u64 x4.1 8)])++[conv .u8 (aE .u64 x4.1 0)]).length) .virt) [(.arr 1 (List.map aN ((((((((((([conv .u8 (aE .u64 x1.1 0)]++[conv .u8 (aE .u64 x2.1 8)])++[conv .u8 (aE .u64 x2.1 0)])++[conv .u8 (aE .u64 x3.1 0)])++[conv .u8 (aE .u64 x4.1 56)])++[conv .u8 (aE .u64 x4.1 48)])++[conv .u8 (aE .u64 x4.1 40)])++[conv .u8 (aE .u64 x4.1 32)])++[conv .u8 (aE .u64 x4.1 24)])++[conv .u8 (aE .u64 x4.1 16)])++[conv .u8 (aE .u64 x4.1 8)])++[conv .u8 (aE .u64 x4.1 0)])) 8 0 false)]]) ([⟨(aAS k x4.1 ((([conv .u8 (aE .u64 x1.1 0)]++[conv .u8 (aE .u64 x2.1 8)])++[conv .u8 (aE .u64 x2.1 0)])++[conv .u8 (aE .u64 x3.1 0)]) _ eL1)⟩,⟨(rfl:eqI 8 0=false)⟩,⟨rF⟩,⟨(rfl:ltI 8 8=false)⟩,⟨(rfl:ltI 8 8=false)⟩,⟨(rfl:ltI 8 8=false)⟩,⟨(rfl:ltI 8 8=false)⟩,⟨(rfl:ltI 8 8=false)⟩,⟨(rfl:ltI 8 8=false)⟩,⟨(rfl:ltI 8 8=false)⟩,⟨(rfl:ltI 0 8=true)⟩,⟨(rfl:ltI 0 8=true)⟩,⟨(rfl:ltI 0 8=true)⟩,⟨(nF cL0)⟩]++w2) (by kernel_rfl) (vI x1 x2 x3 x4 _ k eL2)
  rw[if_neg cL0] at h;replace cL0:=eqf cL0
  obtain rfl:=osi h
  show LT _ _ _ _ (.fin (.tup [(.sl 1 (List.map aN (([],2).1))),(.int .i64 (([],2).2))]) [])
  exact LT.done mixed (hs:=⟨[],[],false,[],[]⟩) (es:=none) (u1++[dt,dt,qJ]) ([⟨(nT cL0)⟩,⟨(nT cL0)⟩]++w2) (by kernel_rfl) (fun s h=>by cases h)
theorem nV (x1:Int × ByteArray) (x2:Int × ByteArray) (x3:Int × ByteArray) (x4:Int × ByteArray) (y:Ty3):∀(k:Nat),eD k x1 x2 x3 x4=some y→LT Tryz.prog aBY L31_1_2 (S31_1_2 x1 x2 x3 x4) (O31_1_2 x1 x2 x3 x4 y)
 | 0,h=>by cases h
 | k+1,h=>by
  rw[eD] at h
  let u3:List Ans:=[dt,.n 4,.row [(.int .u64 x3.1),(.str x3.2)],.call ⟨true,[]⟩ (.int .i64 1) [],df,df,df,df,df,df,df,dt,dt,dt,dt]
  let w4:List Prf:=[⟨(rfl:ltI 0 1=true)⟩,⟨(rfl:ltI 0 1=true)⟩,⟨(rfl:ltI 0 1=true)⟩,⟨(rfl:ltI 0 1=true)⟩,⟨rF⟩,⟨(rfl:eqI 1 0=false)⟩,⟨(rfl:eqI 1 0=false)⟩,⟨(rfl:eqI 1 0=false)⟩,⟨(rfl:eqI 1 0=false)⟩,⟨(rfl:eqI 1 0=false)⟩,⟨(rfl:eqI 1 0=false)⟩,⟨(fY)⟩,⟨(rfl:fR 2 (List.map aU [x1,x2,x3,x4]) 2 0 2=some [(.int .u64 x3.1),(.str x3.2)])⟩,⟨(rfl:inI 2 4=true)⟩,⟨(rfl:(List.map aU [x1,x2,x3,x4]).length=4)⟩,⟨(rfl:ltI 2 4=true)⟩]
  by_cases cL0:eqS x3.2 (ByteArray.mk #[])=true
  · rw[if_pos cL0] at h
    let u5:List Ans:=u3++[df,dt,dt,dt,dt,dt,dt,dt,dt,dt,dt]
    let w6:List Prf:=[⟨(rfl:ltI 1 8=true)⟩,⟨(rfl:ltI 1 8=true)⟩,⟨(rfl:ltI 1 8=true)⟩,⟨(rfl:ltI 1 8=true)⟩,⟨(rfl:ltI 1 8=true)⟩,⟨(rfl:ltI 1 8=true)⟩,⟨(rfl:ltI 1 8=true)⟩,⟨(rfl:ltI 0 1=true)⟩,⟨(rfl:ltI 0 1=true)⟩,⟨(rfl:ltI 0 1=true)⟩,⟨(nF cL0)⟩]++w4
    by_cases cL1:eqI (aE .u64 x3.1 8) 0=true
    · rw[if_pos cL1] at h
      obtain⟨aN0,eL2,h⟩:=bsm h
      let w8:List Prf:=[⟨(rD k x3.1 (([conv .u8 (aE .u64 x1.1 0)]++[conv .u8 (aE .u64 x2.1 8)])++[conv .u8 (aE .u64 x2.1 0)]) _ eL2)⟩,⟨(rfl:eqI 1 0=false)⟩,⟨(nF cL1)⟩]++w6
      obtain⟨aOG,eL3,h⟩:=bsm h
      cases aOG with
      | inl o3 =>
       simp only[Sum.elim_inl] at h
       obtain rfl:=osi h
       show LT _ _ _ _ (.st (.exit 0) (aEZ x1 x2 x3 x4))
       exact LT.next mixed (hs:=⟨[(0,[]),(6,[]),(20,[]),(21,[]),(22,[])],[⟨.tmp 6,[],none⟩],false,[],[]⟩) (es:=none) (u5++[df,df,(aL4 x1 x2 x3)]) w8 (by kernel_rfl) (oO x1 x2 x3 x4 _ k eL3)
      | inr o3 =>
       simp only[Sum.elim_inr] at h
       obtain rfl:=osi h
       show LT _ _ _ _ (.fin (.tup [(.sl 1 (List.map aN o3.1)),(.int .i64 o3.2)]) [])
       exact LT.next mixed (hs:=⟨[(0,[]),(6,[]),(20,[]),(21,[]),(22,[])],[⟨.tmp 6,[],none⟩],false,[],[]⟩) (es:=none) (u5++[df,df,(aL4 x1 x2 x3)]) w8 (by kernel_rfl) (oO x1 x2 x3 x4 _ k eL3)
    rw[if_neg cL1] at h;replace cL1:=eqf cL1
    obtain rfl:=osi h
    show LT _ _ _ _ (.fin (.tup [(.sl 1 (List.map aN (([],2).1))),(.int .i64 (([],2).2))]) [])
    exact LT.done mixed (hs:=⟨[],[],false,[],[]⟩) (es:=none) (u5++[dt,qJ]) ([⟨(nT cL1)⟩]++w6) (by kernel_rfl) (fun s h=>by cases h)
  rw[if_neg cL0] at h;replace cL0:=eqf cL0
  obtain rfl:=osi h
  show LT _ _ _ _ (.fin (.tup [(.sl 1 (List.map aN (([],2).1))),(.int .i64 (([],2).2))]) [])
  exact LT.done mixed (hs:=⟨[],[],false,[],[]⟩) (es:=none) (u3++[dt,dt,qJ]) ([⟨(nT cL0)⟩,⟨(nT cL0)⟩]++w4) (by kernel_rfl) (fun s h=>by cases h)
theorem nX (x1:Int × ByteArray) (x2:Int × ByteArray) (x3:Int × ByteArray) (x4:Int × ByteArray) (y:Ty3):∀(k:Nat),eH k x1 x2 x3 x4=some y→LT Tryz.prog aBY L31_1_1 (S31_1_1 x1 x2 x3 x4) (O31_1_1 x1 x2 x3 x4 y)
 | 0,h=>by cases h
 | k+1,h=>by
  rw[eH] at h
  let u9:List Ans:=[dt,.n 4,.row [(.int .u64 x2.1),(.str x2.2)],.call ⟨true,[]⟩ (.int .i64 2) [],df,df,df,df,df,df,df,dt,dt,dt,dt]
  let w10:List Prf:=[⟨(rfl:ltI 0 2=true)⟩,⟨(rfl:ltI 0 2=true)⟩,⟨(rfl:ltI 0 2=true)⟩,⟨(rfl:ltI 0 2=true)⟩,⟨rF⟩,⟨(rfl:eqI 2 0=false)⟩,⟨(rfl:eqI 2 0=false)⟩,⟨(rfl:eqI 2 0=false)⟩,⟨(rfl:eqI 2 0=false)⟩,⟨(rfl:eqI 2 0=false)⟩,⟨(rfl:eqI 2 0=false)⟩,⟨(sC)⟩,⟨(rfl:fR 2 (List.map aU [x1,x2,x3,x4]) 1 0 2=some [(.int .u64 x2.1),(.str x2.2)])⟩,⟨(rfl:inI 1 4=true)⟩,⟨(rfl:(List.map aU [x1,x2,x3,x4]).length=4)⟩,⟨(rfl:ltI 1 4=true)⟩]
  by_cases cL0:eqS x2.2 (ByteArray.mk #[])=true
  · rw[if_pos cL0] at h
    let u11:List Ans:=u9++[df,dt,dt,dt,dt,dt,dt,dt,dt,dt,dt]
    let w12:List Prf:=[⟨(rfl:ltI 2 8=true)⟩,⟨(rfl:ltI 2 8=true)⟩,⟨(rfl:ltI 2 8=true)⟩,⟨(rfl:ltI 2 8=true)⟩,⟨(rfl:ltI 2 8=true)⟩,⟨(rfl:ltI 2 8=true)⟩,⟨(rfl:ltI 2 8=true)⟩,⟨(rfl:ltI 0 2=true)⟩,⟨(rfl:ltI 0 2=true)⟩,⟨(rfl:ltI 0 2=true)⟩,⟨(nF cL0)⟩]++w10
    by_cases cL1:eqI (aE .u64 x2.1 16) 0=true
    · rw[if_pos cL1] at h
      obtain⟨aN1,eL2,h⟩:=bsm h
      let w14:List Prf:=[⟨(aBB k x2.1 [conv .u8 (aE .u64 x1.1 0)] _ eL2)⟩,⟨(rfl:eqI 2 0=false)⟩,⟨(nF cL1)⟩]++w12
      obtain⟨aOH,eL3,h⟩:=bsm h
      cases aOH with
      | inl o4 =>
       simp only[Sum.elim_inl] at h
       obtain rfl:=osi h
       show LT _ _ _ _ (.st (.exit 0) (aFC x1 x2 x3 x4))
       exact LT.next mixed (hs:=⟨[(0,[]),(6,[]),(20,[]),(21,[]),(22,[])],[⟨.tmp 6,[],none⟩],false,[],[]⟩) (es:=none) (u11++[df,df,(aMB x1 x2)]) w14 (by kernel_rfl) (nV x1 x2 x3 x4 _ k eL3)
      | inr o4 =>
       simp only[Sum.elim_inr] at h
       obtain rfl:=osi h
       show LT _ _ _ _ (.fin (.tup [(.sl 1 (List.map aN o4.1)),(.int .i64 o4.2)]) [])
       exact LT.next mixed (hs:=⟨[(0,[]),(6,[]),(20,[]),(21,[]),(22,[])],[⟨.tmp 6,[],none⟩],false,[],[]⟩) (es:=none) (u11++[df,df,(aMB x1 x2)]) w14 (by kernel_rfl) (nV x1 x2 x3 x4 _ k eL3)
    rw[if_neg cL1] at h;replace cL1:=eqf cL1
    obtain rfl:=osi h
    show LT _ _ _ _ (.fin (.tup [(.sl 1 (List.map aN (([],2).1))),(.int .i64 (([],2).2))]) [])
    exact LT.done mixed (hs:=⟨[],[],false,[],[]⟩) (es:=none) (u11++[dt,qJ]) ([⟨(nT cL1)⟩]++w12) (by kernel_rfl) (fun s h=>by cases h)
  rw[if_neg cL0] at h;replace cL0:=eqf cL0
  obtain rfl:=osi h
  show LT _ _ _ _ (.fin (.tup [(.sl 1 (List.map aN (([],2).1))),(.int .i64 (([],2).2))]) [])
  exact LT.done mixed (hs:=⟨[],[],false,[],[]⟩) (es:=none) (u9++[dt,dt,qJ]) ([⟨(nT cL0)⟩,⟨(nT cL0)⟩]++w10) (by kernel_rfl) (fun s h=>by cases h)
theorem oG (x1:Int × ByteArray) (x2:Int × ByteArray) (x3:Int × ByteArray) (x4:Int × ByteArray) (y:Ty3):∀(k:Nat),dW k x1 x2 x3 x4=some y→LT Tryz.prog aBY L31_1_0 (S31_1_0 x1 x2 x3 x4) (O31_1_0 x1 x2 x3 x4 y)
 | 0,h=>by cases h
 | k+1,h=>by
  rw[dW] at h
  let u15:List Ans:=[dt,.n 4,.row [(.int .u64 x1.1),(.str x1.2)],.call ⟨true,[]⟩ (.int .i64 1) [],df,df,df,df,df,df,df,dt,dt,dt,dt]
  let w16:List Prf:=[⟨(rfl:ltI 0 1=true)⟩,⟨(rfl:ltI 0 1=true)⟩,⟨(rfl:ltI 0 1=true)⟩,⟨(rfl:ltI 0 1=true)⟩,⟨rF⟩,⟨(rfl:eqI 1 0=false)⟩,⟨(rfl:eqI 1 0=false)⟩,⟨(rfl:eqI 1 0=false)⟩,⟨(rfl:eqI 1 0=false)⟩,⟨(rfl:eqI 1 0=false)⟩,⟨(rfl:eqI 1 0=false)⟩,⟨(fY)⟩,⟨(rfl:fR 2 (List.map aU [x1,x2,x3,x4]) 0 0 2=some [(.int .u64 x1.1),(.str x1.2)])⟩,⟨(rfl:inI 0 4=true)⟩,⟨(rfl:(List.map aU [x1,x2,x3,x4]).length=4)⟩,⟨(rfl:ltI 0 4=true)⟩]
  by_cases cL0:eqS x1.2 (ByteArray.mk #[])=true
  · rw[if_pos cL0] at h
    let u17:List Ans:=u15++[df,dt,dt,dt,dt,dt,dt,dt,dt,dt,dt]
    let w18:List Prf:=[⟨(rfl:ltI 1 8=true)⟩,⟨(rfl:ltI 1 8=true)⟩,⟨(rfl:ltI 1 8=true)⟩,⟨(rfl:ltI 1 8=true)⟩,⟨(rfl:ltI 1 8=true)⟩,⟨(rfl:ltI 1 8=true)⟩,⟨(rfl:ltI 1 8=true)⟩,⟨(rfl:ltI 0 1=true)⟩,⟨(rfl:ltI 0 1=true)⟩,⟨(rfl:ltI 0 1=true)⟩,⟨(nF cL0)⟩]++w16
    by_cases cL1:eqI (aE .u64 x1.1 8) 0=true
    · rw[if_pos cL1] at h
      obtain⟨aN2,eL2,h⟩:=bsm h
      let w20:List Prf:=[⟨(s6 k x1.1 _ eL2)⟩,⟨(rfl:eqI 1 0=false)⟩,⟨(nF cL1)⟩]++w18
      obtain⟨aOI,eL3,h⟩:=bsm h
      cases aOI with
      | inl o5 =>
       simp only[Sum.elim_inl] at h
       obtain rfl:=osi h
       show LT _ _ _ _ (.st (.exit 0) (uF x1 x2 x3 x4))
       exact LT.next mixed (hs:=⟨[(0,[]),(6,[]),(20,[]),(21,[]),(22,[])],[⟨.tmp 6,[],none⟩],false,[],[]⟩) (es:=none) (u17++[df,df,(aLI x1)]) w20 (by kernel_rfl) (nX x1 x2 x3 x4 _ k eL3)
      | inr o5 =>
       simp only[Sum.elim_inr] at h
       obtain rfl:=osi h
       show LT _ _ _ _ (.fin (.tup [(.sl 1 (List.map aN o5.1)),(.int .i64 o5.2)]) [])
       exact LT.next mixed (hs:=⟨[(0,[]),(6,[]),(20,[]),(21,[]),(22,[])],[⟨.tmp 6,[],none⟩],false,[],[]⟩) (es:=none) (u17++[df,df,(aLI x1)]) w20 (by kernel_rfl) (nX x1 x2 x3 x4 _ k eL3)
    rw[if_neg cL1] at h;replace cL1:=eqf cL1
    obtain rfl:=osi h
    show LT _ _ _ _ (.fin (.tup [(.sl 1 (List.map aN (([],2).1))),(.int .i64 (([],2).2))]) [])
    exact LT.done mixed (hs:=⟨[],[],false,[],[]⟩) (es:=none) (u17++[dt,qJ]) ([⟨(nT cL1)⟩]++w18) (by kernel_rfl) (fun s h=>by cases h)
  rw[if_neg cL0] at h;replace cL0:=eqf cL0
  obtain rfl:=osi h
  show LT _ _ _ _ (.fin (.tup [(.sl 1 (List.map aN (([],2).1))),(.int .i64 (([],2).2))]) [])
  exact LT.done mixed (hs:=⟨[],[],false,[],[]⟩) (es:=none) (u15++[dt,dt,qJ]) ([⟨(nT cL0)⟩,⟨(nT cL0)⟩]++w16) (by kernel_rfl) (fun s h=>by cases h)
theorem aA2 (k:Nat) (x1:Int × ByteArray) (x2:Int × ByteArray) (x3:Int × ByteArray) (x4:Int × ByteArray) (r:(List Int) × Int) (h:iH k x1 x2 x3 x4=some r):Tri Tryz.prog 31 [(.str (ByteArray.mk #[97,98,97,100])),(.sl 2 (List.map aU [x1,x2,x3,x4]))] [] (.tup [(.sl 1 (List.map aN r.1)),(.int .i64 r.2)]) []:=by
 unfold iH at h
 let u21:List Ans:=[.call ⟨true,[]⟩ (.bool (eqS (ByteArray.mk #[]) (ByteArray.mk #[]))) [],df,df,.n 4,df,df,df,df,df,.n 4,.norm 2 ⟨[(0,[]),(6,[]),(20,[]),(21,[]),(22,[])],[],false,[],[]⟩]
 let w22:List Prf:=[⟨(rfl:(List.map aU [x1,x2,x3,x4]).length=4)⟩,⟨(nF (rfl:eqI 4 4=true))⟩,⟨(nF (gJ (ByteArray.mk #[])))⟩,⟨(nF (gJ (ByteArray.mk #[])))⟩,⟨(nF (gJ (ByteArray.mk #[])))⟩,⟨(nF (gJ (ByteArray.mk #[])))⟩,⟨(rfl:(List.map aU [x1,x2,x3,x4]).length=4)⟩,⟨(nF (gJ (ByteArray.mk #[])))⟩,⟨(nF (gJ (ByteArray.mk #[])))⟩,⟨(q9)⟩]
 obtain⟨x5,e0,h⟩:=bsm h
 cases x5 with
 | inl x6 =>
  simp only[Sum.elim_inl] at h
  let w24:List Prf:=[⟨(LT.block (oG x1 x2 x3 x4 _ k e0))⟩]++w22
  by_cases c2:ltI 4000 (nI (((((((((((([conv .u8 (aE .u64 x1.1 0)]++[conv .u8 (aE .u64 x2.1 8)])++[conv .u8 (aE .u64 x2.1 0)])++[conv .u8 (aE .u64 x3.1 0)])++[conv .u8 (aE .u64 x4.1 56)])++[conv .u8 (aE .u64 x4.1 48)])++[conv .u8 (aE .u64 x4.1 40)])++[conv .u8 (aE .u64 x4.1 32)])++[conv .u8 (aE .u64 x4.1 24)])++[conv .u8 (aE .u64 x4.1 16)])++[conv .u8 (aE .u64 x4.1 8)])++[conv .u8 (aE .u64 x4.1 0)]).length))=true
  · rw[if_pos c2] at h
    obtain rfl:=osi h
    exact Tri.of (x:=aBY) mixed t8 (u21++[.out (.st .normal (uF x1 x2 x3 x4)),dt,qJ]) ([⟨c2⟩]++w24) (by kernel_rfl)
  rw[if_neg c2] at h;replace c2:=eqf c2
  obtain rfl:=osi h
  exact Tri.of (x:=aBY) mixed t8 (u21++[.out (.st .normal (uF x1 x2 x3 x4)),df,.rows (List.map aN ((((((((((([conv .u8 (aE .u64 x1.1 0)]++[conv .u8 (aE .u64 x2.1 8)])++[conv .u8 (aE .u64 x2.1 0)])++[conv .u8 (aE .u64 x3.1 0)])++[conv .u8 (aE .u64 x4.1 56)])++[conv .u8 (aE .u64 x4.1 48)])++[conv .u8 (aE .u64 x4.1 40)])++[conv .u8 (aE .u64 x4.1 32)])++[conv .u8 (aE .u64 x4.1 24)])++[conv .u8 (aE .u64 x4.1 16)])++[conv .u8 (aE .u64 x4.1 8)])++[conv .u8 (aE .u64 x4.1 0)]))]) ([⟨(bS aN (l:=((((((((((([conv .u8 (aE .u64 x1.1 0)]++[conv .u8 (aE .u64 x2.1 8)])++[conv .u8 (aE .u64 x2.1 0)])++[conv .u8 (aE .u64 x3.1 0)])++[conv .u8 (aE .u64 x4.1 56)])++[conv .u8 (aE .u64 x4.1 48)])++[conv .u8 (aE .u64 x4.1 40)])++[conv .u8 (aE .u64 x4.1 32)])++[conv .u8 (aE .u64 x4.1 24)])++[conv .u8 (aE .u64 x4.1 16)])++[conv .u8 (aE .u64 x4.1 8)])++[conv .u8 (aE .u64 x4.1 0)])) (n:=(((((((((((([conv .u8 (aE .u64 x1.1 0)]++[conv .u8 (aE .u64 x2.1 8)])++[conv .u8 (aE .u64 x2.1 0)])++[conv .u8 (aE .u64 x3.1 0)])++[conv .u8 (aE .u64 x4.1 56)])++[conv .u8 (aE .u64 x4.1 48)])++[conv .u8 (aE .u64 x4.1 40)])++[conv .u8 (aE .u64 x4.1 32)])++[conv .u8 (aE .u64 x4.1 24)])++[conv .u8 (aE .u64 x4.1 16)])++[conv .u8 (aE .u64 x4.1 8)])++[conv .u8 (aE .u64 x4.1 0)]).length)) rfl)⟩,⟨(b9 aN (Nat.le_refl (((((((((((([conv .u8 (aE .u64 x1.1 0)]++[conv .u8 (aE .u64 x2.1 8)])++[conv .u8 (aE .u64 x2.1 0)])++[conv .u8 (aE .u64 x3.1 0)])++[conv .u8 (aE .u64 x4.1 56)])++[conv .u8 (aE .u64 x4.1 48)])++[conv .u8 (aE .u64 x4.1 40)])++[conv .u8 (aE .u64 x4.1 32)])++[conv .u8 (aE .u64 x4.1 24)])++[conv .u8 (aE .u64 x4.1 16)])++[conv .u8 (aE .u64 x4.1 8)])++[conv .u8 (aE .u64 x4.1 0)]).length)):0+((((((((((([conv .u8 (aE .u64 x1.1 0)]++[conv .u8 (aE .u64 x2.1 8)])++[conv .u8 (aE .u64 x2.1 0)])++[conv .u8 (aE .u64 x3.1 0)])++[conv .u8 (aE .u64 x4.1 56)])++[conv .u8 (aE .u64 x4.1 48)])++[conv .u8 (aE .u64 x4.1 40)])++[conv .u8 (aE .u64 x4.1 32)])++[conv .u8 (aE .u64 x4.1 24)])++[conv .u8 (aE .u64 x4.1 16)])++[conv .u8 (aE .u64 x4.1 8)])++[conv .u8 (aE .u64 x4.1 0)]).length≤(List.map aN ((((((((((([conv .u8 (aE .u64 x1.1 0)]++[conv .u8 (aE .u64 x2.1 8)])++[conv .u8 (aE .u64 x2.1 0)])++[conv .u8 (aE .u64 x3.1 0)])++[conv .u8 (aE .u64 x4.1 56)])++[conv .u8 (aE .u64 x4.1 48)])++[conv .u8 (aE .u64 x4.1 40)])++[conv .u8 (aE .u64 x4.1 32)])++[conv .u8 (aE .u64 x4.1 24)])++[conv .u8 (aE .u64 x4.1 16)])++[conv .u8 (aE .u64 x4.1 8)])++[conv .u8 (aE .u64 x4.1 0)])).length)⟩,⟨c2⟩]++w24) (by kernel_rfl)
 | inr x6 =>
  simp only[Sum.elim_inr] at h
  obtain rfl:=osi h
  exact Tri.of (x:=aBY) mixed t8 (u21++[.out (.fin (.tup [(.sl 1 (List.map aN x6.1)),(.int .i64 x6.2)]) [])]) ([⟨(LT.blockFin (id:=0) (oG x1 x2 x3 x4 _ k e0))⟩]++w22) (by kernel_rfl)
end Go.Ws

namespace Go.Ws
open Go.Proofs
set_option linter.unusedSimpArgs false
set_option linter.unusedVariables false
set_option maxRecDepth 1000000
set_option maxHeartbeats 4000000
noncomputable def X8:Ctx:=⟨Tryz.f8,[],true⟩
theorem aGW (k:Nat) (x1:Int) (x2:Int) (x3:Int) (x4:Int) (r:(List Int) × Int) (h:oU k x1 x2 x3 x4=some r):Tri Tryz.prog 8 [(.agg [(.int .i64 x1),(.int .i64 x2),(.int .u8 x3),(.int .i64 x4)])] [] (.tup [(.sl 1 (List.map aN r.1)),(.int .i64 r.2)]) []:=by
 unfold oU at h
 obtain⟨x5,e0,h⟩:=bsm h
 obtain rfl:=osi h
 exact Tri.of (x:=X8) mixed facts8 [.call ⟨true,[]⟩ (.int .u64 (gU x4)) [],.call ⟨true,[]⟩ (.tup [(.sl 1 (List.map aN x5.1)),(.int .i64 x5.2)]) [],.rows (List.map aU [(conv .u64 x1,(ByteArray.mk #[])),(conv .u64 x2,(ByteArray.mk #[])),(conv .u64 x3,(ByteArray.mk #[])),((gU x4),(ByteArray.mk #[]))])] [⟨(aA2 k (conv .u64 x1,(ByteArray.mk #[])) (conv .u64 x2,(ByteArray.mk #[])) (conv .u64 x3,(ByteArray.mk #[])) ((gU x4),(ByteArray.mk #[])) _ e0)⟩,⟨(bS aU (l:=[(conv .u64 x1,(ByteArray.mk #[])),(conv .u64 x2,(ByteArray.mk #[])),(conv .u64 x3,(ByteArray.mk #[])),((gU x4),(ByteArray.mk #[]))]) (n:=4) rfl)⟩,⟨(b9 aU (Nat.le_refl 4):0+4≤(List.map aU [(conv .u64 x1,(ByteArray.mk #[])),(conv .u64 x2,(ByteArray.mk #[])),(conv .u64 x3,(ByteArray.mk #[])),((gU x4),(ByteArray.mk #[]))]).length)⟩,⟨(aG3 x4)⟩] (by kernel_rfl)
end Go.Ws

namespace Go.Ws
open Go.Proofs
set_option linter.unusedSimpArgs false
set_option linter.unusedVariables false
set_option maxRecDepth 1000000
set_option maxHeartbeats 4000000
noncomputable def X56_1001:Ctx:=⟨Tryz.f56,[],false⟩
theorem tL (k:Nat) (x1:List Int) (r:Unit) (h:fU k x1=some r):Tri Tryz.prog 56 [(.inl 1 (List.map aN x1))] [] (.ref 1 0 0 0 x1.length .virt) [(.arr 1 (List.map aN x1) 0 0 false)]:=by
 unfold fU at h
 by_cases c0:bV (x1.length*1)=true
 · rw[if_pos c0] at h
   obtain rfl:=osi h
   exact Tri.of (x:=X56_1001) mixed aLY [df,.n x1.length,.norm 0 ⟨[(2,[])],[⟨.tmp 2,[],some 1⟩],false,[],[]⟩,.n x1.length,.rows (List.map aN x1)] [⟨(eN aN (l:=x1) (n:=x1.length) rfl)⟩,⟨(rfl:x1.length=x1.length)⟩,⟨(zle x1.length)⟩,⟨c0⟩,⟨(bK aN x1)⟩,⟨rF⟩] (by kernel_rfl)
 rw[if_neg c0] at h;replace c0:=eqf c0
 cases h
end Go.Ws

namespace Go.Ws
open Go.Proofs
set_option linter.unusedSimpArgs false
set_option linter.unusedVariables false
set_option maxRecDepth 1000000
set_option maxHeartbeats 4000000
noncomputable def X56_1002:Ctx:=⟨Tryz.f56,[],false⟩
theorem tU:Tri Tryz.prog 56 [.nils] [] (.ref 1 0 0 0 0 .virt) [(.arr 1 (List.map aN []) 0 0 false)]:=by
 obtain⟨r,h⟩:∃r,kT=r:=⟨_,rfl⟩
 try rw[h]
 unfold kT at h
 obtain rfl:=h
 exact Tri.of (x:=X56_1002) mixed aLY [dt,.norm 0 ⟨[(2,[])],[⟨.tmp 2,[],some 1⟩],false,[],[]⟩,.n 0,.rows (List.map aN [])] [⟨(eN aN (l:=[]) (n:=0) rfl)⟩,⟨(rfl:0=0)⟩,⟨(zle 0)⟩,⟨rT⟩] (by kernel_rfl)
end Go.Ws

namespace Go.Ws
open Go.Proofs
set_option linter.unusedSimpArgs false
set_option linter.unusedVariables false
set_option maxRecDepth 1000000
set_option maxHeartbeats 4000000
theorem j2 (k:Nat) (x1:List Int) (r:Unit) (h:gI k x1=some r):Tri Tryz.prog 56 [(.sl 1 (List.map aN x1))] [] (.ref 1 0 0 0 x1.length .virt) [(.arr 1 (List.map aN x1) 0 0 false)]:=by
 refine Tri.slOf (tL k x1 r h) fun h0=>?_
 have hx:x1=[]:=by simpa using h0
 subst hx
 exact tU
end Go.Ws

namespace Go.Ws
open Go.Proofs
set_option linter.unusedSimpArgs false
set_option linter.unusedVariables false
set_option maxRecDepth 1000000
set_option maxHeartbeats 4000000
noncomputable def X33:Ctx:=⟨Tryz.f33,[],false⟩
theorem aBA (k:Nat) (x1:List Int) (x2:Int) (x3:Int) (x4:Int) (r:Unit) (h:iG k x1 x2 x3 x4=some r):Tri Tryz.prog 33 [(.agg [(.sl 1 (List.map aN x1)),(.int .i64 x2),(.int .i64 x3)]),(.int .i64 x4)] [] (.agg [(.ref 1 0 0 0 ((List.take (tN (cK 0 (cF x4 (nI x1.length)))) x1).length) .virt),(.int .i64 (cF x2 (cK 0 (cF x4 (nI x1.length))))),(.int .i64 x3)]) [(.arr 1 (List.map aN (List.take (tN (cK 0 (cF x4 (nI x1.length)))) x1)) 0 0 false)]:=by
 unfold iG at h
 by_cases c0:leI (cK 0 (cF x4 (nI x1.length))) x1.length=true
 · rw[if_pos c0] at h
   obtain⟨x5,e1,h⟩:=bsm h
   obtain rfl:=osi h
   exact Tri.of (x:=X33) mixed aMD [.n x1.length,.n x1.length,.rows (List.map aN (List.take (tN (cK 0 (cF x4 (nI x1.length)))) x1)),.call ⟨true,[]⟩ (.ref 1 0 0 0 ((List.take (tN (cK 0 (cF x4 (nI x1.length)))) x1).length) .virt) [(.arr 1 (List.map aN (List.take (tN (cK 0 (cF x4 (nI x1.length)))) x1)) 0 0 false)],.norm 0 ⟨[(4,[])],[⟨.tmp 4,[],none⟩,⟨.cell 0 0,[],none⟩],false,[],[]⟩] [⟨(j2 k (List.take (tN (cK 0 (cF x4 (nI x1.length)))) x1) _ e1)⟩,⟨(zM aN x1 (tN (cK 0 (cF x4 (nI x1.length)))))⟩,⟨c0⟩,⟨(bK aN x1)⟩,⟨(bK aN x1)⟩] (by kernel_rfl)
 rw[if_neg c0] at h;replace c0:=eqf c0
 cases h
end Go.Ws

namespace Go.Ws
open Go.Proofs
set_option linter.unusedSimpArgs false
set_option linter.unusedVariables false
set_option maxRecDepth 1000000
set_option maxHeartbeats 4000000
theorem aEC (k:Nat) (x1:List Int) (r:Int) (h:tX k x1=some r):Tri Tryz.prog 57 [(.sl 1 (List.map aN x1))] [] (.int .u32 r) []:=sum_tri h
end Go.Ws

namespace Go.Ws
open Go.Proofs
set_option linter.unusedSimpArgs false
set_option linter.unusedVariables false
set_option maxRecDepth 1000000
set_option maxHeartbeats 4000000
noncomputable def X34:Ctx:=⟨Tryz.f34,[],true⟩
def A34_0 (x1:List Int):Ans:=.rows (List.map aN ([1,conv .u8 (aE .i64 (nI x1.length) 8),conv .u8 (nI x1.length)]++x1))
def A34_1 (x1:List Int) (x2:Int):Ans:=.rows (List.map aN (([1,conv .u8 (aE .i64 (nI x1.length) 8),conv .u8 (nI x1.length)]++x1)++[conv .u8 (aE .u32 x2 24),conv .u8 (aE .u32 x2 16),conv .u8 (aE .u32 x2 8),conv .u8 x2]))
theorem aHX (k:Nat) (x1:List Int) (r:(List Int) × Int) (h:oY k x1=some r):Tri Tryz.prog 34 [(.sl 1 (List.map aN x1))] [] (.tup [(.sl 1 (List.map aN r.1)),(.int .i64 r.2)]) []:=by
 unfold oY at h
 by_cases c0:ltI 4000 (nI x1.length)=true
 · rw[if_pos c0] at h
   obtain rfl:=osi h
   exact Tri.of (x:=X34) mixed aL7 [.n x1.length,dt,.norm 0 ⟨[(2,[(0,1)]),(3,[])],[],false,[],[]⟩] [⟨c0⟩,⟨(bK aN x1)⟩] (by kernel_rfl)
 rw[if_neg c0] at h;replace c0:=eqf c0
 by_cases c1:bV ((([1,conv .u8 (aE .i64 (nI x1.length) 8),conv .u8 (nI x1.length)]++x1).length)*1)=true
 · rw[if_pos c1] at h
   obtain⟨x2,e2,h⟩:=bsm h
   by_cases c3:bV (((([1,conv .u8 (aE .i64 (nI x1.length) 8),conv .u8 (nI x1.length)]++x1)++[conv .u8 (aE .u32 x2 24),conv .u8 (aE .u32 x2 16),conv .u8 (aE .u32 x2 8),conv .u8 x2]).length)*1)=true
   · rw[if_pos c3] at h
     obtain rfl:=osi h
     exact Tri.of (x:=X34) mixed aL7 [.n x1.length,df,.n (([1,conv .u8 (aE .i64 (nI x1.length) 8),conv .u8 (nI x1.length)]++x1).length),.n 3,dt,(A34_0 x1),.call ⟨true,[]⟩ (.int .u32 x2) [],(A34_0 x1),.rows (List.map aN [conv .u8 (aE .u32 x2 24),conv .u8 (aE .u32 x2 16),conv .u8 (aE .u32 x2 8),conv .u8 x2]),.n ((([1,conv .u8 (aE .i64 (nI x1.length) 8),conv .u8 (nI x1.length)]++x1)++[conv .u8 (aE .u32 x2 24),conv .u8 (aE .u32 x2 16),conv .u8 (aE .u32 x2 8),conv .u8 x2]).length),.n (([1,conv .u8 (aE .i64 (nI x1.length) 8),conv .u8 (nI x1.length)]++x1).length),dt,(A34_1 x1 x2),(A34_1 x1 x2)] [⟨(bS aN (l:=(([1,conv .u8 (aE .i64 (nI x1.length) 8),conv .u8 (nI x1.length)]++x1)++[conv .u8 (aE .u32 x2 24),conv .u8 (aE .u32 x2 16),conv .u8 (aE .u32 x2 8),conv .u8 x2])) (n:=((([1,conv .u8 (aE .i64 (nI x1.length) 8),conv .u8 (nI x1.length)]++x1)++[conv .u8 (aE .u32 x2 24),conv .u8 (aE .u32 x2 16),conv .u8 (aE .u32 x2 8),conv .u8 x2]).length)) rfl)⟩,⟨(b9 aN (Nat.le_refl ((([1,conv .u8 (aE .i64 (nI x1.length) 8),conv .u8 (nI x1.length)]++x1)++[conv .u8 (aE .u32 x2 24),conv .u8 (aE .u32 x2 16),conv .u8 (aE .u32 x2 8),conv .u8 x2]).length)):0+(([1,conv .u8 (aE .i64 (nI x1.length) 8),conv .u8 (nI x1.length)]++x1)++[conv .u8 (aE .u32 x2 24),conv .u8 (aE .u32 x2 16),conv .u8 (aE .u32 x2 8),conv .u8 x2]).length≤(List.map aN (([1,conv .u8 (aE .i64 (nI x1.length) 8),conv .u8 (nI x1.length)]++x1)++[conv .u8 (aE .u32 x2 24),conv .u8 (aE .u32 x2 16),conv .u8 (aE .u32 x2 8),conv .u8 x2])).length)⟩,⟨(dF aN ([1,conv .u8 (aE .i64 (nI x1.length) 8),conv .u8 (nI x1.length)]++x1) [conv .u8 (aE .u32 x2 24),conv .u8 (aE .u32 x2 16),conv .u8 (aE .u32 x2 8),conv .u8 x2])⟩,⟨(cX (([1,conv .u8 (aE .i64 (nI x1.length) 8),conv .u8 (nI x1.length)]++x1).length))⟩,⟨(bK aN ([1,conv .u8 (aE .i64 (nI x1.length) 8),conv .u8 (nI x1.length)]++x1))⟩,⟨c3⟩,⟨(by simp only[wl,List.length_map,List.map_nil,List.map_cons]<;>omega:(([1,conv .u8 (aE .i64 (nI x1.length) 8),conv .u8 (nI x1.length)]++x1).length)+(List.map aN [conv .u8 (aE .u32 x2 24),conv .u8 (aE .u32 x2 16),conv .u8 (aE .u32 x2 8),conv .u8 x2]).length=(([1,conv .u8 (aE .i64 (nI x1.length) 8),conv .u8 (nI x1.length)]++x1)++[conv .u8 (aE .u32 x2 24),conv .u8 (aE .u32 x2 16),conv .u8 (aE .u32 x2 8),conv .u8 x2]).length)⟩,⟨(bS aN (l:=[conv .u8 (aE .u32 x2 24),conv .u8 (aE .u32 x2 16),conv .u8 (aE .u32 x2 8),conv .u8 x2]) (n:=4) rfl)⟩,⟨(b9 aN (Nat.le_refl 4):0+4≤(List.map aN [conv .u8 (aE .u32 x2 24),conv .u8 (aE .u32 x2 16),conv .u8 (aE .u32 x2 8),conv .u8 x2]).length)⟩,⟨(aEC k ([1,conv .u8 (aE .i64 (nI x1.length) 8),conv .u8 (nI x1.length)]++x1) _ e2)⟩,⟨(bS aN (l:=([1,conv .u8 (aE .i64 (nI x1.length) 8),conv .u8 (nI x1.length)]++x1)) (n:=(([1,conv .u8 (aE .i64 (nI x1.length) 8),conv .u8 (nI x1.length)]++x1).length)) rfl)⟩,⟨(b9 aN (Nat.le_refl (([1,conv .u8 (aE .i64 (nI x1.length) 8),conv .u8 (nI x1.length)]++x1).length)):0+([1,conv .u8 (aE .i64 (nI x1.length) 8),conv .u8 (nI x1.length)]++x1).length≤(List.map aN ([1,conv .u8 (aE .i64 (nI x1.length) 8),conv .u8 (nI x1.length)]++x1)).length)⟩,⟨(dF aN [1,conv .u8 (aE .i64 (nI x1.length) 8),conv .u8 (nI x1.length)] x1)⟩,⟨(rfl:eqN 3 3=true)⟩,⟨(rfl:(List.map aN [1,conv .u8 (aE .i64 (nI x1.length) 8),conv .u8 (nI x1.length)]).length=3)⟩,⟨c1⟩,⟨(by simp only[wl,List.length_map,List.map_nil,List.map_cons]<;>omega:3+(List.map aN x1).length=([1,conv .u8 (aE .i64 (nI x1.length) 8),conv .u8 (nI x1.length)]++x1).length)⟩,⟨c0⟩,⟨(bK aN x1)⟩] (by kernel_rfl)
   rw[if_neg c3] at h;replace c3:=eqf c3
   cases h
 rw[if_neg c1] at h;replace c1:=eqf c1
 cases h
end Go.Ws

namespace Go.Ws
open Go.Proofs
set_option linter.unusedSimpArgs false
set_option linter.unusedVariables false
set_option maxRecDepth 1000000
set_option maxHeartbeats 4000000
noncomputable def X9:Ctx:=⟨Tryz.f9,[],true⟩
theorem aDR (k:Nat) (x1:List Int) (x2:Int) (x3:Int) (x4:List Int) (r:(List Int) × Int × Int × Int) (h:kB k x1 x2 x3 x4=some r):Tri Tryz.prog 9 [(.agg [(.sl 1 (List.map aN x1)),(.int .i64 x2),(.int .i64 x3)]),(.sl 1 (List.map aN x4))] [] (.tup [(.agg [(.sl 1 (List.map aN r.1)),(.int .i64 r.2.1),(.int .i64 r.2.2.1)]),(.int .i64 r.2.2.2)]) []:=by
 unfold kB at h
 obtain⟨x5,e0,h⟩:=bsm h
 obtain⟨x6,e1,h⟩:=bsm h
 let u1:List Ans:=[.n x1.length,.call ⟨true,[]⟩ (.agg [(.ref 1 0 0 0 ((List.take (tN (cK 0 (cF (nI x1.length) (nI x1.length)))) x1).length) .virt),(.int .i64 (cF x2 (cK 0 (cF (nI x1.length) (nI x1.length))))),(.int .i64 x3)]) [(.arr 1 (List.map aN (List.take (tN (cK 0 (cF (nI x1.length) (nI x1.length)))) x1)) 0 0 false)],.call ⟨true,[]⟩ (.tup [(.sl 1 (List.map aN x6.1)),(.int .i64 x6.2)]) []]
 let w2:List Prf:=[⟨(aHX k x4 _ e1)⟩,⟨(aBA k x1 x2 x3 (nI x1.length) _ e0)⟩,⟨(bK aN x1)⟩]
 by_cases c2:eqI x6.2 0=true
 · rw[if_pos c2] at h
   let w4:List Prf:=[⟨(bK aN x6.1)⟩,⟨(nF c2)⟩]++w2
   by_cases c3:ltI x3 (bI .i64 (nI ((List.take (tN (cK 0 (cF (nI x1.length) (nI x1.length)))) x1).length)) (nI x6.1.length))=true
   · rw[if_pos c3] at h
     obtain rfl:=osi h
     exact Tri.of (x:=X9) mixed aK3 (u1++[df,.n x6.1.length,dt,.rows (List.map aN (List.take (tN (cK 0 (cF (nI x1.length) (nI x1.length)))) x1))]) ([⟨(bS aN (l:=(List.take (tN (cK 0 (cF (nI x1.length) (nI x1.length)))) x1)) (n:=((List.take (tN (cK 0 (cF (nI x1.length) (nI x1.length)))) x1).length)) rfl)⟩,⟨(b9 aN (Nat.le_refl ((List.take (tN (cK 0 (cF (nI x1.length) (nI x1.length)))) x1).length)):0+(List.take (tN (cK 0 (cF (nI x1.length) (nI x1.length)))) x1).length≤(List.map aN (List.take (tN (cK 0 (cF (nI x1.length) (nI x1.length)))) x1)).length)⟩,⟨c3⟩]++w4) (by kernel_rfl)
   rw[if_neg c3] at h;replace c3:=eqf c3
   by_cases c4:bV ((((List.take (tN (cK 0 (cF (nI x1.length) (nI x1.length)))) x1)++x6.1).length)*1)=true
   · rw[if_pos c4] at h
     obtain rfl:=osi h
     exact Tri.of (x:=X9) mixed aK3 (u1++[df,.n x6.1.length,df,.n (((List.take (tN (cK 0 (cF (nI x1.length) (nI x1.length)))) x1)++x6.1).length),.n ((List.take (tN (cK 0 (cF (nI x1.length) (nI x1.length)))) x1).length),dt,.rows (List.map aN ((List.take (tN (cK 0 (cF (nI x1.length) (nI x1.length)))) x1)++x6.1)),.rows (List.map aN ((List.take (tN (cK 0 (cF (nI x1.length) (nI x1.length)))) x1)++x6.1))]) ([⟨(bS aN (l:=((List.take (tN (cK 0 (cF (nI x1.length) (nI x1.length)))) x1)++x6.1)) (n:=(((List.take (tN (cK 0 (cF (nI x1.length) (nI x1.length)))) x1)++x6.1).length)) rfl)⟩,⟨(b9 aN (Nat.le_refl (((List.take (tN (cK 0 (cF (nI x1.length) (nI x1.length)))) x1)++x6.1).length)):0+((List.take (tN (cK 0 (cF (nI x1.length) (nI x1.length)))) x1)++x6.1).length≤(List.map aN ((List.take (tN (cK 0 (cF (nI x1.length) (nI x1.length)))) x1)++x6.1)).length)⟩,⟨(dF aN (List.take (tN (cK 0 (cF (nI x1.length) (nI x1.length)))) x1) x6.1)⟩,⟨(cX ((List.take (tN (cK 0 (cF (nI x1.length) (nI x1.length)))) x1).length))⟩,⟨(bK aN (List.take (tN (cK 0 (cF (nI x1.length) (nI x1.length)))) x1))⟩,⟨c4⟩,⟨(by simp only[wl,List.length_map,List.map_nil,List.map_cons]<;>omega:((List.take (tN (cK 0 (cF (nI x1.length) (nI x1.length)))) x1).length)+(List.map aN x6.1).length=((List.take (tN (cK 0 (cF (nI x1.length) (nI x1.length)))) x1)++x6.1).length)⟩,⟨c3⟩]++w4) (by kernel_rfl)
   rw[if_neg c4] at h;replace c4:=eqf c4
   cases h
 rw[if_neg c2] at h;replace c2:=eqf c2
 obtain rfl:=osi h
 exact Tri.of (x:=X9) mixed aK3 (u1++[dt,.rows (List.map aN (List.take (tN (cK 0 (cF (nI x1.length) (nI x1.length)))) x1))]) ([⟨(bS aN (l:=(List.take (tN (cK 0 (cF (nI x1.length) (nI x1.length)))) x1)) (n:=((List.take (tN (cK 0 (cF (nI x1.length) (nI x1.length)))) x1).length)) rfl)⟩,⟨(b9 aN (Nat.le_refl ((List.take (tN (cK 0 (cF (nI x1.length) (nI x1.length)))) x1).length)):0+(List.take (tN (cK 0 (cF (nI x1.length) (nI x1.length)))) x1).length≤(List.map aN (List.take (tN (cK 0 (cF (nI x1.length) (nI x1.length)))) x1)).length)⟩,⟨(nT c2)⟩]++w2) (by kernel_rfl)
end Go.Ws

namespace Go.Ws
open Go.Proofs
set_option linter.unusedSimpArgs false
set_option linter.unusedVariables false
set_option maxRecDepth 1000000
set_option maxHeartbeats 4000000
noncomputable def X33_1:Ctx:=⟨Tryz.f33,[],true⟩
theorem pU (k:Nat) (x1:List Int) (x2:Int) (x3:Int) (x4:Int) (r:(List Int) × Int × Int) (h:fV k x1 x2 x3 x4=some r):Tri Tryz.prog 33 [(.agg [(.sl 1 (List.map aN x1)),(.int .i64 x2),(.int .i64 x3)]),(.int .i64 x4)] [] (.agg [(.sl 1 (List.map aN r.1)),(.int .i64 r.2.1),(.int .i64 r.2.2)]) []:=by
 unfold fV at h
 by_cases c0:leI (cK 0 (cF x4 (nI x1.length))) x1.length=true
 · rw[if_pos c0] at h
   obtain⟨x5,e1,h⟩:=bsm h
   obtain rfl:=osi h
   exact Tri.of (x:=X33_1) mixed aMD [.n x1.length,.n x1.length,.rows (List.map aN (List.take (tN (cK 0 (cF x4 (nI x1.length)))) x1)),.call ⟨true,[]⟩ (.ref 1 0 0 0 ((List.take (tN (cK 0 (cF x4 (nI x1.length)))) x1).length) .virt) [(.arr 1 (List.map aN (List.take (tN (cK 0 (cF x4 (nI x1.length)))) x1)) 0 0 false)],.rows (List.map aN (List.take (tN (cK 0 (cF x4 (nI x1.length)))) x1))] [⟨(bS aN (l:=(List.take (tN (cK 0 (cF x4 (nI x1.length)))) x1)) (n:=((List.take (tN (cK 0 (cF x4 (nI x1.length)))) x1).length)) rfl)⟩,⟨(b9 aN (Nat.le_refl ((List.take (tN (cK 0 (cF x4 (nI x1.length)))) x1).length)):0+(List.take (tN (cK 0 (cF x4 (nI x1.length)))) x1).length≤(List.map aN (List.take (tN (cK 0 (cF x4 (nI x1.length)))) x1)).length)⟩,⟨(j2 k (List.take (tN (cK 0 (cF x4 (nI x1.length)))) x1) _ e1)⟩,⟨(zM aN x1 (tN (cK 0 (cF x4 (nI x1.length)))))⟩,⟨c0⟩,⟨(bK aN x1)⟩,⟨(bK aN x1)⟩] (by kernel_rfl)
 rw[if_neg c0] at h;replace c0:=eqf c0
 cases h
end Go.Ws

namespace Go.Ws
open Go.Proofs
set_option linter.unusedSimpArgs false
set_option linter.unusedVariables false
set_option maxRecDepth 1000000
set_option maxHeartbeats 4000000
noncomputable def X10:Ctx:=⟨Tryz.f10,[],true⟩
theorem y6 (k:Nat) (x1:List Int) (x2:Int) (x3:Int) (r:(List Int) × Int × Int) (h:mS k x1 x2 x3=some r):Tri Tryz.prog 10 [(.agg [(.sl 1 (List.map aN x1)),(.int .i64 x2),(.int .i64 x3)])] [] (.agg [(.sl 1 (List.map aN r.1)),(.int .i64 r.2.1),(.int .i64 r.2.2)]) []:=by
 unfold mS at h
 obtain⟨x4,e0,h⟩:=bsm h
 obtain rfl:=osi h
 exact Tri.of (x:=X10) mixed facts10 [.n x1.length,.call ⟨true,[]⟩ (.agg [(.sl 1 (List.map aN x4.1)),(.int .i64 x4.2.1),(.int .i64 x4.2.2)]) [],.n x4.1.length] [⟨(bK aN x4.1)⟩,⟨(pU k x1 x2 x3 (nI x1.length) _ e0)⟩,⟨(bK aN x1)⟩] (by kernel_rfl)
end Go.Ws

namespace Go.Ws
open Go.Proofs
set_option linter.unusedSimpArgs false
set_option linter.unusedVariables false
set_option maxRecDepth 1000000
set_option maxHeartbeats 4000000
noncomputable def X12:Ctx:=⟨Tryz.f12,[],true⟩
theorem aEH (k:Nat) (x1:List Int) (x2:Int) (x3:Int) (x4:Int) (r:(List Int) × Int × Int) (h:mO k x1 x2 x3 x4=some r):Tri Tryz.prog 12 [(.agg [(.sl 1 (List.map aN x1)),(.int .i64 x2),(.int .i64 x3)]),(.int .u16 x4)] [] (.agg [(.sl 1 (List.map aN r.1)),(.int .i64 r.2.1),(.int .i64 r.2.2)]) []:=by
 unfold mO at h
 by_cases c0:eqI (bI .i64 (cK 0 (pR .i64 (nI x1.length) x2)) 1) 0=true
 · rw[if_pos c0] at h
   cases h
 rw[if_neg c0] at h;replace c0:=eqf c0
 obtain⟨x5,e1,h⟩:=bsm h
 obtain⟨x6,e2,h⟩:=bsm h
 obtain rfl:=osi h
 exact Tri.of (x:=X12) mixed facts12 [.n x1.length,df,.call ⟨true,[]⟩ (.agg [(.sl 1 (List.map aN x5.1)),(.int .i64 x5.2.1),(.int .i64 x5.2.2)]) [],.call ⟨true,[]⟩ (.agg [(.sl 1 (List.map aN x6.1)),(.int .i64 x6.2.1),(.int .i64 x6.2.2)]) []] [⟨(y6 k x5.1 x5.2.1 x5.2.2 _ e2)⟩,⟨(pU k x1 x2 x3 (bI .i64 x2 (aP .i64 (conv .i64 x4) (bI .i64 (cK 0 (pR .i64 (nI x1.length) x2)) 1))) _ e1)⟩,⟨c0⟩,⟨(bK aN x1)⟩] (by kernel_rfl)
end Go.Ws

namespace Go.Ws
open Go.Proofs
set_option linter.unusedSimpArgs false
set_option linter.unusedVariables false
set_option maxRecDepth 1000000
set_option maxHeartbeats 4000000
noncomputable def X58:Ctx:=⟨Tryz.f58,[],true⟩
def zC:Ans:=.norm 0 ⟨[(2,[(0,1)]),(3,[]),(4,[])],[],false,[],[]⟩
def A58_1 (x1:List Int) (x3:Int) (x4:Int):Ans:=.rows (List.map aN (List.take ((tN (bI .i64 (bI .i64 3 (eQ .i64 (conv .i64 x3) 8)) (conv .i64 x4))) - 3) (List.drop 3 x1)))
theorem aHY (k:Nat) (x1:List Int) (r:(List Int) × Int × Int) (h:oX k x1=some r):Tri Tryz.prog 58 [(.sl 1 (List.map aN x1))] [] (.tup [(.sl 1 (List.map aN r.1)),(.int .i64 r.2.1),(.int .i64 r.2.2)]) []:=by
 unfold oX at h
 by_cases c0:eqI (nI x1.length) 0=true
 · rw[if_pos c0] at h
   obtain rfl:=osi h
   exact Tri.of (x:=X58) mixed kS [.n x1.length,dt,zC] [⟨c0⟩,⟨(bK aN x1)⟩] (by kernel_rfl)
 rw[if_neg c0] at h;replace c0:=eqf c0
 by_cases c1:inI 0 x1.length=true
 · rw[if_pos c1] at h
   obtain⟨x2,e2,h⟩:=bsm h
   let u3:List Ans:=[.n x1.length,df,.n x1.length,.row [(.int .u8 x2)]]
   let w4:List Prf:=[⟨(cL (e:=aN) e2 1 0 1 (by decide))⟩,⟨c1⟩,⟨(bK aN x1)⟩,⟨c0⟩,⟨(bK aN x1)⟩]
   by_cases c3:eqI x2 1=true
   · rw[if_pos c3] at h
     let w6:List Prf:=[⟨(nF c3)⟩,⟨(nF c3)⟩,⟨(bK aN x1)⟩,⟨(nF c3)⟩,⟨(nF c3)⟩]++w4
     by_cases c4:ltI (nI x1.length) 3=true
     · rw[if_pos c4] at h
       obtain rfl:=osi h
       exact Tri.of (x:=X58) mixed kS (u3++[df,df,.n x1.length,df,df,dt,zC]) ([⟨c4⟩]++w6) (by kernel_rfl)
     rw[if_neg c4] at h;replace c4:=eqf c4
     by_cases c5:inI 1 x1.length=true
     · rw[if_pos c5] at h
       obtain⟨x3,e6,h⟩:=bsm h
       by_cases c7:inI 2 x1.length=true
       · rw[if_pos c7] at h
         obtain⟨x4,e8,h⟩:=bsm h
         let u7:List Ans:=u3++[df,df,.n x1.length,df,df,df,.n x1.length,.row [(.int .u8 x3)],.n x1.length,.row [(.int .u8 x4)]]
         let w8:List Prf:=[⟨(cL (e:=aN) e8 1 0 1 (by decide))⟩,⟨c7⟩,⟨(bK aN x1)⟩,⟨(cL (e:=aN) e6 1 0 1 (by decide))⟩,⟨c5⟩,⟨(bK aN x1)⟩,⟨c4⟩]++w6
         by_cases c9:ltI 4003 (bI .i64 (bI .i64 3 (eQ .i64 (conv .i64 x3) 8)) (conv .i64 x4))=true
         · rw[if_pos c9] at h
           obtain rfl:=osi h
           exact Tri.of (x:=X58) mixed kS (u7++[dt,dt,dt,dt,dt,dt,dt,zC]) ([⟨rT⟩,⟨c9⟩,⟨c9⟩,⟨c9⟩,⟨c9⟩,⟨c9⟩,⟨c9⟩]++w8) (by kernel_rfl)
         rw[if_neg c9] at h;replace c9:=eqf c9
         let u9:List Ans:=u7++[df,df,.n x1.length,df,df,df,df]
         let w10:List Prf:=[⟨c9⟩,⟨c9⟩,⟨c9⟩,⟨c9⟩,⟨(bK aN x1)⟩,⟨c9⟩,⟨c9⟩]++w8
         by_cases c10:ltI (nI x1.length) (bI .i64 (bI .i64 (bI .i64 3 (eQ .i64 (conv .i64 x3) 8)) (conv .i64 x4)) 4)=true
         · rw[if_pos c10] at h
           obtain rfl:=osi h
           exact Tri.of (x:=X58) mixed kS (u9++[dt,zC]) ([⟨c10⟩]++w10) (by kernel_rfl)
         rw[if_neg c10] at h;replace c10:=eqf c10
         by_cases c11:leI (bI .i64 (bI .i64 3 (eQ .i64 (conv .i64 x3) 8)) (conv .i64 x4)) x1.length=true
         · rw[if_pos c11] at h
           obtain⟨x5,e12,h⟩:=bsm h
           by_cases c13:aCV 4 (x1.length - (tN (bI .i64 (bI .i64 3 (eQ .i64 (conv .i64 x3) 8)) (conv .i64 x4))))=true
           · rw[if_pos c13] at h
             obtain⟨x6,e14,h⟩:=bsm h
             obtain⟨x7,e15,h⟩:=bsm h
             obtain⟨x8,e16,h⟩:=bsm h
             obtain⟨x9,e17,h⟩:=bsm h
             let u11:List Ans:=u9++[df,.n x1.length,.rows (List.map aN (List.take (tN (bI .i64 (bI .i64 3 (eQ .i64 (conv .i64 x3) 8)) (conv .i64 x4))) x1)),.call ⟨true,[]⟩ (.int .u32 x5) [],.n x1.length,.rows (List.map aN (List.drop (tN (bI .i64 (bI .i64 3 (eQ .i64 (conv .i64 x3) 8)) (conv .i64 x4))) x1)),.n (x1.length - (tN (bI .i64 (bI .i64 3 (eQ .i64 (conv .i64 x3) 8)) (conv .i64 x4)))),.row [(.int .u8 x6),(.int .u8 x7),(.int .u8 x8),(.int .u8 x9)]]
             let w12:List Prf:=[⟨(aJ1 e14 e15 e16 e17)⟩,⟨c13⟩,⟨(len_mapE aN ((by simp:x1.length - (tN (bI .i64 (bI .i64 3 (eQ .i64 (conv .i64 x3) 8)) (conv .i64 x4)))=List.length (α:=Int) (List.drop (tN (bI .i64 (bI .i64 3 (eQ .i64 (conv .i64 x3) 8)) (conv .i64 x4))) x1))).symm)⟩,⟨(aCZ aN (l:=x1) (n:=x1.length) rfl (tN (bI .i64 (bI .i64 3 (eQ .i64 (conv .i64 x3) 8)) (conv .i64 x4))))⟩,⟨c11⟩,⟨(bK aN x1)⟩,⟨(aEC k (List.take (tN (bI .i64 (bI .i64 3 (eQ .i64 (conv .i64 x3) 8)) (conv .i64 x4))) x1) _ e12)⟩,⟨(zM aN x1 (tN (bI .i64 (bI .i64 3 (eQ .i64 (conv .i64 x3) 8)) (conv .i64 x4))))⟩,⟨c11⟩,⟨(bK aN x1)⟩,⟨c10⟩]++w10
             by_cases c18:eqI x6 (conv .u8 (aE .u32 x5 24))=true
             · rw[if_pos c18] at h
               by_cases c19:eqI x7 (conv .u8 (aE .u32 x5 16))=true
               · rw[if_pos c19] at h
                 by_cases c20:eqI x8 (conv .u8 (aE .u32 x5 8))=true
                 · rw[if_pos c20] at h
                   by_cases c21:eqI x9 (conv .u8 x5)=true
                   · rw[if_pos c21] at h
                     by_cases c22:leI (bI .i64 (bI .i64 3 (eQ .i64 (conv .i64 x3) 8)) (conv .i64 x4)) (tN (bI .i64 (bI .i64 3 (eQ .i64 (conv .i64 x3) 8)) (conv .i64 x4)))=true
                     · rw[if_pos c22] at h
                       by_cases c23:leI 3 (tN (bI .i64 (bI .i64 3 (eQ .i64 (conv .i64 x3) 8)) (conv .i64 x4)))=true
                       · rw[if_pos c23] at h
                         let w14:List Prf:=[⟨c23⟩,⟨c22⟩,⟨c11⟩,⟨(bK aN x1)⟩,⟨(nF (aT c18 (aT c19 (aT c20 c21))))⟩]++w12
                         by_cases c24:eqN (tN (bI .i64 (bI .i64 3 (eQ .i64 (conv .i64 x3) 8)) (conv .i64 x4))) 3=true
                         · rw[if_pos c24] at h
                           obtain⟨x10,e25,h⟩:=bsm h
                           obtain rfl:=osi h
                           exact Tri.of (x:=X58) mixed kS (u11++[df,.n x1.length,dt,.call ⟨true,[[(0,1)]]⟩ (.ref 1 0 0 0 0 .virt) [(.arr 1 (List.map aN []) 0 0 false)],.rows (List.map aN [])]) ([⟨(bS aN (l:=[]) (n:=0) rfl)⟩,⟨(b9 aN (Nat.le_refl 0):0+0≤(List.map aN []).length)⟩,⟨(j2 k [] _ e25)⟩,⟨c24⟩]++w14) (by kernel_rfl)
                         rw[if_neg c24] at h;replace c24:=eqf c24
                         obtain⟨x10,e25,h⟩:=bsm h
                         obtain rfl:=osi h
                         exact Tri.of (x:=X58) mixed kS (u11++[df,.n x1.length,df,(A58_1 x1 x3 x4),.call ⟨true,[]⟩ (.ref 1 0 0 0 ((List.take ((tN (bI .i64 (bI .i64 3 (eQ .i64 (conv .i64 x3) 8)) (conv .i64 x4))) - 3) (List.drop 3 x1)).length) .virt) [(.arr 1 (List.map aN (List.take ((tN (bI .i64 (bI .i64 3 (eQ .i64 (conv .i64 x3) 8)) (conv .i64 x4))) - 3) (List.drop 3 x1))) 0 0 false)],(A58_1 x1 x3 x4)]) ([⟨(bS aN (l:=(List.take ((tN (bI .i64 (bI .i64 3 (eQ .i64 (conv .i64 x3) 8)) (conv .i64 x4))) - 3) (List.drop 3 x1))) (n:=((List.take ((tN (bI .i64 (bI .i64 3 (eQ .i64 (conv .i64 x3) 8)) (conv .i64 x4))) - 3) (List.drop 3 x1)).length)) rfl)⟩,⟨(b9 aN (Nat.le_refl ((List.take ((tN (bI .i64 (bI .i64 3 (eQ .i64 (conv .i64 x3) 8)) (conv .i64 x4))) - 3) (List.drop 3 x1)).length)):0+(List.take ((tN (bI .i64 (bI .i64 3 (eQ .i64 (conv .i64 x3) 8)) (conv .i64 x4))) - 3) (List.drop 3 x1)).length≤(List.map aN (List.take ((tN (bI .i64 (bI .i64 3 (eQ .i64 (conv .i64 x3) 8)) (conv .i64 x4))) - 3) (List.drop 3 x1))).length)⟩,⟨(j2 k (List.take ((tN (bI .i64 (bI .i64 3 (eQ .i64 (conv .i64 x3) 8)) (conv .i64 x4))) - 3) (List.drop 3 x1)) _ e25)⟩,⟨(cut_both aN x1 3 (tN (bI .i64 (bI .i64 3 (eQ .i64 (conv .i64 x3) 8)) (conv .i64 x4))))⟩,⟨c24⟩]++w14) (by kernel_rfl)
                       rw[if_neg c23] at h;replace c23:=eqf c23
                       cases h
                     rw[if_neg c22] at h;replace c22:=eqf c22
                     cases h
                   rw[if_neg c21] at h;replace c21:=eqf c21
                   obtain rfl:=osi h
                   exact Tri.of (x:=X58) mixed kS (u11++[dt,zC]) ([⟨(nT (aF2 c18 (aF2 c19 (aF2 c20 c21))))⟩]++w12) (by kernel_rfl)
                 rw[if_neg c20] at h;replace c20:=eqf c20
                 obtain rfl:=osi h
                 exact Tri.of (x:=X58) mixed kS (u11++[dt,zC]) ([⟨(nT (aF2 c18 (aF2 c19 (aF1 (b:=eqI x9 (conv .u8 x5)) c20))))⟩]++w12) (by kernel_rfl)
               rw[if_neg c19] at h;replace c19:=eqf c19
               obtain rfl:=osi h
               exact Tri.of (x:=X58) mixed kS (u11++[dt,zC]) ([⟨(nT (aF2 c18 (aF1 (b:=(eqI x8 (conv .u8 (aE .u32 x5 8)) && eqI x9 (conv .u8 x5))) c19)))⟩]++w12) (by kernel_rfl)
             rw[if_neg c18] at h;replace c18:=eqf c18
             obtain rfl:=osi h
             exact Tri.of (x:=X58) mixed kS (u11++[dt,zC]) ([⟨(nT (aF1 (b:=(eqI x7 (conv .u8 (aE .u32 x5 16)) && (eqI x8 (conv .u8 (aE .u32 x5 8)) && eqI x9 (conv .u8 x5)))) c18))⟩]++w12) (by kernel_rfl)
           rw[if_neg c13] at h;replace c13:=eqf c13
           cases h
         rw[if_neg c11] at h;replace c11:=eqf c11
         cases h
       rw[if_neg c7] at h;replace c7:=eqf c7
       cases h
     rw[if_neg c5] at h;replace c5:=eqf c5
     cases h
   rw[if_neg c3] at h;replace c3:=eqf c3
   obtain rfl:=osi h
   exact Tri.of (x:=X58) mixed kS (u3++[dt,dt,dt,dt,dt,zC]) ([⟨rT⟩,⟨(nT c3)⟩,⟨(nT c3)⟩,⟨(nT c3)⟩,⟨(nT c3)⟩]++w4) (by kernel_rfl)
 rw[if_neg c1] at h;replace c1:=eqf c1
 cases h
end Go.Ws

namespace Go.Ws
open Go.Proofs
set_option linter.unusedSimpArgs false
set_option linter.unusedVariables false
set_option maxRecDepth 1000000
set_option maxHeartbeats 4000000
noncomputable def X35:Ctx:=⟨Tryz.f35,[],false⟩
noncomputable def L35_0:Code:=at_ Tryz.f35 [1,6,1,1,1,0,4,5]
def S35_0 (x1:List Int) (cN:Int) (b5:List (List Int)):St:=⟨mkT 29 [(0,(.sl 1 (List.map aN x1))),(4,(.ref 1 0 0 0 b5.length .virt)),(5,(.int .i64 cN))],[(.arr 1 (List.map fT b5) 0 0 false)]⟩
def aHJ (v35002_1:Int) (aJX:List (List Int)):St:=⟨mkT 29 [(4,(.ref 1 0 0 0 aJX.length .virt)),(5,(.int .i64 v35002_1))],[(.arr 1 (List.map fT aJX) 0 0 false)]⟩
def O35_0 (x1:List Int) (y:(Int × (List (List Int)))):GX:=.st (.exit 0) (aHJ y.1 y.2)
theorem xA (x1:List Int) (y:(Int × (List (List Int)))):∀(k:Nat) (cN:Int) (b5:List (List Int)),gO k x1 cN b5=some y→LT Tryz.prog X35 L35_0 (S35_0 x1 cN b5) (O35_0 x1 y)
 | 0,cN,b5,h=>by cases h
 | k+1,cN,b5,h=>by
  rw[gO] at h
  by_cases cL0:leI cN x1.length=true
  · rw[if_pos cL0] at h
    obtain⟨dB,eL1,h⟩:=bsm h
    let u1:List Ans:=[.n x1.length,.rows (List.map aN (List.drop (tN cN) x1)),.call ⟨true,[]⟩ (.tup [(.sl 1 (List.map aN dB.1)),(.int .i64 dB.2.1),(.int .i64 dB.2.2)]) []]
    let w2:List Prf:=[⟨(aHY k (List.drop (tN cN) x1) _ eL1)⟩,⟨(aCZ aN (l:=x1) (n:=x1.length) rfl (tN cN))⟩,⟨cL0⟩,⟨(bK aN x1)⟩]
    by_cases cL2:eqI dB.2.2 0=true
    · rw[if_pos cL2] at h
      by_cases cL3:bV (((b5++[dB.1]).length)*24)=true
      · rw[if_pos cL3] at h
        exact LT.next mixed (hs:=⟨[(0,[]),(4,[]),(5,[])],[⟨.tmp 4,[],some 1⟩],false,[],[]⟩) (es:=none) (u1++[dt,.rows (List.map fT [dB.1]),.n ((b5++[dB.1]).length),.n b5.length,dt,.rows (List.map fT (b5++[dB.1])),.n ((b5++[dB.1]).length),.rows (List.map fT (b5++[dB.1]))]) ([⟨(eN fT (l:=(b5++[dB.1])) (n:=((b5++[dB.1]).length)) rfl)⟩,⟨(rfl:(b5++[dB.1]).length=(b5++[dB.1]).length)⟩,⟨(zle ((b5++[dB.1]).length))⟩,⟨(dF fT b5 [dB.1])⟩,⟨(cX b5.length)⟩,⟨(bK fT b5)⟩,⟨cL3⟩,⟨(by simp only[wl,List.length_map,List.map_nil,List.map_cons]<;>omega:b5.length+(List.map fT [dB.1]).length=(b5++[dB.1]).length)⟩,⟨(bS fT (l:=[dB.1]) (n:=1) rfl)⟩,⟨(b9 fT (Nat.le_refl 1):0+1≤(List.map fT [dB.1]).length)⟩,⟨cL2⟩]++w2) (by kernel_rfl) (xA x1 y k (bI .i64 cN dB.2.1) (b5++[dB.1]) h)
      rw[if_neg cL3] at h;replace cL3:=eqf cL3
      cases h
    rw[if_neg cL2] at h;replace cL2:=eqf cL2
    obtain rfl:=osi h
    show LT _ _ _ _ (.st (.exit 0) (aHJ cN b5))
    exact LT.done mixed (hs:=⟨[],[],false,[],[]⟩) (es:=(some ⟨[(4,[]),(5,[])],[⟨.tmp 4,[],none⟩],false,[],[]⟩)) (u1++[df]) ([⟨cL2⟩]++w2) (by kernel_rfl) (fun s h=>by cases h)
  rw[if_neg cL0] at h;replace cL0:=eqf cL0
  cases h
theorem aJ6 (k:Nat) (x1:List Int) (r:Int × (List (List Int))) (h:uC k x1=some r):Tri Tryz.prog 35 [(.sl 1 (List.map aN x1))] [] (.tup [(.ref 1 0 0 0 r.2.length .virt),(.int .i64 r.1)]) [(.arr 1 (List.map fT r.2) 0 0 false)]:=by
 unfold uC at h
 obtain⟨x3,e0,h⟩:=bsm h
 obtain rfl:=osi h
 exact Tri.of (x:=X35) mixed facts35 [.norm 2 ⟨[(0,[]),(4,[]),(5,[])],[⟨.tmp 4,[],some 1⟩],false,[],[]⟩,.n 0,.rows (List.map fT []),.out (.st .normal (aHJ x3.1 x3.2)),.norm 0 ⟨[(2,[]),(3,[])],[⟨.tmp 2,[],none⟩],false,[],[]⟩] [⟨(LT.block (xA x1 _ k 0 [] e0))⟩,⟨(eN fT (l:=[]) (n:=0) rfl)⟩,⟨(rfl:0=0)⟩,⟨(zle 0)⟩] (by kernel_rfl)
end Go.Ws

namespace Go.Ws
open Go.Proofs
set_option linter.unusedSimpArgs false
set_option linter.unusedVariables false
set_option maxRecDepth 1000000
set_option maxHeartbeats 4000000
noncomputable def X11:Ctx:=⟨Tryz.f11,[],true⟩
theorem aCH (k:Nat) (x1:List Int) (x2:Int) (x3:Int) (r:(List (List Int)) × Int) (h:jC k x1 x2 x3=some r):Tri Tryz.prog 11 [(.agg [(.sl 1 (List.map aN x1)),(.int .i64 x2),(.int .i64 x3)])] [] (.tup [(.sl 1 (List.map fT r.1)),(.int .i64 r.2)]) []:=by
 unfold jC at h
 obtain⟨x4,e0,h⟩:=bsm h
 obtain rfl:=osi h
 exact Tri.of (x:=X11) mixed facts11 [.call ⟨true,[]⟩ (.tup [(.ref 1 0 0 0 x4.2.length .virt),(.int .i64 x4.1)]) [(.arr 1 (List.map fT x4.2) 0 0 false)],.rows (List.map fT x4.2)] [⟨(bS fT (l:=x4.2) (n:=x4.2.length) rfl)⟩,⟨(b9 fT (Nat.le_refl x4.2.length):0+x4.2.length≤(List.map fT x4.2).length)⟩,⟨(aJ6 k x1 _ e0)⟩] (by kernel_rfl)
end Go.Ws
