/-
  Walks, merged.
  Conditions: none.
-/
import Derived.Test.YtpaekffehfdmgaaGreatDoorZPre
import Derived.Test.YtpaekffehfdmgaaGreatDoorZPure
import Derived.Test.YtpaekffehfdmgaaGreatDoorZTrim
import Derived.Test.YtpaekffehfdmgaaGreatDoorZSumI
import Derived.Test.YtpaekffehfdmgaaGreatDoorZIns87
set_option linter.unusedVariables false
set_option linter.unusedSimpArgs false
namespace Go.Ws
open Go.Proofs
set_option linter.unusedSimpArgs false
set_option linter.unusedVariables false
set_option maxRecDepth 1000000
set_option maxHeartbeats 4000000
noncomputable def X32:Ctx:=⟨Tryz.f32,[],true⟩
theorem aPC (x1:Int):Tri Tryz.prog 32 [(.int .i64 x1)] [] (.int .u64 (kF x1)) []:=by
 obtain⟨r,h⟩:∃r,kF x1=r:=⟨_,rfl⟩
 try rw[h]
 unfold kF at h
 obtain rfl:=h
 exact Tri.of (x:=X32) mixed facts32 [] [] (by kernel_rfl)
end Go.Ws

namespace Go.Ws
open Go.Proofs
set_option linter.unusedSimpArgs false
set_option linter.unusedVariables false
set_option maxRecDepth 1000000
set_option maxHeartbeats 4000000
theorem aIP:Tri Tryz.prog 77 [(.str (ByteArray.mk #[97,98,97,100])),(.str (ByteArray.mk #[97,98,99,100,116]))] [] (.str (ByteArray.mk #[])) []:=trim_tri
end Go.Ws

namespace Go.Ws
open Go.Proofs
set_option linter.unusedSimpArgs false
set_option linter.unusedVariables false
set_option maxRecDepth 1000000
set_option maxHeartbeats 4000000
noncomputable def X53:Ctx:=⟨Tryz.f53,[],false⟩
theorem aBN:Tri Tryz.prog 53 [(.str (ByteArray.mk #[97,98,97,100]))] [] (.bool (eqS (ByteArray.mk #[]) (ByteArray.mk #[]))) []:=by
 obtain⟨r,h⟩:∃r,aBB=r:=⟨_,rfl⟩
 try rw[h]
 unfold aBB at h
 obtain rfl:=h
 exact Tri.of (x:=X53) mixed facts53 [dt,dt,.call ⟨true,[]⟩ (.str (ByteArray.mk #[])) [],dt,dt,.norm 0 ⟨[(2,[])],[],false,[],[]⟩] [⟨(nT (rfl:ltI 100 4=false))⟩,⟨(nT (rfl:ltI 100 4=false))⟩,⟨(aIP)⟩,⟨(nT (rfl:ltI 100 4=false))⟩,⟨(nT (rfl:ltI 100 4=false))⟩] (by kernel_rfl)
end Go.Ws

namespace Go.Ws
open Go.Proofs
set_option linter.unusedSimpArgs false
set_option linter.unusedVariables false
set_option maxRecDepth 1000000
set_option maxHeartbeats 4000000
noncomputable def X54:Ctx:=⟨Tryz.f54,[],false⟩
theorem uG:Tri Tryz.prog 54 [(.int .u8 97)] [] (.int .i64 1) []:=by
 obtain⟨r,h⟩:∃r,aE7=r:=⟨_,rfl⟩
 try rw[h]
 unfold aE7 at h
 obtain rfl:=h
 exact Tri.of (x:=X54) mixed aND [df,.norm 0 ⟨[(2,[])],[],false,[],[]⟩] [⟨(rfl:eqI 97 116=false)⟩] (by kernel_rfl)
end Go.Ws

namespace Go.Ws
open Go.Proofs
set_option linter.unusedSimpArgs false
set_option linter.unusedVariables false
set_option maxRecDepth 1000000
set_option maxHeartbeats 4000000
noncomputable def X55:Ctx:=⟨Tryz.f55,[],false⟩
noncomputable def L55_1:Code:=at_ Tryz.f55 [1,0,1,4,5]
def S55_1 (x1:Int):St:=⟨mkT 23 [(0,(.ref 1 0 0 0 1 .virt)),(1,(.int .u64 x1)),(7,(.int .i64 (-8)))],[(.arr 1 (List.map aJ [conv .u8 (aA .u64 x1 0)]) 0 0 false)]⟩
def aTC (x1:Int):St:=⟨mkT 23 [(0,(.ref 1 0 0 0 1 .virt))],[(.arr 1 (List.map aJ [conv .u8 (aA .u64 x1 0)]) 0 0 false)]⟩
def O55_1 (x1:Int) (y:(Unit)):GX:=.st (.exit 0) (aTC x1)
noncomputable def L55_0:Code:=at_ Tryz.f55 [1,0,1,4,5]
def S55_0 (x1:Int):St:=⟨mkT 23 [(0,.nils),(1,(.int .u64 x1)),(7,(.int .i64 0))],[]⟩
def aOM (x1:Int):St:=⟨mkT 23 [(0,(.ref 1 0 0 0 1 .virt))],[(.arr 1 (List.map aJ [conv .u8 (aA .u64 x1 0)]) 0 0 false)]⟩
def O55_0 (x1:Int) (y:(Unit)):GX:=.st (.exit 0) (aOM x1)
theorem aG1 (x1:Int) (y:(Unit)):∀(k:Nat),f4 k x1=some y→LT Tryz.prog X55 L55_1 (S55_1 x1) (O55_1 x1 y)
 | 0,h=>by cases h
 | k+1,h=>by
  rw[f4] at h
  obtain rfl:=osi h
  show LT _ _ _ _ (.st (.exit 0) (aTC x1))
  exact LT.done mixed (hs:=⟨[],[],false,[],[]⟩) (es:=(some ⟨[(0,[])],[⟨.tmp 0,[],none⟩],false,[],[]⟩)) [df] [⟨(nF (rfl:ltI (-8) 0=true))⟩] (by kernel_rfl) (fun s h=>by cases h)
theorem aFU (x1:Int) (y:(Unit)):∀(k:Nat),gI k x1=some y→LT Tryz.prog X55 L55_0 (S55_0 x1) (O55_0 x1 y)
 | 0,h=>by cases h
 | k+1,h=>by
  rw[gI] at h
  obtain⟨aQ2,eL0,h⟩:=bsm h
  obtain rfl:=osi h
  show LT _ _ _ _ (.st (.exit 0) (aOM x1))
  exact LT.next mixed (hs:=⟨[(0,[]),(1,[]),(7,[])],[⟨.tmp 0,[],none⟩],false,[],[]⟩) (es:=none) [dt,.rows (List.map aJ [conv .u8 (aA .u64 x1 0)]),.n 1] [⟨(rfl:bT (1*1)=true)⟩,⟨(rfl:(List.map aJ [conv .u8 (aA .u64 x1 0)]).length=1)⟩,⟨(aX aJ (l:=[conv .u8 (aA .u64 x1 0)]) (n:=1) rfl)⟩,⟨(bP aJ (Nat.le_refl 1):0+1≤(List.map aJ [conv .u8 (aA .u64 x1 0)]).length)⟩,⟨(nT (rfl:ltI 0 0=false))⟩] (by kernel_rfl) (aG1 x1 _ k eL0)
theorem aJM (k:Nat) (x1:Int) (r:Unit) (h:rM k x1=some r):Tri Tryz.prog 55 [.nils,(.int .u64 x1),(.int .i64 1)] [] (.ref 1 0 0 0 1 .virt) [(.arr 1 (List.map aJ [conv .u8 (aA .u64 x1 0)]) 0 0 false)]:=by
 unfold rM at h
 obtain⟨x3,e0,h⟩:=bsm h
 obtain rfl:=osi h
 exact Tri.of (x:=X55) mixed aI6 [.norm 2 ⟨[(0,[]),(1,[]),(7,[])],[],false,[],[]⟩,.out (.st .normal (aOM x1)),.norm 0 ⟨[(6,[])],[⟨.tmp 6,[],none⟩],false,[],[]⟩] [⟨(LT.block (aFU x1 _ k e0))⟩] (by kernel_rfl)
end Go.Ws

namespace Go.Ws
open Go.Proofs
set_option linter.unusedSimpArgs false
set_option linter.unusedVariables false
set_option maxRecDepth 1000000
set_option maxHeartbeats 4000000
noncomputable def X54_1:Ctx:=⟨Tryz.f54,[],false⟩
theorem aAJ:Tri Tryz.prog 54 [(.int .u8 98)] [] (.int .i64 2) []:=by
 obtain⟨r,h⟩:∃r,zL=r:=⟨_,rfl⟩
 try rw[h]
 unfold zL at h
 obtain rfl:=h
 exact Tri.of (x:=X54_1) mixed aND [df,.norm 0 ⟨[(2,[])],[],false,[],[]⟩] [⟨(rfl:eqI 98 116=false)⟩] (by kernel_rfl)
end Go.Ws

namespace Go.Ws
open Go.Proofs
set_option linter.unusedSimpArgs false
set_option linter.unusedVariables false
set_option maxRecDepth 1000000
set_option maxHeartbeats 4000000
noncomputable def X55_1 (x2:List Int):Ctx:=⟨Tryz.f55,[(.arr 1 (List.map aJ x2) 0 0 false)],false⟩
noncomputable def L55_1_2:Code:=at_ Tryz.f55 [1,0,1,4,5]
def S55_1_2 (x1:Int) (x2:List Int):St:=⟨mkT 23 [(0,(.ref 1 0 2 0 (((x2++[conv .u8 (aA .u64 x1 8)])++[conv .u8 (aA .u64 x1 0)]).length) .virt)),(1,(.int .u64 x1)),(7,(.int .i64 (-8)))],[(.arr 1 (List.map aJ ((x2++[conv .u8 (aA .u64 x1 8)])++[conv .u8 (aA .u64 x1 0)])) 2 0 false)]⟩
def aMW (x1:Int) (x2:List Int):St:=⟨mkT 23 [(0,(.ref 1 0 2 0 (((x2++[conv .u8 (aA .u64 x1 8)])++[conv .u8 (aA .u64 x1 0)]).length) .virt))],[(.arr 1 (List.map aJ ((x2++[conv .u8 (aA .u64 x1 8)])++[conv .u8 (aA .u64 x1 0)])) 2 0 false)]⟩
def O55_1_2 (x1:Int) (x2:List Int) (y:(Unit)):GX:=.st (.exit 0) (aMW x1 x2)
noncomputable def L55_1_1:Code:=at_ Tryz.f55 [1,0,1,4,5]
def S55_1_1 (x1:Int) (x2:List Int):St:=⟨mkT 23 [(0,(.ref 1 0 1 0 ((x2++[conv .u8 (aA .u64 x1 8)]).length) .virt)),(1,(.int .u64 x1)),(7,(.int .i64 0))],[(.arr 1 (List.map aJ (x2++[conv .u8 (aA .u64 x1 8)])) 1 0 false)]⟩
def aMQ (x1:Int) (x2:List Int):St:=⟨mkT 23 [(0,(.ref 1 0 2 0 (((x2++[conv .u8 (aA .u64 x1 8)])++[conv .u8 (aA .u64 x1 0)]).length) .virt))],[(.arr 1 (List.map aJ ((x2++[conv .u8 (aA .u64 x1 8)])++[conv .u8 (aA .u64 x1 0)])) 2 0 false)]⟩
def O55_1_1 (x1:Int) (x2:List Int) (y:(Unit)):GX:=.st (.exit 0) (aMQ x1 x2)
noncomputable def L55_1_0:Code:=at_ Tryz.f55 [1,0,1,4,5]
def S55_1_0 (x1:Int) (x2:List Int):St:=⟨mkT 23 [(0,(.ref 1 0 0 0 x2.length .virt)),(1,(.int .u64 x1)),(7,(.int .i64 8))],[(.arr 1 (List.map aJ x2) 0 0 false)]⟩
def aHW (x1:Int) (x2:List Int):St:=⟨mkT 23 [(0,(.ref 1 0 2 0 (((x2++[conv .u8 (aA .u64 x1 8)])++[conv .u8 (aA .u64 x1 0)]).length) .virt))],[(.arr 1 (List.map aJ ((x2++[conv .u8 (aA .u64 x1 8)])++[conv .u8 (aA .u64 x1 0)])) 2 0 false)]⟩
def O55_1_0 (x1:Int) (x2:List Int) (y:(Unit)):GX:=.st (.exit 0) (aHW x1 x2)
theorem aDH (x1:Int) (x2:List Int) (y:(Unit)):∀(k:Nat),eE k x1 x2=some y→LT Tryz.prog (X55_1 x2) L55_1_2 (S55_1_2 x1 x2) (O55_1_2 x1 x2 y)
 | 0,h=>by cases h
 | k+1,h=>by
  rw[eE] at h
  obtain rfl:=osi h
  show LT _ _ _ _ (.st (.exit 0) (aMW x1 x2))
  exact LT.done mixed (hs:=⟨[],[],false,[],[]⟩) (es:=(some ⟨[(0,[])],[],false,[],[]⟩)) [df] [⟨(nF (rfl:ltI (-8) 0=true))⟩] (by kernel_rfl) (fun s h=>by cases h)
theorem aDQ (x1:Int) (x2:List Int) (y:(Unit)):∀(k:Nat),eR k x1 x2=some y→LT Tryz.prog (X55_1 x2) L55_1_1 (S55_1_1 x1 x2) (O55_1_1 x1 x2 y)
 | 0,h=>by cases h
 | k+1,h=>by
  rw[eR] at h
  by_cases cL0:bT ((((x2++[conv .u8 (aA .u64 x1 8)])++[conv .u8 (aA .u64 x1 0)]).length)*1)=true
  · rw[if_pos cL0] at h
    obtain⟨aMZ,eL1,h⟩:=bsm h
    obtain rfl:=osi h
    show LT _ _ _ _ (.st (.exit 0) (aMQ x1 x2))
    exact LT.next mixed (hs:=⟨[(0,[]),(1,[]),(7,[])],[],false,[],[]⟩) (es:=none) [dt,.rows (List.map aJ [conv .u8 (aA .u64 x1 0)]),.n (((x2++[conv .u8 (aA .u64 x1 8)])++[conv .u8 (aA .u64 x1 0)]).length),.n ((x2++[conv .u8 (aA .u64 x1 8)]).length),dt,.rows (List.map aJ ((x2++[conv .u8 (aA .u64 x1 8)])++[conv .u8 (aA .u64 x1 0)]))] [⟨(jY aJ (x2++[conv .u8 (aA .u64 x1 8)]) [conv .u8 (aA .u64 x1 0)])⟩,⟨(i5 ((x2++[conv .u8 (aA .u64 x1 8)]).length))⟩,⟨(aN aJ (x2++[conv .u8 (aA .u64 x1 8)]))⟩,⟨cL0⟩,⟨(by simp only[wl,List.length_map,List.map_nil,List.map_cons]<;>omega:((x2++[conv .u8 (aA .u64 x1 8)]).length)+(List.map aJ [conv .u8 (aA .u64 x1 0)]).length=((x2++[conv .u8 (aA .u64 x1 8)])++[conv .u8 (aA .u64 x1 0)]).length)⟩,⟨(aX aJ (l:=[conv .u8 (aA .u64 x1 0)]) (n:=1) rfl)⟩,⟨(bP aJ (Nat.le_refl 1):0+1≤(List.map aJ [conv .u8 (aA .u64 x1 0)]).length)⟩,⟨(nT (rfl:ltI 0 0=false))⟩] (by kernel_rfl) (aDH x1 x2 _ k eL1)
  rw[if_neg cL0] at h;replace cL0:=eqf cL0
  cases h
theorem aDV (x1:Int) (x2:List Int) (y:(Unit)):∀(k:Nat),eH k x1 x2=some y→LT Tryz.prog (X55_1 x2) L55_1_0 (S55_1_0 x1 x2) (O55_1_0 x1 x2 y)
 | 0,h=>by cases h
 | k+1,h=>by
  rw[eH] at h
  by_cases cL0:bT (((x2++[conv .u8 (aA .u64 x1 8)]).length)*1)=true
  · rw[if_pos cL0] at h
    obtain⟨aM0,eL1,h⟩:=bsm h
    obtain rfl:=osi h
    show LT _ _ _ _ (.st (.exit 0) (aHW x1 x2))
    exact LT.next mixed (hs:=⟨[(0,[]),(1,[]),(7,[])],[],false,[],[]⟩) (es:=none) [dt,.rows (List.map aJ [conv .u8 (aA .u64 x1 8)]),.n ((x2++[conv .u8 (aA .u64 x1 8)]).length),.n x2.length,dt,.rows (List.map aJ (x2++[conv .u8 (aA .u64 x1 8)]))] [⟨(jY aJ x2 [conv .u8 (aA .u64 x1 8)])⟩,⟨(i5 x2.length)⟩,⟨(aN aJ x2)⟩,⟨cL0⟩,⟨(by simp only[wl,List.length_map,List.map_nil,List.map_cons]<;>omega:x2.length+(List.map aJ [conv .u8 (aA .u64 x1 8)]).length=(x2++[conv .u8 (aA .u64 x1 8)]).length)⟩,⟨(aX aJ (l:=[conv .u8 (aA .u64 x1 8)]) (n:=1) rfl)⟩,⟨(bP aJ (Nat.le_refl 1):0+1≤(List.map aJ [conv .u8 (aA .u64 x1 8)]).length)⟩,⟨(nT (rfl:ltI 8 0=false))⟩] (by kernel_rfl) (aDQ x1 x2 _ k eL1)
  rw[if_neg cL0] at h;replace cL0:=eqf cL0
  cases h
theorem aH4 (k:Nat) (x1:Int) (x2:List Int) (r:Unit) (h:nD k x1 x2=some r):Tri Tryz.prog 55 [(.ref 1 0 0 0 x2.length .virt),(.int .u64 x1),(.int .i64 2)] [(.arr 1 (List.map aJ x2) 0 0 false)] (.ref 1 0 2 0 (((x2++[conv .u8 (aA .u64 x1 8)])++[conv .u8 (aA .u64 x1 0)]).length) .virt) [(.arr 1 (List.map aJ ((x2++[conv .u8 (aA .u64 x1 8)])++[conv .u8 (aA .u64 x1 0)])) 2 0 false)]:=by
 unfold nD at h
 obtain⟨x4,e0,h⟩:=bsm h
 obtain rfl:=osi h
 exact Tri.of (x:=(X55_1 x2)) mixed aI6 [.norm 2 ⟨[(0,[]),(1,[]),(7,[])],[],false,[],[]⟩,.out (.st .normal (aHW x1 x2)),.norm 0 ⟨[(6,[])],[],false,[],[]⟩] [⟨(LT.block (aDV x1 x2 _ k e0))⟩] (by kernel_rfl)
end Go.Ws

namespace Go.Ws
open Go.Proofs
set_option linter.unusedSimpArgs false
set_option linter.unusedVariables false
set_option maxRecDepth 1000000
set_option maxHeartbeats 4000000
noncomputable def X55_2 (x2:List Int):Ctx:=⟨Tryz.f55,[(.arr 1 (List.map aJ x2) 0 0 false)],false⟩
noncomputable def L55_2_1:Code:=at_ Tryz.f55 [1,0,1,4,5]
def S55_2_1 (x1:Int) (x2:List Int):St:=⟨mkT 23 [(0,(.ref 1 0 1 0 ((x2++[conv .u8 (aA .u64 x1 0)]).length) .virt)),(1,(.int .u64 x1)),(7,(.int .i64 (-8)))],[(.arr 1 (List.map aJ (x2++[conv .u8 (aA .u64 x1 0)])) 1 0 false)]⟩
def aLW (x1:Int) (x2:List Int):St:=⟨mkT 23 [(0,(.ref 1 0 1 0 ((x2++[conv .u8 (aA .u64 x1 0)]).length) .virt))],[(.arr 1 (List.map aJ (x2++[conv .u8 (aA .u64 x1 0)])) 1 0 false)]⟩
def O55_2_1 (x1:Int) (x2:List Int) (y:(Unit)):GX:=.st (.exit 0) (aLW x1 x2)
noncomputable def L55_2_0:Code:=at_ Tryz.f55 [1,0,1,4,5]
def S55_2_0 (x1:Int) (x2:List Int):St:=⟨mkT 23 [(0,(.ref 1 0 0 0 x2.length .virt)),(1,(.int .u64 x1)),(7,(.int .i64 0))],[(.arr 1 (List.map aJ x2) 0 0 false)]⟩
def aHH (x1:Int) (x2:List Int):St:=⟨mkT 23 [(0,(.ref 1 0 1 0 ((x2++[conv .u8 (aA .u64 x1 0)]).length) .virt))],[(.arr 1 (List.map aJ (x2++[conv .u8 (aA .u64 x1 0)])) 1 0 false)]⟩
def O55_2_0 (x1:Int) (x2:List Int) (y:(Unit)):GX:=.st (.exit 0) (aHH x1 x2)
theorem aDN (x1:Int) (x2:List Int) (y:(Unit)):∀(k:Nat),eQ k x1 x2=some y→LT Tryz.prog (X55_2 x2) L55_2_1 (S55_2_1 x1 x2) (O55_2_1 x1 x2 y)
 | 0,h=>by cases h
 | k+1,h=>by
  rw[eQ] at h
  obtain rfl:=osi h
  show LT _ _ _ _ (.st (.exit 0) (aLW x1 x2))
  exact LT.done mixed (hs:=⟨[],[],false,[],[]⟩) (es:=(some ⟨[(0,[])],[],false,[],[]⟩)) [df] [⟨(nF (rfl:ltI (-8) 0=true))⟩] (by kernel_rfl) (fun s h=>by cases h)
theorem aDC (x1:Int) (x2:List Int) (y:(Unit)):∀(k:Nat),eD k x1 x2=some y→LT Tryz.prog (X55_2 x2) L55_2_0 (S55_2_0 x1 x2) (O55_2_0 x1 x2 y)
 | 0,h=>by cases h
 | k+1,h=>by
  rw[eD] at h
  by_cases cL0:bT (((x2++[conv .u8 (aA .u64 x1 0)]).length)*1)=true
  · rw[if_pos cL0] at h
    obtain⟨aM1,eL1,h⟩:=bsm h
    obtain rfl:=osi h
    show LT _ _ _ _ (.st (.exit 0) (aHH x1 x2))
    exact LT.next mixed (hs:=⟨[(0,[]),(1,[]),(7,[])],[],false,[],[]⟩) (es:=none) [dt,.rows (List.map aJ [conv .u8 (aA .u64 x1 0)]),.n ((x2++[conv .u8 (aA .u64 x1 0)]).length),.n x2.length,dt,.rows (List.map aJ (x2++[conv .u8 (aA .u64 x1 0)]))] [⟨(jY aJ x2 [conv .u8 (aA .u64 x1 0)])⟩,⟨(i5 x2.length)⟩,⟨(aN aJ x2)⟩,⟨cL0⟩,⟨(by simp only[wl,List.length_map,List.map_nil,List.map_cons]<;>omega:x2.length+(List.map aJ [conv .u8 (aA .u64 x1 0)]).length=(x2++[conv .u8 (aA .u64 x1 0)]).length)⟩,⟨(aX aJ (l:=[conv .u8 (aA .u64 x1 0)]) (n:=1) rfl)⟩,⟨(bP aJ (Nat.le_refl 1):0+1≤(List.map aJ [conv .u8 (aA .u64 x1 0)]).length)⟩,⟨(nT (rfl:ltI 0 0=false))⟩] (by kernel_rfl) (aDN x1 x2 _ k eL1)
  rw[if_neg cL0] at h;replace cL0:=eqf cL0
  cases h
theorem aHX (k:Nat) (x1:Int) (x2:List Int) (r:Unit) (h:nG k x1 x2=some r):Tri Tryz.prog 55 [(.ref 1 0 0 0 x2.length .virt),(.int .u64 x1),(.int .i64 1)] [(.arr 1 (List.map aJ x2) 0 0 false)] (.ref 1 0 1 0 ((x2++[conv .u8 (aA .u64 x1 0)]).length) .virt) [(.arr 1 (List.map aJ (x2++[conv .u8 (aA .u64 x1 0)])) 1 0 false)]:=by
 unfold nG at h
 obtain⟨x4,e0,h⟩:=bsm h
 obtain rfl:=osi h
 exact Tri.of (x:=(X55_2 x2)) mixed aI6 [.norm 2 ⟨[(0,[]),(1,[]),(7,[])],[],false,[],[]⟩,.out (.st .normal (aHH x1 x2)),.norm 0 ⟨[(6,[])],[],false,[],[]⟩] [⟨(LT.block (aDC x1 x2 _ k e0))⟩] (by kernel_rfl)
end Go.Ws

namespace Go.Ws
open Go.Proofs
set_option linter.unusedSimpArgs false
set_option linter.unusedVariables false
set_option maxRecDepth 1000000
set_option maxHeartbeats 4000000
noncomputable def X54_2:Ctx:=⟨Tryz.f54,[],false⟩
theorem aAM:Tri Tryz.prog 54 [(.int .u8 100)] [] (.int .i64 8) []:=by
 obtain⟨r,h⟩:∃r,zQ=r:=⟨_,rfl⟩
 try rw[h]
 unfold zQ at h
 obtain rfl:=h
 exact Tri.of (x:=X54_2) mixed aND [df,.norm 0 ⟨[(2,[])],[],false,[],[]⟩] [⟨(rfl:eqI 100 116=false)⟩] (by kernel_rfl)
end Go.Ws

namespace Go.Ws
open Go.Proofs
set_option linter.unusedSimpArgs false
set_option linter.unusedVariables false
set_option maxRecDepth 1000000
set_option maxHeartbeats 4000000
noncomputable def aD7 (x2:List Int):Ctx:=⟨Tryz.f55,[(.arr 1 (List.map aJ x2) 0 0 false)],false⟩
noncomputable def L55_3_8:Code:=at_ Tryz.f55 [1,0,1,4,5]
def S55_3_8 (x1:Int) (x2:List Int):St:=⟨mkT 23 [(0,(.ref 1 0 8 0 (((((((((x2++[conv .u8 (aA .u64 x1 56)])++[conv .u8 (aA .u64 x1 48)])++[conv .u8 (aA .u64 x1 40)])++[conv .u8 (aA .u64 x1 32)])++[conv .u8 (aA .u64 x1 24)])++[conv .u8 (aA .u64 x1 16)])++[conv .u8 (aA .u64 x1 8)])++[conv .u8 (aA .u64 x1 0)]).length) .virt)),(1,(.int .u64 x1)),(7,(.int .i64 (-8)))],[(.arr 1 (List.map aJ ((((((((x2++[conv .u8 (aA .u64 x1 56)])++[conv .u8 (aA .u64 x1 48)])++[conv .u8 (aA .u64 x1 40)])++[conv .u8 (aA .u64 x1 32)])++[conv .u8 (aA .u64 x1 24)])++[conv .u8 (aA .u64 x1 16)])++[conv .u8 (aA .u64 x1 8)])++[conv .u8 (aA .u64 x1 0)])) 8 0 false)]⟩
def aLT (x1:Int) (x2:List Int):St:=⟨mkT 23 [(0,(.ref 1 0 8 0 (((((((((x2++[conv .u8 (aA .u64 x1 56)])++[conv .u8 (aA .u64 x1 48)])++[conv .u8 (aA .u64 x1 40)])++[conv .u8 (aA .u64 x1 32)])++[conv .u8 (aA .u64 x1 24)])++[conv .u8 (aA .u64 x1 16)])++[conv .u8 (aA .u64 x1 8)])++[conv .u8 (aA .u64 x1 0)]).length) .virt))],[(.arr 1 (List.map aJ ((((((((x2++[conv .u8 (aA .u64 x1 56)])++[conv .u8 (aA .u64 x1 48)])++[conv .u8 (aA .u64 x1 40)])++[conv .u8 (aA .u64 x1 32)])++[conv .u8 (aA .u64 x1 24)])++[conv .u8 (aA .u64 x1 16)])++[conv .u8 (aA .u64 x1 8)])++[conv .u8 (aA .u64 x1 0)])) 8 0 false)]⟩
def O55_3_8 (x1:Int) (x2:List Int) (y:(Unit)):GX:=.st (.exit 0) (aLT x1 x2)
noncomputable def L55_3_7:Code:=at_ Tryz.f55 [1,0,1,4,5]
def S55_3_7 (x1:Int) (x2:List Int):St:=⟨mkT 23 [(0,(.ref 1 0 7 0 ((((((((x2++[conv .u8 (aA .u64 x1 56)])++[conv .u8 (aA .u64 x1 48)])++[conv .u8 (aA .u64 x1 40)])++[conv .u8 (aA .u64 x1 32)])++[conv .u8 (aA .u64 x1 24)])++[conv .u8 (aA .u64 x1 16)])++[conv .u8 (aA .u64 x1 8)]).length) .virt)),(1,(.int .u64 x1)),(7,(.int .i64 0))],[(.arr 1 (List.map aJ (((((((x2++[conv .u8 (aA .u64 x1 56)])++[conv .u8 (aA .u64 x1 48)])++[conv .u8 (aA .u64 x1 40)])++[conv .u8 (aA .u64 x1 32)])++[conv .u8 (aA .u64 x1 24)])++[conv .u8 (aA .u64 x1 16)])++[conv .u8 (aA .u64 x1 8)])) 7 0 false)]⟩
def aMY (x1:Int) (x2:List Int):St:=⟨mkT 23 [(0,(.ref 1 0 8 0 (((((((((x2++[conv .u8 (aA .u64 x1 56)])++[conv .u8 (aA .u64 x1 48)])++[conv .u8 (aA .u64 x1 40)])++[conv .u8 (aA .u64 x1 32)])++[conv .u8 (aA .u64 x1 24)])++[conv .u8 (aA .u64 x1 16)])++[conv .u8 (aA .u64 x1 8)])++[conv .u8 (aA .u64 x1 0)]).length) .virt))],[(.arr 1 (List.map aJ ((((((((x2++[conv .u8 (aA .u64 x1 56)])++[conv .u8 (aA .u64 x1 48)])++[conv .u8 (aA .u64 x1 40)])++[conv .u8 (aA .u64 x1 32)])++[conv .u8 (aA .u64 x1 24)])++[conv .u8 (aA .u64 x1 16)])++[conv .u8 (aA .u64 x1 8)])++[conv .u8 (aA .u64 x1 0)])) 8 0 false)]⟩
def O55_3_7 (x1:Int) (x2:List Int) (y:(Unit)):GX:=.st (.exit 0) (aMY x1 x2)
noncomputable def L55_3_6:Code:=at_ Tryz.f55 [1,0,1,4,5]
def S55_3_6 (x1:Int) (x2:List Int):St:=⟨mkT 23 [(0,(.ref 1 0 6 0 (((((((x2++[conv .u8 (aA .u64 x1 56)])++[conv .u8 (aA .u64 x1 48)])++[conv .u8 (aA .u64 x1 40)])++[conv .u8 (aA .u64 x1 32)])++[conv .u8 (aA .u64 x1 24)])++[conv .u8 (aA .u64 x1 16)]).length) .virt)),(1,(.int .u64 x1)),(7,(.int .i64 8))],[(.arr 1 (List.map aJ ((((((x2++[conv .u8 (aA .u64 x1 56)])++[conv .u8 (aA .u64 x1 48)])++[conv .u8 (aA .u64 x1 40)])++[conv .u8 (aA .u64 x1 32)])++[conv .u8 (aA .u64 x1 24)])++[conv .u8 (aA .u64 x1 16)])) 6 0 false)]⟩
def aMU (x1:Int) (x2:List Int):St:=⟨mkT 23 [(0,(.ref 1 0 8 0 (((((((((x2++[conv .u8 (aA .u64 x1 56)])++[conv .u8 (aA .u64 x1 48)])++[conv .u8 (aA .u64 x1 40)])++[conv .u8 (aA .u64 x1 32)])++[conv .u8 (aA .u64 x1 24)])++[conv .u8 (aA .u64 x1 16)])++[conv .u8 (aA .u64 x1 8)])++[conv .u8 (aA .u64 x1 0)]).length) .virt))],[(.arr 1 (List.map aJ ((((((((x2++[conv .u8 (aA .u64 x1 56)])++[conv .u8 (aA .u64 x1 48)])++[conv .u8 (aA .u64 x1 40)])++[conv .u8 (aA .u64 x1 32)])++[conv .u8 (aA .u64 x1 24)])++[conv .u8 (aA .u64 x1 16)])++[conv .u8 (aA .u64 x1 8)])++[conv .u8 (aA .u64 x1 0)])) 8 0 false)]⟩
def O55_3_6 (x1:Int) (x2:List Int) (y:(Unit)):GX:=.st (.exit 0) (aMU x1 x2)
noncomputable def L55_3_5:Code:=at_ Tryz.f55 [1,0,1,4,5]
def S55_3_5 (x1:Int) (x2:List Int):St:=⟨mkT 23 [(0,(.ref 1 0 5 0 ((((((x2++[conv .u8 (aA .u64 x1 56)])++[conv .u8 (aA .u64 x1 48)])++[conv .u8 (aA .u64 x1 40)])++[conv .u8 (aA .u64 x1 32)])++[conv .u8 (aA .u64 x1 24)]).length) .virt)),(1,(.int .u64 x1)),(7,(.int .i64 16))],[(.arr 1 (List.map aJ (((((x2++[conv .u8 (aA .u64 x1 56)])++[conv .u8 (aA .u64 x1 48)])++[conv .u8 (aA .u64 x1 40)])++[conv .u8 (aA .u64 x1 32)])++[conv .u8 (aA .u64 x1 24)])) 5 0 false)]⟩
def aLV (x1:Int) (x2:List Int):St:=⟨mkT 23 [(0,(.ref 1 0 8 0 (((((((((x2++[conv .u8 (aA .u64 x1 56)])++[conv .u8 (aA .u64 x1 48)])++[conv .u8 (aA .u64 x1 40)])++[conv .u8 (aA .u64 x1 32)])++[conv .u8 (aA .u64 x1 24)])++[conv .u8 (aA .u64 x1 16)])++[conv .u8 (aA .u64 x1 8)])++[conv .u8 (aA .u64 x1 0)]).length) .virt))],[(.arr 1 (List.map aJ ((((((((x2++[conv .u8 (aA .u64 x1 56)])++[conv .u8 (aA .u64 x1 48)])++[conv .u8 (aA .u64 x1 40)])++[conv .u8 (aA .u64 x1 32)])++[conv .u8 (aA .u64 x1 24)])++[conv .u8 (aA .u64 x1 16)])++[conv .u8 (aA .u64 x1 8)])++[conv .u8 (aA .u64 x1 0)])) 8 0 false)]⟩
def O55_3_5 (x1:Int) (x2:List Int) (y:(Unit)):GX:=.st (.exit 0) (aLV x1 x2)
noncomputable def L55_3_4:Code:=at_ Tryz.f55 [1,0,1,4,5]
def S55_3_4 (x1:Int) (x2:List Int):St:=⟨mkT 23 [(0,(.ref 1 0 4 0 (((((x2++[conv .u8 (aA .u64 x1 56)])++[conv .u8 (aA .u64 x1 48)])++[conv .u8 (aA .u64 x1 40)])++[conv .u8 (aA .u64 x1 32)]).length) .virt)),(1,(.int .u64 x1)),(7,(.int .i64 24))],[(.arr 1 (List.map aJ ((((x2++[conv .u8 (aA .u64 x1 56)])++[conv .u8 (aA .u64 x1 48)])++[conv .u8 (aA .u64 x1 40)])++[conv .u8 (aA .u64 x1 32)])) 4 0 false)]⟩
def aL7 (x1:Int) (x2:List Int):St:=⟨mkT 23 [(0,(.ref 1 0 8 0 (((((((((x2++[conv .u8 (aA .u64 x1 56)])++[conv .u8 (aA .u64 x1 48)])++[conv .u8 (aA .u64 x1 40)])++[conv .u8 (aA .u64 x1 32)])++[conv .u8 (aA .u64 x1 24)])++[conv .u8 (aA .u64 x1 16)])++[conv .u8 (aA .u64 x1 8)])++[conv .u8 (aA .u64 x1 0)]).length) .virt))],[(.arr 1 (List.map aJ ((((((((x2++[conv .u8 (aA .u64 x1 56)])++[conv .u8 (aA .u64 x1 48)])++[conv .u8 (aA .u64 x1 40)])++[conv .u8 (aA .u64 x1 32)])++[conv .u8 (aA .u64 x1 24)])++[conv .u8 (aA .u64 x1 16)])++[conv .u8 (aA .u64 x1 8)])++[conv .u8 (aA .u64 x1 0)])) 8 0 false)]⟩
def O55_3_4 (x1:Int) (x2:List Int) (y:(Unit)):GX:=.st (.exit 0) (aL7 x1 x2)
noncomputable def L55_3_3:Code:=at_ Tryz.f55 [1,0,1,4,5]
def S55_3_3 (x1:Int) (x2:List Int):St:=⟨mkT 23 [(0,(.ref 1 0 3 0 ((((x2++[conv .u8 (aA .u64 x1 56)])++[conv .u8 (aA .u64 x1 48)])++[conv .u8 (aA .u64 x1 40)]).length) .virt)),(1,(.int .u64 x1)),(7,(.int .i64 32))],[(.arr 1 (List.map aJ (((x2++[conv .u8 (aA .u64 x1 56)])++[conv .u8 (aA .u64 x1 48)])++[conv .u8 (aA .u64 x1 40)])) 3 0 false)]⟩
def aL6 (x1:Int) (x2:List Int):St:=⟨mkT 23 [(0,(.ref 1 0 8 0 (((((((((x2++[conv .u8 (aA .u64 x1 56)])++[conv .u8 (aA .u64 x1 48)])++[conv .u8 (aA .u64 x1 40)])++[conv .u8 (aA .u64 x1 32)])++[conv .u8 (aA .u64 x1 24)])++[conv .u8 (aA .u64 x1 16)])++[conv .u8 (aA .u64 x1 8)])++[conv .u8 (aA .u64 x1 0)]).length) .virt))],[(.arr 1 (List.map aJ ((((((((x2++[conv .u8 (aA .u64 x1 56)])++[conv .u8 (aA .u64 x1 48)])++[conv .u8 (aA .u64 x1 40)])++[conv .u8 (aA .u64 x1 32)])++[conv .u8 (aA .u64 x1 24)])++[conv .u8 (aA .u64 x1 16)])++[conv .u8 (aA .u64 x1 8)])++[conv .u8 (aA .u64 x1 0)])) 8 0 false)]⟩
def O55_3_3 (x1:Int) (x2:List Int) (y:(Unit)):GX:=.st (.exit 0) (aL6 x1 x2)
noncomputable def L55_3_2:Code:=at_ Tryz.f55 [1,0,1,4,5]
def S55_3_2 (x1:Int) (x2:List Int):St:=⟨mkT 23 [(0,(.ref 1 0 2 0 (((x2++[conv .u8 (aA .u64 x1 56)])++[conv .u8 (aA .u64 x1 48)]).length) .virt)),(1,(.int .u64 x1)),(7,(.int .i64 40))],[(.arr 1 (List.map aJ ((x2++[conv .u8 (aA .u64 x1 56)])++[conv .u8 (aA .u64 x1 48)])) 2 0 false)]⟩
def aMH (x1:Int) (x2:List Int):St:=⟨mkT 23 [(0,(.ref 1 0 8 0 (((((((((x2++[conv .u8 (aA .u64 x1 56)])++[conv .u8 (aA .u64 x1 48)])++[conv .u8 (aA .u64 x1 40)])++[conv .u8 (aA .u64 x1 32)])++[conv .u8 (aA .u64 x1 24)])++[conv .u8 (aA .u64 x1 16)])++[conv .u8 (aA .u64 x1 8)])++[conv .u8 (aA .u64 x1 0)]).length) .virt))],[(.arr 1 (List.map aJ ((((((((x2++[conv .u8 (aA .u64 x1 56)])++[conv .u8 (aA .u64 x1 48)])++[conv .u8 (aA .u64 x1 40)])++[conv .u8 (aA .u64 x1 32)])++[conv .u8 (aA .u64 x1 24)])++[conv .u8 (aA .u64 x1 16)])++[conv .u8 (aA .u64 x1 8)])++[conv .u8 (aA .u64 x1 0)])) 8 0 false)]⟩
def O55_3_2 (x1:Int) (x2:List Int) (y:(Unit)):GX:=.st (.exit 0) (aMH x1 x2)
noncomputable def L55_3_1:Code:=at_ Tryz.f55 [1,0,1,4,5]
def S55_3_1 (x1:Int) (x2:List Int):St:=⟨mkT 23 [(0,(.ref 1 0 1 0 ((x2++[conv .u8 (aA .u64 x1 56)]).length) .virt)),(1,(.int .u64 x1)),(7,(.int .i64 48))],[(.arr 1 (List.map aJ (x2++[conv .u8 (aA .u64 x1 56)])) 1 0 false)]⟩
def aMA (x1:Int) (x2:List Int):St:=⟨mkT 23 [(0,(.ref 1 0 8 0 (((((((((x2++[conv .u8 (aA .u64 x1 56)])++[conv .u8 (aA .u64 x1 48)])++[conv .u8 (aA .u64 x1 40)])++[conv .u8 (aA .u64 x1 32)])++[conv .u8 (aA .u64 x1 24)])++[conv .u8 (aA .u64 x1 16)])++[conv .u8 (aA .u64 x1 8)])++[conv .u8 (aA .u64 x1 0)]).length) .virt))],[(.arr 1 (List.map aJ ((((((((x2++[conv .u8 (aA .u64 x1 56)])++[conv .u8 (aA .u64 x1 48)])++[conv .u8 (aA .u64 x1 40)])++[conv .u8 (aA .u64 x1 32)])++[conv .u8 (aA .u64 x1 24)])++[conv .u8 (aA .u64 x1 16)])++[conv .u8 (aA .u64 x1 8)])++[conv .u8 (aA .u64 x1 0)])) 8 0 false)]⟩
def O55_3_1 (x1:Int) (x2:List Int) (y:(Unit)):GX:=.st (.exit 0) (aMA x1 x2)
noncomputable def L55_3_0:Code:=at_ Tryz.f55 [1,0,1,4,5]
def S55_3_0 (x1:Int) (x2:List Int):St:=⟨mkT 23 [(0,(.ref 1 0 0 0 x2.length .virt)),(1,(.int .u64 x1)),(7,(.int .i64 56))],[(.arr 1 (List.map aJ x2) 0 0 false)]⟩
def aG4 (x1:Int) (x2:List Int):St:=⟨mkT 23 [(0,(.ref 1 0 8 0 (((((((((x2++[conv .u8 (aA .u64 x1 56)])++[conv .u8 (aA .u64 x1 48)])++[conv .u8 (aA .u64 x1 40)])++[conv .u8 (aA .u64 x1 32)])++[conv .u8 (aA .u64 x1 24)])++[conv .u8 (aA .u64 x1 16)])++[conv .u8 (aA .u64 x1 8)])++[conv .u8 (aA .u64 x1 0)]).length) .virt))],[(.arr 1 (List.map aJ ((((((((x2++[conv .u8 (aA .u64 x1 56)])++[conv .u8 (aA .u64 x1 48)])++[conv .u8 (aA .u64 x1 40)])++[conv .u8 (aA .u64 x1 32)])++[conv .u8 (aA .u64 x1 24)])++[conv .u8 (aA .u64 x1 16)])++[conv .u8 (aA .u64 x1 8)])++[conv .u8 (aA .u64 x1 0)])) 8 0 false)]⟩
def O55_3_0 (x1:Int) (x2:List Int) (y:(Unit)):GX:=.st (.exit 0) (aG4 x1 x2)
def aTO (x1:Int) (x2:List Int):Ans:=.n ((((((((x2++[conv .u8 (aA .u64 x1 56)])++[conv .u8 (aA .u64 x1 48)])++[conv .u8 (aA .u64 x1 40)])++[conv .u8 (aA .u64 x1 32)])++[conv .u8 (aA .u64 x1 24)])++[conv .u8 (aA .u64 x1 16)])++[conv .u8 (aA .u64 x1 8)]).length)
def aTN (x1:Int) (x2:List Int):Ans:=.n (((((((x2++[conv .u8 (aA .u64 x1 56)])++[conv .u8 (aA .u64 x1 48)])++[conv .u8 (aA .u64 x1 40)])++[conv .u8 (aA .u64 x1 32)])++[conv .u8 (aA .u64 x1 24)])++[conv .u8 (aA .u64 x1 16)]).length)
def aSW (x1:Int) (x2:List Int):Ans:=.n ((((((x2++[conv .u8 (aA .u64 x1 56)])++[conv .u8 (aA .u64 x1 48)])++[conv .u8 (aA .u64 x1 40)])++[conv .u8 (aA .u64 x1 32)])++[conv .u8 (aA .u64 x1 24)]).length)
def aUH (x1:Int) (x2:List Int):Ans:=.n (((((x2++[conv .u8 (aA .u64 x1 56)])++[conv .u8 (aA .u64 x1 48)])++[conv .u8 (aA .u64 x1 40)])++[conv .u8 (aA .u64 x1 32)]).length)
theorem aDT (x1:Int) (x2:List Int) (y:(Unit)):∀(k:Nat),eJ k x1 x2=some y→LT Tryz.prog (aD7 x2) L55_3_8 (S55_3_8 x1 x2) (O55_3_8 x1 x2 y)
 | 0,h=>by cases h
 | k+1,h=>by
  rw[eJ] at h
  obtain rfl:=osi h
  show LT _ _ _ _ (.st (.exit 0) (aLT x1 x2))
  exact LT.done mixed (hs:=⟨[],[],false,[],[]⟩) (es:=(some ⟨[(0,[])],[],false,[],[]⟩)) [df] [⟨(nF (rfl:ltI (-8) 0=true))⟩] (by kernel_rfl) (fun s h=>by cases h)
theorem aDR (x1:Int) (x2:List Int) (y:(Unit)):∀(k:Nat),eN k x1 x2=some y→LT Tryz.prog (aD7 x2) L55_3_7 (S55_3_7 x1 x2) (O55_3_7 x1 x2 y)
 | 0,h=>by cases h
 | k+1,h=>by
  rw[eN] at h
  by_cases cL0:bT ((((((((((x2++[conv .u8 (aA .u64 x1 56)])++[conv .u8 (aA .u64 x1 48)])++[conv .u8 (aA .u64 x1 40)])++[conv .u8 (aA .u64 x1 32)])++[conv .u8 (aA .u64 x1 24)])++[conv .u8 (aA .u64 x1 16)])++[conv .u8 (aA .u64 x1 8)])++[conv .u8 (aA .u64 x1 0)]).length)*1)=true
  · rw[if_pos cL0] at h
    obtain⟨aM2,eL1,h⟩:=bsm h
    obtain rfl:=osi h
    show LT _ _ _ _ (.st (.exit 0) (aMY x1 x2))
    exact LT.next mixed (hs:=⟨[(0,[]),(1,[]),(7,[])],[],false,[],[]⟩) (es:=none) [dt,.rows (List.map aJ [conv .u8 (aA .u64 x1 0)]),.n (((((((((x2++[conv .u8 (aA .u64 x1 56)])++[conv .u8 (aA .u64 x1 48)])++[conv .u8 (aA .u64 x1 40)])++[conv .u8 (aA .u64 x1 32)])++[conv .u8 (aA .u64 x1 24)])++[conv .u8 (aA .u64 x1 16)])++[conv .u8 (aA .u64 x1 8)])++[conv .u8 (aA .u64 x1 0)]).length),(aTO x1 x2),dt,.rows (List.map aJ ((((((((x2++[conv .u8 (aA .u64 x1 56)])++[conv .u8 (aA .u64 x1 48)])++[conv .u8 (aA .u64 x1 40)])++[conv .u8 (aA .u64 x1 32)])++[conv .u8 (aA .u64 x1 24)])++[conv .u8 (aA .u64 x1 16)])++[conv .u8 (aA .u64 x1 8)])++[conv .u8 (aA .u64 x1 0)]))] [⟨(jY aJ (((((((x2++[conv .u8 (aA .u64 x1 56)])++[conv .u8 (aA .u64 x1 48)])++[conv .u8 (aA .u64 x1 40)])++[conv .u8 (aA .u64 x1 32)])++[conv .u8 (aA .u64 x1 24)])++[conv .u8 (aA .u64 x1 16)])++[conv .u8 (aA .u64 x1 8)]) [conv .u8 (aA .u64 x1 0)])⟩,⟨(i5 ((((((((x2++[conv .u8 (aA .u64 x1 56)])++[conv .u8 (aA .u64 x1 48)])++[conv .u8 (aA .u64 x1 40)])++[conv .u8 (aA .u64 x1 32)])++[conv .u8 (aA .u64 x1 24)])++[conv .u8 (aA .u64 x1 16)])++[conv .u8 (aA .u64 x1 8)]).length))⟩,⟨(aN aJ (((((((x2++[conv .u8 (aA .u64 x1 56)])++[conv .u8 (aA .u64 x1 48)])++[conv .u8 (aA .u64 x1 40)])++[conv .u8 (aA .u64 x1 32)])++[conv .u8 (aA .u64 x1 24)])++[conv .u8 (aA .u64 x1 16)])++[conv .u8 (aA .u64 x1 8)]))⟩,⟨cL0⟩,⟨(by simp only[wl,List.length_map,List.map_nil,List.map_cons]<;>omega:((((((((x2++[conv .u8 (aA .u64 x1 56)])++[conv .u8 (aA .u64 x1 48)])++[conv .u8 (aA .u64 x1 40)])++[conv .u8 (aA .u64 x1 32)])++[conv .u8 (aA .u64 x1 24)])++[conv .u8 (aA .u64 x1 16)])++[conv .u8 (aA .u64 x1 8)]).length)+(List.map aJ [conv .u8 (aA .u64 x1 0)]).length=((((((((x2++[conv .u8 (aA .u64 x1 56)])++[conv .u8 (aA .u64 x1 48)])++[conv .u8 (aA .u64 x1 40)])++[conv .u8 (aA .u64 x1 32)])++[conv .u8 (aA .u64 x1 24)])++[conv .u8 (aA .u64 x1 16)])++[conv .u8 (aA .u64 x1 8)])++[conv .u8 (aA .u64 x1 0)]).length)⟩,⟨(aX aJ (l:=[conv .u8 (aA .u64 x1 0)]) (n:=1) rfl)⟩,⟨(bP aJ (Nat.le_refl 1):0+1≤(List.map aJ [conv .u8 (aA .u64 x1 0)]).length)⟩,⟨(nT (rfl:ltI 0 0=false))⟩] (by kernel_rfl) (aDT x1 x2 _ k eL1)
  rw[if_neg cL0] at h;replace cL0:=eqf cL0
  cases h
theorem aDS (x1:Int) (x2:List Int) (y:(Unit)):∀(k:Nat),eP k x1 x2=some y→LT Tryz.prog (aD7 x2) L55_3_6 (S55_3_6 x1 x2) (O55_3_6 x1 x2 y)
 | 0,h=>by cases h
 | k+1,h=>by
  rw[eP] at h
  by_cases cL0:bT (((((((((x2++[conv .u8 (aA .u64 x1 56)])++[conv .u8 (aA .u64 x1 48)])++[conv .u8 (aA .u64 x1 40)])++[conv .u8 (aA .u64 x1 32)])++[conv .u8 (aA .u64 x1 24)])++[conv .u8 (aA .u64 x1 16)])++[conv .u8 (aA .u64 x1 8)]).length)*1)=true
  · rw[if_pos cL0] at h
    obtain⟨aM3,eL1,h⟩:=bsm h
    obtain rfl:=osi h
    show LT _ _ _ _ (.st (.exit 0) (aMU x1 x2))
    exact LT.next mixed (hs:=⟨[(0,[]),(1,[]),(7,[])],[],false,[],[]⟩) (es:=none) [dt,.rows (List.map aJ [conv .u8 (aA .u64 x1 8)]),(aTO x1 x2),(aTN x1 x2),dt,.rows (List.map aJ (((((((x2++[conv .u8 (aA .u64 x1 56)])++[conv .u8 (aA .u64 x1 48)])++[conv .u8 (aA .u64 x1 40)])++[conv .u8 (aA .u64 x1 32)])++[conv .u8 (aA .u64 x1 24)])++[conv .u8 (aA .u64 x1 16)])++[conv .u8 (aA .u64 x1 8)]))] [⟨(jY aJ ((((((x2++[conv .u8 (aA .u64 x1 56)])++[conv .u8 (aA .u64 x1 48)])++[conv .u8 (aA .u64 x1 40)])++[conv .u8 (aA .u64 x1 32)])++[conv .u8 (aA .u64 x1 24)])++[conv .u8 (aA .u64 x1 16)]) [conv .u8 (aA .u64 x1 8)])⟩,⟨(i5 (((((((x2++[conv .u8 (aA .u64 x1 56)])++[conv .u8 (aA .u64 x1 48)])++[conv .u8 (aA .u64 x1 40)])++[conv .u8 (aA .u64 x1 32)])++[conv .u8 (aA .u64 x1 24)])++[conv .u8 (aA .u64 x1 16)]).length))⟩,⟨(aN aJ ((((((x2++[conv .u8 (aA .u64 x1 56)])++[conv .u8 (aA .u64 x1 48)])++[conv .u8 (aA .u64 x1 40)])++[conv .u8 (aA .u64 x1 32)])++[conv .u8 (aA .u64 x1 24)])++[conv .u8 (aA .u64 x1 16)]))⟩,⟨cL0⟩,⟨(by simp only[wl,List.length_map,List.map_nil,List.map_cons]<;>omega:(((((((x2++[conv .u8 (aA .u64 x1 56)])++[conv .u8 (aA .u64 x1 48)])++[conv .u8 (aA .u64 x1 40)])++[conv .u8 (aA .u64 x1 32)])++[conv .u8 (aA .u64 x1 24)])++[conv .u8 (aA .u64 x1 16)]).length)+(List.map aJ [conv .u8 (aA .u64 x1 8)]).length=(((((((x2++[conv .u8 (aA .u64 x1 56)])++[conv .u8 (aA .u64 x1 48)])++[conv .u8 (aA .u64 x1 40)])++[conv .u8 (aA .u64 x1 32)])++[conv .u8 (aA .u64 x1 24)])++[conv .u8 (aA .u64 x1 16)])++[conv .u8 (aA .u64 x1 8)]).length)⟩,⟨(aX aJ (l:=[conv .u8 (aA .u64 x1 8)]) (n:=1) rfl)⟩,⟨(bP aJ (Nat.le_refl 1):0+1≤(List.map aJ [conv .u8 (aA .u64 x1 8)]).length)⟩,⟨(nT (rfl:ltI 8 0=false))⟩] (by kernel_rfl) (aDR x1 x2 _ k eL1)
  rw[if_neg cL0] at h;replace cL0:=eqf cL0
  cases h
theorem aC7 (x1:Int) (x2:List Int) (y:(Unit)):∀(k:Nat),eO k x1 x2=some y→LT Tryz.prog (aD7 x2) L55_3_5 (S55_3_5 x1 x2) (O55_3_5 x1 x2 y)
 | 0,h=>by cases h
 | k+1,h=>by
  rw[eO] at h
  by_cases cL0:bT ((((((((x2++[conv .u8 (aA .u64 x1 56)])++[conv .u8 (aA .u64 x1 48)])++[conv .u8 (aA .u64 x1 40)])++[conv .u8 (aA .u64 x1 32)])++[conv .u8 (aA .u64 x1 24)])++[conv .u8 (aA .u64 x1 16)]).length)*1)=true
  · rw[if_pos cL0] at h
    obtain⟨aM4,eL1,h⟩:=bsm h
    obtain rfl:=osi h
    show LT _ _ _ _ (.st (.exit 0) (aLV x1 x2))
    exact LT.next mixed (hs:=⟨[(0,[]),(1,[]),(7,[])],[],false,[],[]⟩) (es:=none) [dt,.rows (List.map aJ [conv .u8 (aA .u64 x1 16)]),(aTN x1 x2),(aSW x1 x2),dt,.rows (List.map aJ ((((((x2++[conv .u8 (aA .u64 x1 56)])++[conv .u8 (aA .u64 x1 48)])++[conv .u8 (aA .u64 x1 40)])++[conv .u8 (aA .u64 x1 32)])++[conv .u8 (aA .u64 x1 24)])++[conv .u8 (aA .u64 x1 16)]))] [⟨(jY aJ (((((x2++[conv .u8 (aA .u64 x1 56)])++[conv .u8 (aA .u64 x1 48)])++[conv .u8 (aA .u64 x1 40)])++[conv .u8 (aA .u64 x1 32)])++[conv .u8 (aA .u64 x1 24)]) [conv .u8 (aA .u64 x1 16)])⟩,⟨(i5 ((((((x2++[conv .u8 (aA .u64 x1 56)])++[conv .u8 (aA .u64 x1 48)])++[conv .u8 (aA .u64 x1 40)])++[conv .u8 (aA .u64 x1 32)])++[conv .u8 (aA .u64 x1 24)]).length))⟩,⟨(aN aJ (((((x2++[conv .u8 (aA .u64 x1 56)])++[conv .u8 (aA .u64 x1 48)])++[conv .u8 (aA .u64 x1 40)])++[conv .u8 (aA .u64 x1 32)])++[conv .u8 (aA .u64 x1 24)]))⟩,⟨cL0⟩,⟨(by simp only[wl,List.length_map,List.map_nil,List.map_cons]<;>omega:((((((x2++[conv .u8 (aA .u64 x1 56)])++[conv .u8 (aA .u64 x1 48)])++[conv .u8 (aA .u64 x1 40)])++[conv .u8 (aA .u64 x1 32)])++[conv .u8 (aA .u64 x1 24)]).length)+(List.map aJ [conv .u8 (aA .u64 x1 16)]).length=((((((x2++[conv .u8 (aA .u64 x1 56)])++[conv .u8 (aA .u64 x1 48)])++[conv .u8 (aA .u64 x1 40)])++[conv .u8 (aA .u64 x1 32)])++[conv .u8 (aA .u64 x1 24)])++[conv .u8 (aA .u64 x1 16)]).length)⟩,⟨(aX aJ (l:=[conv .u8 (aA .u64 x1 16)]) (n:=1) rfl)⟩,⟨(bP aJ (Nat.le_refl 1):0+1≤(List.map aJ [conv .u8 (aA .u64 x1 16)]).length)⟩,⟨(nT (rfl:ltI 16 0=false))⟩] (by kernel_rfl) (aDS x1 x2 _ k eL1)
  rw[if_neg cL0] at h;replace cL0:=eqf cL0
  cases h
theorem aDP (x1:Int) (x2:List Int) (y:(Unit)):∀(k:Nat),eF k x1 x2=some y→LT Tryz.prog (aD7 x2) L55_3_4 (S55_3_4 x1 x2) (O55_3_4 x1 x2 y)
 | 0,h=>by cases h
 | k+1,h=>by
  rw[eF] at h
  by_cases cL0:bT (((((((x2++[conv .u8 (aA .u64 x1 56)])++[conv .u8 (aA .u64 x1 48)])++[conv .u8 (aA .u64 x1 40)])++[conv .u8 (aA .u64 x1 32)])++[conv .u8 (aA .u64 x1 24)]).length)*1)=true
  · rw[if_pos cL0] at h
    obtain⟨aM5,eL1,h⟩:=bsm h
    obtain rfl:=osi h
    show LT _ _ _ _ (.st (.exit 0) (aL7 x1 x2))
    exact LT.next mixed (hs:=⟨[(0,[]),(1,[]),(7,[])],[],false,[],[]⟩) (es:=none) [dt,.rows (List.map aJ [conv .u8 (aA .u64 x1 24)]),(aSW x1 x2),(aUH x1 x2),dt,.rows (List.map aJ (((((x2++[conv .u8 (aA .u64 x1 56)])++[conv .u8 (aA .u64 x1 48)])++[conv .u8 (aA .u64 x1 40)])++[conv .u8 (aA .u64 x1 32)])++[conv .u8 (aA .u64 x1 24)]))] [⟨(jY aJ ((((x2++[conv .u8 (aA .u64 x1 56)])++[conv .u8 (aA .u64 x1 48)])++[conv .u8 (aA .u64 x1 40)])++[conv .u8 (aA .u64 x1 32)]) [conv .u8 (aA .u64 x1 24)])⟩,⟨(i5 (((((x2++[conv .u8 (aA .u64 x1 56)])++[conv .u8 (aA .u64 x1 48)])++[conv .u8 (aA .u64 x1 40)])++[conv .u8 (aA .u64 x1 32)]).length))⟩,⟨(aN aJ ((((x2++[conv .u8 (aA .u64 x1 56)])++[conv .u8 (aA .u64 x1 48)])++[conv .u8 (aA .u64 x1 40)])++[conv .u8 (aA .u64 x1 32)]))⟩,⟨cL0⟩,⟨(by simp only[wl,List.length_map,List.map_nil,List.map_cons]<;>omega:(((((x2++[conv .u8 (aA .u64 x1 56)])++[conv .u8 (aA .u64 x1 48)])++[conv .u8 (aA .u64 x1 40)])++[conv .u8 (aA .u64 x1 32)]).length)+(List.map aJ [conv .u8 (aA .u64 x1 24)]).length=(((((x2++[conv .u8 (aA .u64 x1 56)])++[conv .u8 (aA .u64 x1 48)])++[conv .u8 (aA .u64 x1 40)])++[conv .u8 (aA .u64 x1 32)])++[conv .u8 (aA .u64 x1 24)]).length)⟩,⟨(aX aJ (l:=[conv .u8 (aA .u64 x1 24)]) (n:=1) rfl)⟩,⟨(bP aJ (Nat.le_refl 1):0+1≤(List.map aJ [conv .u8 (aA .u64 x1 24)]).length)⟩,⟨(nT (rfl:ltI 24 0=false))⟩] (by kernel_rfl) (aC7 x1 x2 _ k eL1)
  rw[if_neg cL0] at h;replace cL0:=eqf cL0
  cases h
theorem aDY (x1:Int) (x2:List Int) (y:(Unit)):∀(k:Nat),eL k x1 x2=some y→LT Tryz.prog (aD7 x2) L55_3_3 (S55_3_3 x1 x2) (O55_3_3 x1 x2 y)
 | 0,h=>by cases h
 | k+1,h=>by
  rw[eL] at h
  by_cases cL0:bT ((((((x2++[conv .u8 (aA .u64 x1 56)])++[conv .u8 (aA .u64 x1 48)])++[conv .u8 (aA .u64 x1 40)])++[conv .u8 (aA .u64 x1 32)]).length)*1)=true
  · rw[if_pos cL0] at h
    obtain⟨aM6,eL1,h⟩:=bsm h
    obtain rfl:=osi h
    show LT _ _ _ _ (.st (.exit 0) (aL6 x1 x2))
    exact LT.next mixed (hs:=⟨[(0,[]),(1,[]),(7,[])],[],false,[],[]⟩) (es:=none) [dt,.rows (List.map aJ [conv .u8 (aA .u64 x1 32)]),(aUH x1 x2),.n ((((x2++[conv .u8 (aA .u64 x1 56)])++[conv .u8 (aA .u64 x1 48)])++[conv .u8 (aA .u64 x1 40)]).length),dt,.rows (List.map aJ ((((x2++[conv .u8 (aA .u64 x1 56)])++[conv .u8 (aA .u64 x1 48)])++[conv .u8 (aA .u64 x1 40)])++[conv .u8 (aA .u64 x1 32)]))] [⟨(jY aJ (((x2++[conv .u8 (aA .u64 x1 56)])++[conv .u8 (aA .u64 x1 48)])++[conv .u8 (aA .u64 x1 40)]) [conv .u8 (aA .u64 x1 32)])⟩,⟨(i5 ((((x2++[conv .u8 (aA .u64 x1 56)])++[conv .u8 (aA .u64 x1 48)])++[conv .u8 (aA .u64 x1 40)]).length))⟩,⟨(aN aJ (((x2++[conv .u8 (aA .u64 x1 56)])++[conv .u8 (aA .u64 x1 48)])++[conv .u8 (aA .u64 x1 40)]))⟩,⟨cL0⟩,⟨(by simp only[wl,List.length_map,List.map_nil,List.map_cons]<;>omega:((((x2++[conv .u8 (aA .u64 x1 56)])++[conv .u8 (aA .u64 x1 48)])++[conv .u8 (aA .u64 x1 40)]).length)+(List.map aJ [conv .u8 (aA .u64 x1 32)]).length=((((x2++[conv .u8 (aA .u64 x1 56)])++[conv .u8 (aA .u64 x1 48)])++[conv .u8 (aA .u64 x1 40)])++[conv .u8 (aA .u64 x1 32)]).length)⟩,⟨(aX aJ (l:=[conv .u8 (aA .u64 x1 32)]) (n:=1) rfl)⟩,⟨(bP aJ (Nat.le_refl 1):0+1≤(List.map aJ [conv .u8 (aA .u64 x1 32)]).length)⟩,⟨(nT (rfl:ltI 32 0=false))⟩] (by kernel_rfl) (aDP x1 x2 _ k eL1)
  rw[if_neg cL0] at h;replace cL0:=eqf cL0
  cases h
theorem aDO (x1:Int) (x2:List Int) (y:(Unit)):∀(k:Nat),eI k x1 x2=some y→LT Tryz.prog (aD7 x2) L55_3_2 (S55_3_2 x1 x2) (O55_3_2 x1 x2 y)
 | 0,h=>by cases h
 | k+1,h=>by
  rw[eI] at h
  by_cases cL0:bT (((((x2++[conv .u8 (aA .u64 x1 56)])++[conv .u8 (aA .u64 x1 48)])++[conv .u8 (aA .u64 x1 40)]).length)*1)=true
  · rw[if_pos cL0] at h
    obtain⟨aM7,eL1,h⟩:=bsm h
    obtain rfl:=osi h
    show LT _ _ _ _ (.st (.exit 0) (aMH x1 x2))
    exact LT.next mixed (hs:=⟨[(0,[]),(1,[]),(7,[])],[],false,[],[]⟩) (es:=none) [dt,.rows (List.map aJ [conv .u8 (aA .u64 x1 40)]),.n ((((x2++[conv .u8 (aA .u64 x1 56)])++[conv .u8 (aA .u64 x1 48)])++[conv .u8 (aA .u64 x1 40)]).length),.n (((x2++[conv .u8 (aA .u64 x1 56)])++[conv .u8 (aA .u64 x1 48)]).length),dt,.rows (List.map aJ (((x2++[conv .u8 (aA .u64 x1 56)])++[conv .u8 (aA .u64 x1 48)])++[conv .u8 (aA .u64 x1 40)]))] [⟨(jY aJ ((x2++[conv .u8 (aA .u64 x1 56)])++[conv .u8 (aA .u64 x1 48)]) [conv .u8 (aA .u64 x1 40)])⟩,⟨(i5 (((x2++[conv .u8 (aA .u64 x1 56)])++[conv .u8 (aA .u64 x1 48)]).length))⟩,⟨(aN aJ ((x2++[conv .u8 (aA .u64 x1 56)])++[conv .u8 (aA .u64 x1 48)]))⟩,⟨cL0⟩,⟨(by simp only[wl,List.length_map,List.map_nil,List.map_cons]<;>omega:(((x2++[conv .u8 (aA .u64 x1 56)])++[conv .u8 (aA .u64 x1 48)]).length)+(List.map aJ [conv .u8 (aA .u64 x1 40)]).length=(((x2++[conv .u8 (aA .u64 x1 56)])++[conv .u8 (aA .u64 x1 48)])++[conv .u8 (aA .u64 x1 40)]).length)⟩,⟨(aX aJ (l:=[conv .u8 (aA .u64 x1 40)]) (n:=1) rfl)⟩,⟨(bP aJ (Nat.le_refl 1):0+1≤(List.map aJ [conv .u8 (aA .u64 x1 40)]).length)⟩,⟨(nT (rfl:ltI 40 0=false))⟩] (by kernel_rfl) (aDY x1 x2 _ k eL1)
  rw[if_neg cL0] at h;replace cL0:=eqf cL0
  cases h
theorem aC8 (x1:Int) (x2:List Int) (y:(Unit)):∀(k:Nat),eM k x1 x2=some y→LT Tryz.prog (aD7 x2) L55_3_1 (S55_3_1 x1 x2) (O55_3_1 x1 x2 y)
 | 0,h=>by cases h
 | k+1,h=>by
  rw[eM] at h
  by_cases cL0:bT ((((x2++[conv .u8 (aA .u64 x1 56)])++[conv .u8 (aA .u64 x1 48)]).length)*1)=true
  · rw[if_pos cL0] at h
    obtain⟨aM8,eL1,h⟩:=bsm h
    obtain rfl:=osi h
    show LT _ _ _ _ (.st (.exit 0) (aMA x1 x2))
    exact LT.next mixed (hs:=⟨[(0,[]),(1,[]),(7,[])],[],false,[],[]⟩) (es:=none) [dt,.rows (List.map aJ [conv .u8 (aA .u64 x1 48)]),.n (((x2++[conv .u8 (aA .u64 x1 56)])++[conv .u8 (aA .u64 x1 48)]).length),.n ((x2++[conv .u8 (aA .u64 x1 56)]).length),dt,.rows (List.map aJ ((x2++[conv .u8 (aA .u64 x1 56)])++[conv .u8 (aA .u64 x1 48)]))] [⟨(jY aJ (x2++[conv .u8 (aA .u64 x1 56)]) [conv .u8 (aA .u64 x1 48)])⟩,⟨(i5 ((x2++[conv .u8 (aA .u64 x1 56)]).length))⟩,⟨(aN aJ (x2++[conv .u8 (aA .u64 x1 56)]))⟩,⟨cL0⟩,⟨(by simp only[wl,List.length_map,List.map_nil,List.map_cons]<;>omega:((x2++[conv .u8 (aA .u64 x1 56)]).length)+(List.map aJ [conv .u8 (aA .u64 x1 48)]).length=((x2++[conv .u8 (aA .u64 x1 56)])++[conv .u8 (aA .u64 x1 48)]).length)⟩,⟨(aX aJ (l:=[conv .u8 (aA .u64 x1 48)]) (n:=1) rfl)⟩,⟨(bP aJ (Nat.le_refl 1):0+1≤(List.map aJ [conv .u8 (aA .u64 x1 48)]).length)⟩,⟨(nT (rfl:ltI 48 0=false))⟩] (by kernel_rfl) (aDO x1 x2 _ k eL1)
  rw[if_neg cL0] at h;replace cL0:=eqf cL0
  cases h
theorem aC5 (x1:Int) (x2:List Int) (y:(Unit)):∀(k:Nat),eG k x1 x2=some y→LT Tryz.prog (aD7 x2) L55_3_0 (S55_3_0 x1 x2) (O55_3_0 x1 x2 y)
 | 0,h=>by cases h
 | k+1,h=>by
  rw[eG] at h
  by_cases cL0:bT (((x2++[conv .u8 (aA .u64 x1 56)]).length)*1)=true
  · rw[if_pos cL0] at h
    obtain⟨aM9,eL1,h⟩:=bsm h
    obtain rfl:=osi h
    show LT _ _ _ _ (.st (.exit 0) (aG4 x1 x2))
    exact LT.next mixed (hs:=⟨[(0,[]),(1,[]),(7,[])],[],false,[],[]⟩) (es:=none) [dt,.rows (List.map aJ [conv .u8 (aA .u64 x1 56)]),.n ((x2++[conv .u8 (aA .u64 x1 56)]).length),.n x2.length,dt,.rows (List.map aJ (x2++[conv .u8 (aA .u64 x1 56)]))] [⟨(jY aJ x2 [conv .u8 (aA .u64 x1 56)])⟩,⟨(i5 x2.length)⟩,⟨(aN aJ x2)⟩,⟨cL0⟩,⟨(by simp only[wl,List.length_map,List.map_nil,List.map_cons]<;>omega:x2.length+(List.map aJ [conv .u8 (aA .u64 x1 56)]).length=(x2++[conv .u8 (aA .u64 x1 56)]).length)⟩,⟨(aX aJ (l:=[conv .u8 (aA .u64 x1 56)]) (n:=1) rfl)⟩,⟨(bP aJ (Nat.le_refl 1):0+1≤(List.map aJ [conv .u8 (aA .u64 x1 56)]).length)⟩,⟨(nT (rfl:ltI 56 0=false))⟩] (by kernel_rfl) (aC8 x1 x2 _ k eL1)
  rw[if_neg cL0] at h;replace cL0:=eqf cL0
  cases h
theorem aHT (k:Nat) (x1:Int) (x2:List Int) (r:Unit) (h:nB k x1 x2=some r):Tri Tryz.prog 55 [(.ref 1 0 0 0 x2.length .virt),(.int .u64 x1),(.int .i64 8)] [(.arr 1 (List.map aJ x2) 0 0 false)] (.ref 1 0 8 0 (((((((((x2++[conv .u8 (aA .u64 x1 56)])++[conv .u8 (aA .u64 x1 48)])++[conv .u8 (aA .u64 x1 40)])++[conv .u8 (aA .u64 x1 32)])++[conv .u8 (aA .u64 x1 24)])++[conv .u8 (aA .u64 x1 16)])++[conv .u8 (aA .u64 x1 8)])++[conv .u8 (aA .u64 x1 0)]).length) .virt) [(.arr 1 (List.map aJ ((((((((x2++[conv .u8 (aA .u64 x1 56)])++[conv .u8 (aA .u64 x1 48)])++[conv .u8 (aA .u64 x1 40)])++[conv .u8 (aA .u64 x1 32)])++[conv .u8 (aA .u64 x1 24)])++[conv .u8 (aA .u64 x1 16)])++[conv .u8 (aA .u64 x1 8)])++[conv .u8 (aA .u64 x1 0)])) 8 0 false)]:=by
 unfold nB at h
 obtain⟨x4,e0,h⟩:=bsm h
 obtain rfl:=osi h
 exact Tri.of (x:=(aD7 x2)) mixed aI6 [.norm 2 ⟨[(0,[]),(1,[]),(7,[])],[],false,[],[]⟩,.out (.st .normal (aG4 x1 x2)),.norm 0 ⟨[(6,[])],[],false,[],[]⟩] [⟨(LT.block (aC5 x1 x2 _ k e0))⟩] (by kernel_rfl)
end Go.Ws

namespace Go.Ws
open Go.Proofs
set_option linter.unusedSimpArgs false
set_option linter.unusedVariables false
set_option maxRecDepth 1000000
set_option maxHeartbeats 4000000
noncomputable def X31:Ctx:=⟨Tryz.f31,[],true⟩
noncomputable def L31_4:Code:=at_ Tryz.f31 [1,1,1,0,1,4,5]
def S31_4 (x1:Int × ByteArray) (x2:Int × ByteArray) (x3:Int × ByteArray) (x4:Int × ByteArray):St:=⟨mkT 88 [(0,(.str (ByteArray.mk #[97,98,97,100]))),(6,(.ref 1 0 0 0 (((((((((((([conv .u8 (aA .u64 x1.1 0)]++[conv .u8 (aA .u64 x2.1 8)])++[conv .u8 (aA .u64 x2.1 0)])++[conv .u8 (aA .u64 x3.1 0)])++[conv .u8 (aA .u64 x4.1 56)])++[conv .u8 (aA .u64 x4.1 48)])++[conv .u8 (aA .u64 x4.1 40)])++[conv .u8 (aA .u64 x4.1 32)])++[conv .u8 (aA .u64 x4.1 24)])++[conv .u8 (aA .u64 x4.1 16)])++[conv .u8 (aA .u64 x4.1 8)])++[conv .u8 (aA .u64 x4.1 0)]).length) .virt)),(20,(.sl 2 (List.map aS [x1,x2,x3,x4]))),(21,(.int .i64 4)),(22,(.int .i64 4))],[(.arr 1 (List.map aJ ((((((((((([conv .u8 (aA .u64 x1.1 0)]++[conv .u8 (aA .u64 x2.1 8)])++[conv .u8 (aA .u64 x2.1 0)])++[conv .u8 (aA .u64 x3.1 0)])++[conv .u8 (aA .u64 x4.1 56)])++[conv .u8 (aA .u64 x4.1 48)])++[conv .u8 (aA .u64 x4.1 40)])++[conv .u8 (aA .u64 x4.1 32)])++[conv .u8 (aA .u64 x4.1 24)])++[conv .u8 (aA .u64 x4.1 16)])++[conv .u8 (aA .u64 x4.1 8)])++[conv .u8 (aA .u64 x4.1 0)])) 0 0 false)]⟩
def aS4 (x1:Int × ByteArray) (x2:Int × ByteArray) (x3:Int × ByteArray) (x4:Int × ByteArray):St:=⟨mkT 88 [(6,(.ref 1 0 0 0 (((((((((((([conv .u8 (aA .u64 x1.1 0)]++[conv .u8 (aA .u64 x2.1 8)])++[conv .u8 (aA .u64 x2.1 0)])++[conv .u8 (aA .u64 x3.1 0)])++[conv .u8 (aA .u64 x4.1 56)])++[conv .u8 (aA .u64 x4.1 48)])++[conv .u8 (aA .u64 x4.1 40)])++[conv .u8 (aA .u64 x4.1 32)])++[conv .u8 (aA .u64 x4.1 24)])++[conv .u8 (aA .u64 x4.1 16)])++[conv .u8 (aA .u64 x4.1 8)])++[conv .u8 (aA .u64 x4.1 0)]).length) .virt))],[(.arr 1 (List.map aJ ((((((((((([conv .u8 (aA .u64 x1.1 0)]++[conv .u8 (aA .u64 x2.1 8)])++[conv .u8 (aA .u64 x2.1 0)])++[conv .u8 (aA .u64 x3.1 0)])++[conv .u8 (aA .u64 x4.1 56)])++[conv .u8 (aA .u64 x4.1 48)])++[conv .u8 (aA .u64 x4.1 40)])++[conv .u8 (aA .u64 x4.1 32)])++[conv .u8 (aA .u64 x4.1 24)])++[conv .u8 (aA .u64 x4.1 16)])++[conv .u8 (aA .u64 x4.1 8)])++[conv .u8 (aA .u64 x4.1 0)])) 0 0 false)]⟩
def O31_4 (x1:Int × ByteArray) (x2:Int × ByteArray) (x3:Int × ByteArray) (x4:Int × ByteArray) (y:(Unit)):GX:=.st (.exit 0) (aS4 x1 x2 x3 x4)
noncomputable def L31_3:Code:=at_ Tryz.f31 [1,1,1,0,1,4,5]
def S31_3 (x1:Int × ByteArray) (x2:Int × ByteArray) (x3:Int × ByteArray) (x4:Int × ByteArray):St:=⟨mkT 88 [(0,(.str (ByteArray.mk #[97,98,97,100]))),(6,(.ref 1 0 0 0 (((([conv .u8 (aA .u64 x1.1 0)]++[conv .u8 (aA .u64 x2.1 8)])++[conv .u8 (aA .u64 x2.1 0)])++[conv .u8 (aA .u64 x3.1 0)]).length) .virt)),(20,(.sl 2 (List.map aS [x1,x2,x3,x4]))),(21,(.int .i64 4)),(22,(.int .i64 3))],[(.arr 1 (List.map aJ ((([conv .u8 (aA .u64 x1.1 0)]++[conv .u8 (aA .u64 x2.1 8)])++[conv .u8 (aA .u64 x2.1 0)])++[conv .u8 (aA .u64 x3.1 0)])) 0 0 false)]⟩
def aT9 (x1:Int × ByteArray) (x2:Int × ByteArray) (x3:Int × ByteArray) (x4:Int × ByteArray):St:=⟨mkT 88 [(6,(.ref 1 0 0 0 (((((((((((([conv .u8 (aA .u64 x1.1 0)]++[conv .u8 (aA .u64 x2.1 8)])++[conv .u8 (aA .u64 x2.1 0)])++[conv .u8 (aA .u64 x3.1 0)])++[conv .u8 (aA .u64 x4.1 56)])++[conv .u8 (aA .u64 x4.1 48)])++[conv .u8 (aA .u64 x4.1 40)])++[conv .u8 (aA .u64 x4.1 32)])++[conv .u8 (aA .u64 x4.1 24)])++[conv .u8 (aA .u64 x4.1 16)])++[conv .u8 (aA .u64 x4.1 8)])++[conv .u8 (aA .u64 x4.1 0)]).length) .virt))],[(.arr 1 (List.map aJ ((((((((((([conv .u8 (aA .u64 x1.1 0)]++[conv .u8 (aA .u64 x2.1 8)])++[conv .u8 (aA .u64 x2.1 0)])++[conv .u8 (aA .u64 x3.1 0)])++[conv .u8 (aA .u64 x4.1 56)])++[conv .u8 (aA .u64 x4.1 48)])++[conv .u8 (aA .u64 x4.1 40)])++[conv .u8 (aA .u64 x4.1 32)])++[conv .u8 (aA .u64 x4.1 24)])++[conv .u8 (aA .u64 x4.1 16)])++[conv .u8 (aA .u64 x4.1 8)])++[conv .u8 (aA .u64 x4.1 0)])) 0 0 false)]⟩
def O31_3 (x1:Int × ByteArray) (x2:Int × ByteArray) (x3:Int × ByteArray) (x4:Int × ByteArray) (y:(Sum (Unit) ((List Int) × Int))):GX:=match y with
 | .inl y=>.st (.exit 0) (aT9 x1 x2 x3 x4)
 | .inr y=>.fin (.tup [(.sl 1 (List.map aJ y.1)),(.int .i64 y.2)]) []
noncomputable def L31_2:Code:=at_ Tryz.f31 [1,1,1,0,1,4,5]
def S31_2 (x1:Int × ByteArray) (x2:Int × ByteArray) (x3:Int × ByteArray) (x4:Int × ByteArray):St:=⟨mkT 88 [(0,(.str (ByteArray.mk #[97,98,97,100]))),(6,(.ref 1 0 0 0 ((([conv .u8 (aA .u64 x1.1 0)]++[conv .u8 (aA .u64 x2.1 8)])++[conv .u8 (aA .u64 x2.1 0)]).length) .virt)),(20,(.sl 2 (List.map aS [x1,x2,x3,x4]))),(21,(.int .i64 4)),(22,(.int .i64 2))],[(.arr 1 (List.map aJ (([conv .u8 (aA .u64 x1.1 0)]++[conv .u8 (aA .u64 x2.1 8)])++[conv .u8 (aA .u64 x2.1 0)])) 0 0 false)]⟩
def aTI (x1:Int × ByteArray) (x2:Int × ByteArray) (x3:Int × ByteArray) (x4:Int × ByteArray):St:=⟨mkT 88 [(6,(.ref 1 0 0 0 (((((((((((([conv .u8 (aA .u64 x1.1 0)]++[conv .u8 (aA .u64 x2.1 8)])++[conv .u8 (aA .u64 x2.1 0)])++[conv .u8 (aA .u64 x3.1 0)])++[conv .u8 (aA .u64 x4.1 56)])++[conv .u8 (aA .u64 x4.1 48)])++[conv .u8 (aA .u64 x4.1 40)])++[conv .u8 (aA .u64 x4.1 32)])++[conv .u8 (aA .u64 x4.1 24)])++[conv .u8 (aA .u64 x4.1 16)])++[conv .u8 (aA .u64 x4.1 8)])++[conv .u8 (aA .u64 x4.1 0)]).length) .virt))],[(.arr 1 (List.map aJ ((((((((((([conv .u8 (aA .u64 x1.1 0)]++[conv .u8 (aA .u64 x2.1 8)])++[conv .u8 (aA .u64 x2.1 0)])++[conv .u8 (aA .u64 x3.1 0)])++[conv .u8 (aA .u64 x4.1 56)])++[conv .u8 (aA .u64 x4.1 48)])++[conv .u8 (aA .u64 x4.1 40)])++[conv .u8 (aA .u64 x4.1 32)])++[conv .u8 (aA .u64 x4.1 24)])++[conv .u8 (aA .u64 x4.1 16)])++[conv .u8 (aA .u64 x4.1 8)])++[conv .u8 (aA .u64 x4.1 0)])) 0 0 false)]⟩
def O31_2 (x1:Int × ByteArray) (x2:Int × ByteArray) (x3:Int × ByteArray) (x4:Int × ByteArray) (y:(Sum (Unit) ((List Int) × Int))):GX:=match y with
 | .inl y=>.st (.exit 0) (aTI x1 x2 x3 x4)
 | .inr y=>.fin (.tup [(.sl 1 (List.map aJ y.1)),(.int .i64 y.2)]) []
noncomputable def L31_1:Code:=at_ Tryz.f31 [1,1,1,0,1,4,5]
def S31_1 (x1:Int × ByteArray) (x2:Int × ByteArray) (x3:Int × ByteArray) (x4:Int × ByteArray):St:=⟨mkT 88 [(0,(.str (ByteArray.mk #[97,98,97,100]))),(6,(.ref 1 0 0 0 1 .virt)),(20,(.sl 2 (List.map aS [x1,x2,x3,x4]))),(21,(.int .i64 4)),(22,(.int .i64 1))],[(.arr 1 (List.map aJ [conv .u8 (aA .u64 x1.1 0)]) 0 0 false)]⟩
def aS8 (x1:Int × ByteArray) (x2:Int × ByteArray) (x3:Int × ByteArray) (x4:Int × ByteArray):St:=⟨mkT 88 [(6,(.ref 1 0 0 0 (((((((((((([conv .u8 (aA .u64 x1.1 0)]++[conv .u8 (aA .u64 x2.1 8)])++[conv .u8 (aA .u64 x2.1 0)])++[conv .u8 (aA .u64 x3.1 0)])++[conv .u8 (aA .u64 x4.1 56)])++[conv .u8 (aA .u64 x4.1 48)])++[conv .u8 (aA .u64 x4.1 40)])++[conv .u8 (aA .u64 x4.1 32)])++[conv .u8 (aA .u64 x4.1 24)])++[conv .u8 (aA .u64 x4.1 16)])++[conv .u8 (aA .u64 x4.1 8)])++[conv .u8 (aA .u64 x4.1 0)]).length) .virt))],[(.arr 1 (List.map aJ ((((((((((([conv .u8 (aA .u64 x1.1 0)]++[conv .u8 (aA .u64 x2.1 8)])++[conv .u8 (aA .u64 x2.1 0)])++[conv .u8 (aA .u64 x3.1 0)])++[conv .u8 (aA .u64 x4.1 56)])++[conv .u8 (aA .u64 x4.1 48)])++[conv .u8 (aA .u64 x4.1 40)])++[conv .u8 (aA .u64 x4.1 32)])++[conv .u8 (aA .u64 x4.1 24)])++[conv .u8 (aA .u64 x4.1 16)])++[conv .u8 (aA .u64 x4.1 8)])++[conv .u8 (aA .u64 x4.1 0)])) 0 0 false)]⟩
def O31_1 (x1:Int × ByteArray) (x2:Int × ByteArray) (x3:Int × ByteArray) (x4:Int × ByteArray) (y:(Sum (Unit) ((List Int) × Int))):GX:=match y with
 | .inl y=>.st (.exit 0) (aS8 x1 x2 x3 x4)
 | .inr y=>.fin (.tup [(.sl 1 (List.map aJ y.1)),(.int .i64 y.2)]) []
noncomputable def L31_0:Code:=at_ Tryz.f31 [1,1,1,0,1,4,5]
def S31_0 (x1:Int × ByteArray) (x2:Int × ByteArray) (x3:Int × ByteArray) (x4:Int × ByteArray):St:=⟨mkT 88 [(0,(.str (ByteArray.mk #[97,98,97,100]))),(6,.nils),(20,(.sl 2 (List.map aS [x1,x2,x3,x4]))),(21,(.int .i64 4)),(22,(.int .i64 0))],[]⟩
def aI4 (x1:Int × ByteArray) (x2:Int × ByteArray) (x3:Int × ByteArray) (x4:Int × ByteArray):St:=⟨mkT 88 [(6,(.ref 1 0 0 0 (((((((((((([conv .u8 (aA .u64 x1.1 0)]++[conv .u8 (aA .u64 x2.1 8)])++[conv .u8 (aA .u64 x2.1 0)])++[conv .u8 (aA .u64 x3.1 0)])++[conv .u8 (aA .u64 x4.1 56)])++[conv .u8 (aA .u64 x4.1 48)])++[conv .u8 (aA .u64 x4.1 40)])++[conv .u8 (aA .u64 x4.1 32)])++[conv .u8 (aA .u64 x4.1 24)])++[conv .u8 (aA .u64 x4.1 16)])++[conv .u8 (aA .u64 x4.1 8)])++[conv .u8 (aA .u64 x4.1 0)]).length) .virt))],[(.arr 1 (List.map aJ ((((((((((([conv .u8 (aA .u64 x1.1 0)]++[conv .u8 (aA .u64 x2.1 8)])++[conv .u8 (aA .u64 x2.1 0)])++[conv .u8 (aA .u64 x3.1 0)])++[conv .u8 (aA .u64 x4.1 56)])++[conv .u8 (aA .u64 x4.1 48)])++[conv .u8 (aA .u64 x4.1 40)])++[conv .u8 (aA .u64 x4.1 32)])++[conv .u8 (aA .u64 x4.1 24)])++[conv .u8 (aA .u64 x4.1 16)])++[conv .u8 (aA .u64 x4.1 8)])++[conv .u8 (aA .u64 x4.1 0)])) 0 0 false)]⟩
def O31_0 (x1:Int × ByteArray) (x2:Int × ByteArray) (x3:Int × ByteArray) (x4:Int × ByteArray) (y:(Sum (Unit) ((List Int) × Int))):GX:=match y with
 | .inl y=>.st (.exit 0) (aI4 x1 x2 x3 x4)
 | .inr y=>.fin (.tup [(.sl 1 (List.map aJ y.1)),(.int .i64 y.2)]) []
def aIG:Ans:=.norm 0 ⟨[(4,[(0,1)]),(5,[])],[],false,[],[]⟩
def A31_1 (x1:Int × ByteArray) (x2:Int × ByteArray) (x3:Int × ByteArray):Ans:=.call ⟨false,[]⟩ (.ref 1 0 1 0 (((([conv .u8 (aA .u64 x1.1 0)]++[conv .u8 (aA .u64 x2.1 8)])++[conv .u8 (aA .u64 x2.1 0)])++[conv .u8 (aA .u64 x3.1 0)]).length) .virt) [(.arr 1 (List.map aJ ((([conv .u8 (aA .u64 x1.1 0)]++[conv .u8 (aA .u64 x2.1 8)])++[conv .u8 (aA .u64 x2.1 0)])++[conv .u8 (aA .u64 x3.1 0)])) 1 0 false)]
def A31_2 (x1:Int × ByteArray) (x2:Int × ByteArray):Ans:=.call ⟨false,[]⟩ (.ref 1 0 2 0 ((([conv .u8 (aA .u64 x1.1 0)]++[conv .u8 (aA .u64 x2.1 8)])++[conv .u8 (aA .u64 x2.1 0)]).length) .virt) [(.arr 1 (List.map aJ (([conv .u8 (aA .u64 x1.1 0)]++[conv .u8 (aA .u64 x2.1 8)])++[conv .u8 (aA .u64 x2.1 0)])) 2 0 false)]
def A31_3 (x1:Int × ByteArray):Ans:=.call ⟨false,[]⟩ (.ref 1 0 0 0 1 .virt) [(.arr 1 (List.map aJ [conv .u8 (aA .u64 x1.1 0)]) 0 0 false)]
theorem aF7 (x1:Int × ByteArray) (x2:Int × ByteArray) (x3:Int × ByteArray) (x4:Int × ByteArray) (y:(Unit)):∀(k:Nat),fT k x1 x2 x3 x4=some y→LT Tryz.prog X31 L31_4 (S31_4 x1 x2 x3 x4) (O31_4 x1 x2 x3 x4 y)
 | 0,h=>by cases h
 | k+1,h=>by
  rw[fT] at h
  obtain rfl:=osi h
  show LT _ _ _ _ (.st (.exit 0) (aS4 x1 x2 x3 x4))
  exact LT.done mixed (hs:=⟨[],[],false,[],[]⟩) (es:=(some ⟨[(6,[])],[⟨.tmp 6,[],none⟩],false,[],[]⟩)) [df] [⟨(rfl:ltI 4 4=false)⟩] (by kernel_rfl) (fun s h=>by cases h)
theorem xM (x1:Int × ByteArray) (x2:Int × ByteArray) (x3:Int × ByteArray) (x4:Int × ByteArray) (y:(Sum (Unit) ((List Int) × Int))):∀(k:Nat),gE k x1 x2 x3 x4=some y→LT Tryz.prog X31 L31_3 (S31_3 x1 x2 x3 x4) (O31_3 x1 x2 x3 x4 y)
 | 0,h=>by cases h
 | k+1,h=>by
  rw[gE] at h
  let u1:List Ans:=[dt,.n 4,.row [(.int .u64 x4.1),(.str x4.2)],.call ⟨true,[]⟩ (.int .i64 8) [],df,df,df,df,df,df,df,dt,dt,dt,dt]
  let w2:List Prf:=[⟨(rfl:ltI 0 8=true)⟩,⟨(rfl:ltI 0 8=true)⟩,⟨(rfl:ltI 0 8=true)⟩,⟨(rfl:ltI 0 8=true)⟩,⟨rF⟩,⟨(rfl:eqI 8 0=false)⟩,⟨(rfl:eqI 8 0=false)⟩,⟨(rfl:eqI 8 0=false)⟩,⟨(rfl:eqI 8 0=false)⟩,⟨(rfl:eqI 8 0=false)⟩,⟨(rfl:eqI 8 0=false)⟩,⟨(aAM)⟩,⟨(rfl:nS 2 (List.map aS [x1,x2,x3,x4]) 3 0 2=some [(.int .u64 x4.1),(.str x4.2)])⟩,⟨(rfl:inI 3 4=true)⟩,⟨(rfl:(List.map aS [x1,x2,x3,x4]).length=4)⟩,⟨(rfl:ltI 3 4=true)⟩]
  by_cases cL0:eqS x4.2 (ByteArray.mk #[])=true
  · rw[if_pos cL0] at h
    obtain⟨aQ3,eL1,h⟩:=bsm h
    obtain⟨aQ4,eL2,h⟩:=bsm h
    obtain rfl:=osi h
    show LT _ _ _ _ (.st (.exit 0) (aT9 x1 x2 x3 x4))
    exact LT.next mixed (hs:=⟨[(0,[]),(6,[]),(20,[]),(21,[]),(22,[])],[⟨.tmp 6,[],none⟩],false,[],[]⟩) (es:=none) (u1++[df,dt,dt,dt,df,df,df,df,df,df,df,df,df,.call ⟨false,[]⟩ (.ref 1 0 8 0 (((((((((((([conv .u8 (aA .u64 x1.1 0)]++[conv .u8 (aA .u64 x2.1 8)])++[conv .u8 (aA .u64 x2.1 0)])++[conv .u8 (aA .u64 x3.1 0)])++[conv .u8 (aA .u64 x4.1 56)])++[conv .u8 (aA .u64 x4.1 48)])++[conv .u8 (aA .u64 x4.1 40)])++[conv .u8 (aA .u64 x4.1 32)])++[conv .u8 (aA .u64 x4.1 24)])++[conv .u8 (aA .u64 x4.1 16)])++[conv .u8 (aA .u64 x4.1 8)])++[conv .u8 (aA .u64 x4.1 0)]).length) .virt) [(.arr 1 (List.map aJ ((((((((((([conv .u8 (aA .u64 x1.1 0)]++[conv .u8 (aA .u64 x2.1 8)])++[conv .u8 (aA .u64 x2.1 0)])++[conv .u8 (aA .u64 x3.1 0)])++[conv .u8 (aA .u64 x4.1 56)])++[conv .u8 (aA .u64 x4.1 48)])++[conv .u8 (aA .u64 x4.1 40)])++[conv .u8 (aA .u64 x4.1 32)])++[conv .u8 (aA .u64 x4.1 24)])++[conv .u8 (aA .u64 x4.1 16)])++[conv .u8 (aA .u64 x4.1 8)])++[conv .u8 (aA .u64 x4.1 0)])) 8 0 false)]]) ([⟨(aHT k x4.1 ((([conv .u8 (aA .u64 x1.1 0)]++[conv .u8 (aA .u64 x2.1 8)])++[conv .u8 (aA .u64 x2.1 0)])++[conv .u8 (aA .u64 x3.1 0)]) _ eL1)⟩,⟨(rfl:eqI 8 0=false)⟩,⟨rF⟩,⟨(rfl:ltI 8 8=false)⟩,⟨(rfl:ltI 8 8=false)⟩,⟨(rfl:ltI 8 8=false)⟩,⟨(rfl:ltI 8 8=false)⟩,⟨(rfl:ltI 8 8=false)⟩,⟨(rfl:ltI 8 8=false)⟩,⟨(rfl:ltI 8 8=false)⟩,⟨(rfl:ltI 0 8=true)⟩,⟨(rfl:ltI 0 8=true)⟩,⟨(rfl:ltI 0 8=true)⟩,⟨(nF cL0)⟩]++w2) (by kernel_rfl) (aF7 x1 x2 x3 x4 _ k eL2)
  rw[if_neg cL0] at h;replace cL0:=eqf cL0
  obtain rfl:=osi h
  show LT _ _ _ _ (.fin (.tup [(.sl 1 (List.map aJ (([],2).1))),(.int .i64 (([],2).2))]) [])
  exact LT.done mixed (hs:=⟨[],[],false,[],[]⟩) (es:=none) (u1++[dt,dt,aIG]) ([⟨(nT cL0)⟩,⟨(nT cL0)⟩]++w2) (by kernel_rfl) (fun s h=>by cases h)
theorem xN (x1:Int × ByteArray) (x2:Int × ByteArray) (x3:Int × ByteArray) (x4:Int × ByteArray) (y:(Sum (Unit) ((List Int) × Int))):∀(k:Nat),gH k x1 x2 x3 x4=some y→LT Tryz.prog X31 L31_2 (S31_2 x1 x2 x3 x4) (O31_2 x1 x2 x3 x4 y)
 | 0,h=>by cases h
 | k+1,h=>by
  rw[gH] at h
  let u3:List Ans:=[dt,.n 4,.row [(.int .u64 x3.1),(.str x3.2)],.call ⟨true,[]⟩ (.int .i64 1) [],df,df,df,df,df,df,df,dt,dt,dt,dt]
  let w4:List Prf:=[⟨(rfl:ltI 0 1=true)⟩,⟨(rfl:ltI 0 1=true)⟩,⟨(rfl:ltI 0 1=true)⟩,⟨(rfl:ltI 0 1=true)⟩,⟨rF⟩,⟨(rfl:eqI 1 0=false)⟩,⟨(rfl:eqI 1 0=false)⟩,⟨(rfl:eqI 1 0=false)⟩,⟨(rfl:eqI 1 0=false)⟩,⟨(rfl:eqI 1 0=false)⟩,⟨(rfl:eqI 1 0=false)⟩,⟨(uG)⟩,⟨(rfl:nS 2 (List.map aS [x1,x2,x3,x4]) 2 0 2=some [(.int .u64 x3.1),(.str x3.2)])⟩,⟨(rfl:inI 2 4=true)⟩,⟨(rfl:(List.map aS [x1,x2,x3,x4]).length=4)⟩,⟨(rfl:ltI 2 4=true)⟩]
  by_cases cL0:eqS x3.2 (ByteArray.mk #[])=true
  · rw[if_pos cL0] at h
    let u5:List Ans:=u3++[df,dt,dt,dt,dt,dt,dt,dt,dt,dt,dt]
    let w6:List Prf:=[⟨(rfl:ltI 1 8=true)⟩,⟨(rfl:ltI 1 8=true)⟩,⟨(rfl:ltI 1 8=true)⟩,⟨(rfl:ltI 1 8=true)⟩,⟨(rfl:ltI 1 8=true)⟩,⟨(rfl:ltI 1 8=true)⟩,⟨(rfl:ltI 1 8=true)⟩,⟨(rfl:ltI 0 1=true)⟩,⟨(rfl:ltI 0 1=true)⟩,⟨(rfl:ltI 0 1=true)⟩,⟨(nF cL0)⟩]++w4
    by_cases cL1:eqI (aA .u64 x3.1 8) 0=true
    · rw[if_pos cL1] at h
      obtain⟨aQ5,eL2,h⟩:=bsm h
      let w8:List Prf:=[⟨(aHX k x3.1 (([conv .u8 (aA .u64 x1.1 0)]++[conv .u8 (aA .u64 x2.1 8)])++[conv .u8 (aA .u64 x2.1 0)]) _ eL2)⟩,⟨(rfl:eqI 1 0=false)⟩,⟨(nF cL1)⟩]++w6
      obtain⟨v31020_2,eL3,h⟩:=bsm h
      cases v31020_2 with
      | inl sQ =>
       simp only[Sum.elim_inl] at h
       obtain rfl:=osi h
       show LT _ _ _ _ (.st (.exit 0) (aTI x1 x2 x3 x4))
       exact LT.next mixed (hs:=⟨[(0,[]),(6,[]),(20,[]),(21,[]),(22,[])],[⟨.tmp 6,[],none⟩],false,[],[]⟩) (es:=none) (u5++[df,df,(A31_1 x1 x2 x3)]) w8 (by kernel_rfl) (xM x1 x2 x3 x4 _ k eL3)
      | inr sQ =>
       simp only[Sum.elim_inr] at h
       obtain rfl:=osi h
       show LT _ _ _ _ (.fin (.tup [(.sl 1 (List.map aJ sQ.1)),(.int .i64 sQ.2)]) [])
       exact LT.next mixed (hs:=⟨[(0,[]),(6,[]),(20,[]),(21,[]),(22,[])],[⟨.tmp 6,[],none⟩],false,[],[]⟩) (es:=none) (u5++[df,df,(A31_1 x1 x2 x3)]) w8 (by kernel_rfl) (xM x1 x2 x3 x4 _ k eL3)
    rw[if_neg cL1] at h;replace cL1:=eqf cL1
    obtain rfl:=osi h
    show LT _ _ _ _ (.fin (.tup [(.sl 1 (List.map aJ (([],2).1))),(.int .i64 (([],2).2))]) [])
    exact LT.done mixed (hs:=⟨[],[],false,[],[]⟩) (es:=none) (u5++[dt,aIG]) ([⟨(nT cL1)⟩]++w6) (by kernel_rfl) (fun s h=>by cases h)
  rw[if_neg cL0] at h;replace cL0:=eqf cL0
  obtain rfl:=osi h
  show LT _ _ _ _ (.fin (.tup [(.sl 1 (List.map aJ (([],2).1))),(.int .i64 (([],2).2))]) [])
  exact LT.done mixed (hs:=⟨[],[],false,[],[]⟩) (es:=none) (u3++[dt,dt,aIG]) ([⟨(nT cL0)⟩,⟨(nT cL0)⟩]++w4) (by kernel_rfl) (fun s h=>by cases h)
theorem xJ (x1:Int × ByteArray) (x2:Int × ByteArray) (x3:Int × ByteArray) (x4:Int × ByteArray) (y:(Sum (Unit) ((List Int) × Int))):∀(k:Nat),fX k x1 x2 x3 x4=some y→LT Tryz.prog X31 L31_1 (S31_1 x1 x2 x3 x4) (O31_1 x1 x2 x3 x4 y)
 | 0,h=>by cases h
 | k+1,h=>by
  rw[fX] at h
  let u9:List Ans:=[dt,.n 4,.row [(.int .u64 x2.1),(.str x2.2)],.call ⟨true,[]⟩ (.int .i64 2) [],df,df,df,df,df,df,df,dt,dt,dt,dt]
  let w10:List Prf:=[⟨(rfl:ltI 0 2=true)⟩,⟨(rfl:ltI 0 2=true)⟩,⟨(rfl:ltI 0 2=true)⟩,⟨(rfl:ltI 0 2=true)⟩,⟨rF⟩,⟨(rfl:eqI 2 0=false)⟩,⟨(rfl:eqI 2 0=false)⟩,⟨(rfl:eqI 2 0=false)⟩,⟨(rfl:eqI 2 0=false)⟩,⟨(rfl:eqI 2 0=false)⟩,⟨(rfl:eqI 2 0=false)⟩,⟨(aAJ)⟩,⟨(rfl:nS 2 (List.map aS [x1,x2,x3,x4]) 1 0 2=some [(.int .u64 x2.1),(.str x2.2)])⟩,⟨(rfl:inI 1 4=true)⟩,⟨(rfl:(List.map aS [x1,x2,x3,x4]).length=4)⟩,⟨(rfl:ltI 1 4=true)⟩]
  by_cases cL0:eqS x2.2 (ByteArray.mk #[])=true
  · rw[if_pos cL0] at h
    let u11:List Ans:=u9++[df,dt,dt,dt,dt,dt,dt,dt,dt,dt,dt]
    let w12:List Prf:=[⟨(rfl:ltI 2 8=true)⟩,⟨(rfl:ltI 2 8=true)⟩,⟨(rfl:ltI 2 8=true)⟩,⟨(rfl:ltI 2 8=true)⟩,⟨(rfl:ltI 2 8=true)⟩,⟨(rfl:ltI 2 8=true)⟩,⟨(rfl:ltI 2 8=true)⟩,⟨(rfl:ltI 0 2=true)⟩,⟨(rfl:ltI 0 2=true)⟩,⟨(rfl:ltI 0 2=true)⟩,⟨(nF cL0)⟩]++w10
    by_cases cL1:eqI (aA .u64 x2.1 16) 0=true
    · rw[if_pos cL1] at h
      obtain⟨aQ6,eL2,h⟩:=bsm h
      let w14:List Prf:=[⟨(aH4 k x2.1 [conv .u8 (aA .u64 x1.1 0)] _ eL2)⟩,⟨(rfl:eqI 2 0=false)⟩,⟨(nF cL1)⟩]++w12
      obtain⟨v31010_2,eL3,h⟩:=bsm h
      cases v31010_2 with
      | inl sR =>
       simp only[Sum.elim_inl] at h
       obtain rfl:=osi h
       show LT _ _ _ _ (.st (.exit 0) (aS8 x1 x2 x3 x4))
       exact LT.next mixed (hs:=⟨[(0,[]),(6,[]),(20,[]),(21,[]),(22,[])],[⟨.tmp 6,[],none⟩],false,[],[]⟩) (es:=none) (u11++[df,df,(A31_2 x1 x2)]) w14 (by kernel_rfl) (xN x1 x2 x3 x4 _ k eL3)
      | inr sR =>
       simp only[Sum.elim_inr] at h
       obtain rfl:=osi h
       show LT _ _ _ _ (.fin (.tup [(.sl 1 (List.map aJ sR.1)),(.int .i64 sR.2)]) [])
       exact LT.next mixed (hs:=⟨[(0,[]),(6,[]),(20,[]),(21,[]),(22,[])],[⟨.tmp 6,[],none⟩],false,[],[]⟩) (es:=none) (u11++[df,df,(A31_2 x1 x2)]) w14 (by kernel_rfl) (xN x1 x2 x3 x4 _ k eL3)
    rw[if_neg cL1] at h;replace cL1:=eqf cL1
    obtain rfl:=osi h
    show LT _ _ _ _ (.fin (.tup [(.sl 1 (List.map aJ (([],2).1))),(.int .i64 (([],2).2))]) [])
    exact LT.done mixed (hs:=⟨[],[],false,[],[]⟩) (es:=none) (u11++[dt,aIG]) ([⟨(nT cL1)⟩]++w12) (by kernel_rfl) (fun s h=>by cases h)
  rw[if_neg cL0] at h;replace cL0:=eqf cL0
  obtain rfl:=osi h
  show LT _ _ _ _ (.fin (.tup [(.sl 1 (List.map aJ (([],2).1))),(.int .i64 (([],2).2))]) [])
  exact LT.done mixed (hs:=⟨[],[],false,[],[]⟩) (es:=none) (u9++[dt,dt,aIG]) ([⟨(nT cL0)⟩,⟨(nT cL0)⟩]++w10) (by kernel_rfl) (fun s h=>by cases h)
theorem xA (x1:Int × ByteArray) (x2:Int × ByteArray) (x3:Int × ByteArray) (x4:Int × ByteArray) (y:(Sum (Unit) ((List Int) × Int))):∀(k:Nat),gC k x1 x2 x3 x4=some y→LT Tryz.prog X31 L31_0 (S31_0 x1 x2 x3 x4) (O31_0 x1 x2 x3 x4 y)
 | 0,h=>by cases h
 | k+1,h=>by
  rw[gC] at h
  let u15:List Ans:=[dt,.n 4,.row [(.int .u64 x1.1),(.str x1.2)],.call ⟨true,[]⟩ (.int .i64 1) [],df,df,df,df,df,df,df,dt,dt,dt,dt]
  let w16:List Prf:=[⟨(rfl:ltI 0 1=true)⟩,⟨(rfl:ltI 0 1=true)⟩,⟨(rfl:ltI 0 1=true)⟩,⟨(rfl:ltI 0 1=true)⟩,⟨rF⟩,⟨(rfl:eqI 1 0=false)⟩,⟨(rfl:eqI 1 0=false)⟩,⟨(rfl:eqI 1 0=false)⟩,⟨(rfl:eqI 1 0=false)⟩,⟨(rfl:eqI 1 0=false)⟩,⟨(rfl:eqI 1 0=false)⟩,⟨(uG)⟩,⟨(rfl:nS 2 (List.map aS [x1,x2,x3,x4]) 0 0 2=some [(.int .u64 x1.1),(.str x1.2)])⟩,⟨(rfl:inI 0 4=true)⟩,⟨(rfl:(List.map aS [x1,x2,x3,x4]).length=4)⟩,⟨(rfl:ltI 0 4=true)⟩]
  by_cases cL0:eqS x1.2 (ByteArray.mk #[])=true
  · rw[if_pos cL0] at h
    let u17:List Ans:=u15++[df,dt,dt,dt,dt,dt,dt,dt,dt,dt,dt]
    let w18:List Prf:=[⟨(rfl:ltI 1 8=true)⟩,⟨(rfl:ltI 1 8=true)⟩,⟨(rfl:ltI 1 8=true)⟩,⟨(rfl:ltI 1 8=true)⟩,⟨(rfl:ltI 1 8=true)⟩,⟨(rfl:ltI 1 8=true)⟩,⟨(rfl:ltI 1 8=true)⟩,⟨(rfl:ltI 0 1=true)⟩,⟨(rfl:ltI 0 1=true)⟩,⟨(rfl:ltI 0 1=true)⟩,⟨(nF cL0)⟩]++w16
    by_cases cL1:eqI (aA .u64 x1.1 8) 0=true
    · rw[if_pos cL1] at h
      obtain⟨aQ7,eL2,h⟩:=bsm h
      let w20:List Prf:=[⟨(aJM k x1.1 _ eL2)⟩,⟨(rfl:eqI 1 0=false)⟩,⟨(nF cL1)⟩]++w18
      obtain⟨v31000_2,eL3,h⟩:=bsm h
      cases v31000_2 with
      | inl sS =>
       simp only[Sum.elim_inl] at h
       obtain rfl:=osi h
       show LT _ _ _ _ (.st (.exit 0) (aI4 x1 x2 x3 x4))
       exact LT.next mixed (hs:=⟨[(0,[]),(6,[]),(20,[]),(21,[]),(22,[])],[⟨.tmp 6,[],none⟩],false,[],[]⟩) (es:=none) (u17++[df,df,(A31_3 x1)]) w20 (by kernel_rfl) (xJ x1 x2 x3 x4 _ k eL3)
      | inr sS =>
       simp only[Sum.elim_inr] at h
       obtain rfl:=osi h
       show LT _ _ _ _ (.fin (.tup [(.sl 1 (List.map aJ sS.1)),(.int .i64 sS.2)]) [])
       exact LT.next mixed (hs:=⟨[(0,[]),(6,[]),(20,[]),(21,[]),(22,[])],[⟨.tmp 6,[],none⟩],false,[],[]⟩) (es:=none) (u17++[df,df,(A31_3 x1)]) w20 (by kernel_rfl) (xJ x1 x2 x3 x4 _ k eL3)
    rw[if_neg cL1] at h;replace cL1:=eqf cL1
    obtain rfl:=osi h
    show LT _ _ _ _ (.fin (.tup [(.sl 1 (List.map aJ (([],2).1))),(.int .i64 (([],2).2))]) [])
    exact LT.done mixed (hs:=⟨[],[],false,[],[]⟩) (es:=none) (u17++[dt,aIG]) ([⟨(nT cL1)⟩]++w18) (by kernel_rfl) (fun s h=>by cases h)
  rw[if_neg cL0] at h;replace cL0:=eqf cL0
  obtain rfl:=osi h
  show LT _ _ _ _ (.fin (.tup [(.sl 1 (List.map aJ (([],2).1))),(.int .i64 (([],2).2))]) [])
  exact LT.done mixed (hs:=⟨[],[],false,[],[]⟩) (es:=none) (u15++[dt,dt,aIG]) ([⟨(nT cL0)⟩,⟨(nT cL0)⟩]++w16) (by kernel_rfl) (fun s h=>by cases h)
theorem aKF (k:Nat) (x1:Int × ByteArray) (x2:Int × ByteArray) (x3:Int × ByteArray) (x4:Int × ByteArray) (r:(List Int) × Int) (h:rN k x1 x2 x3 x4=some r):Tri Tryz.prog 31 [(.str (ByteArray.mk #[97,98,97,100])),(.sl 2 (List.map aS [x1,x2,x3,x4]))] [] (.tup [(.sl 1 (List.map aJ r.1)),(.int .i64 r.2)]) []:=by
 unfold rN at h
 let u21:List Ans:=[.call ⟨true,[]⟩ (.bool (eqS (ByteArray.mk #[]) (ByteArray.mk #[]))) [],df,df,.n 4,df,df,df,df,df,.n 4,.norm 2 ⟨[(0,[]),(6,[]),(20,[]),(21,[]),(22,[])],[],false,[],[]⟩]
 let w22:List Prf:=[⟨(rfl:(List.map aS [x1,x2,x3,x4]).length=4)⟩,⟨(nF (rfl:eqI 4 4=true))⟩,⟨(nF (wM (ByteArray.mk #[])))⟩,⟨(nF (wM (ByteArray.mk #[])))⟩,⟨(nF (wM (ByteArray.mk #[])))⟩,⟨(nF (wM (ByteArray.mk #[])))⟩,⟨(rfl:(List.map aS [x1,x2,x3,x4]).length=4)⟩,⟨(nF (wM (ByteArray.mk #[])))⟩,⟨(nF (wM (ByteArray.mk #[])))⟩,⟨(aBN)⟩]
 obtain⟨x5,e0,h⟩:=bsm h
 cases x5 with
 | inl x6 =>
  simp only[Sum.elim_inl] at h
  let w24:List Prf:=[⟨(LT.block (xA x1 x2 x3 x4 _ k e0))⟩]++w22
  by_cases c2:ltI 4000 (nI (((((((((((([conv .u8 (aA .u64 x1.1 0)]++[conv .u8 (aA .u64 x2.1 8)])++[conv .u8 (aA .u64 x2.1 0)])++[conv .u8 (aA .u64 x3.1 0)])++[conv .u8 (aA .u64 x4.1 56)])++[conv .u8 (aA .u64 x4.1 48)])++[conv .u8 (aA .u64 x4.1 40)])++[conv .u8 (aA .u64 x4.1 32)])++[conv .u8 (aA .u64 x4.1 24)])++[conv .u8 (aA .u64 x4.1 16)])++[conv .u8 (aA .u64 x4.1 8)])++[conv .u8 (aA .u64 x4.1 0)]).length))=true
  · rw[if_pos c2] at h
    obtain rfl:=osi h
    exact Tri.of (x:=X31) mixed aO0 (u21++[.out (.st .normal (aI4 x1 x2 x3 x4)),dt,aIG]) ([⟨c2⟩]++w24) (by kernel_rfl)
  rw[if_neg c2] at h;replace c2:=eqf c2
  obtain rfl:=osi h
  exact Tri.of (x:=X31) mixed aO0 (u21++[.out (.st .normal (aI4 x1 x2 x3 x4)),df,.rows (List.map aJ ((((((((((([conv .u8 (aA .u64 x1.1 0)]++[conv .u8 (aA .u64 x2.1 8)])++[conv .u8 (aA .u64 x2.1 0)])++[conv .u8 (aA .u64 x3.1 0)])++[conv .u8 (aA .u64 x4.1 56)])++[conv .u8 (aA .u64 x4.1 48)])++[conv .u8 (aA .u64 x4.1 40)])++[conv .u8 (aA .u64 x4.1 32)])++[conv .u8 (aA .u64 x4.1 24)])++[conv .u8 (aA .u64 x4.1 16)])++[conv .u8 (aA .u64 x4.1 8)])++[conv .u8 (aA .u64 x4.1 0)]))]) ([⟨(aX aJ (l:=((((((((((([conv .u8 (aA .u64 x1.1 0)]++[conv .u8 (aA .u64 x2.1 8)])++[conv .u8 (aA .u64 x2.1 0)])++[conv .u8 (aA .u64 x3.1 0)])++[conv .u8 (aA .u64 x4.1 56)])++[conv .u8 (aA .u64 x4.1 48)])++[conv .u8 (aA .u64 x4.1 40)])++[conv .u8 (aA .u64 x4.1 32)])++[conv .u8 (aA .u64 x4.1 24)])++[conv .u8 (aA .u64 x4.1 16)])++[conv .u8 (aA .u64 x4.1 8)])++[conv .u8 (aA .u64 x4.1 0)])) (n:=(((((((((((([conv .u8 (aA .u64 x1.1 0)]++[conv .u8 (aA .u64 x2.1 8)])++[conv .u8 (aA .u64 x2.1 0)])++[conv .u8 (aA .u64 x3.1 0)])++[conv .u8 (aA .u64 x4.1 56)])++[conv .u8 (aA .u64 x4.1 48)])++[conv .u8 (aA .u64 x4.1 40)])++[conv .u8 (aA .u64 x4.1 32)])++[conv .u8 (aA .u64 x4.1 24)])++[conv .u8 (aA .u64 x4.1 16)])++[conv .u8 (aA .u64 x4.1 8)])++[conv .u8 (aA .u64 x4.1 0)]).length)) rfl)⟩,⟨(bP aJ (Nat.le_refl (((((((((((([conv .u8 (aA .u64 x1.1 0)]++[conv .u8 (aA .u64 x2.1 8)])++[conv .u8 (aA .u64 x2.1 0)])++[conv .u8 (aA .u64 x3.1 0)])++[conv .u8 (aA .u64 x4.1 56)])++[conv .u8 (aA .u64 x4.1 48)])++[conv .u8 (aA .u64 x4.1 40)])++[conv .u8 (aA .u64 x4.1 32)])++[conv .u8 (aA .u64 x4.1 24)])++[conv .u8 (aA .u64 x4.1 16)])++[conv .u8 (aA .u64 x4.1 8)])++[conv .u8 (aA .u64 x4.1 0)]).length)):0+((((((((((([conv .u8 (aA .u64 x1.1 0)]++[conv .u8 (aA .u64 x2.1 8)])++[conv .u8 (aA .u64 x2.1 0)])++[conv .u8 (aA .u64 x3.1 0)])++[conv .u8 (aA .u64 x4.1 56)])++[conv .u8 (aA .u64 x4.1 48)])++[conv .u8 (aA .u64 x4.1 40)])++[conv .u8 (aA .u64 x4.1 32)])++[conv .u8 (aA .u64 x4.1 24)])++[conv .u8 (aA .u64 x4.1 16)])++[conv .u8 (aA .u64 x4.1 8)])++[conv .u8 (aA .u64 x4.1 0)]).length≤(List.map aJ ((((((((((([conv .u8 (aA .u64 x1.1 0)]++[conv .u8 (aA .u64 x2.1 8)])++[conv .u8 (aA .u64 x2.1 0)])++[conv .u8 (aA .u64 x3.1 0)])++[conv .u8 (aA .u64 x4.1 56)])++[conv .u8 (aA .u64 x4.1 48)])++[conv .u8 (aA .u64 x4.1 40)])++[conv .u8 (aA .u64 x4.1 32)])++[conv .u8 (aA .u64 x4.1 24)])++[conv .u8 (aA .u64 x4.1 16)])++[conv .u8 (aA .u64 x4.1 8)])++[conv .u8 (aA .u64 x4.1 0)])).length)⟩,⟨c2⟩]++w24) (by kernel_rfl)
 | inr x6 =>
  simp only[Sum.elim_inr] at h
  obtain rfl:=osi h
  exact Tri.of (x:=X31) mixed aO0 (u21++[.out (.fin (.tup [(.sl 1 (List.map aJ x6.1)),(.int .i64 x6.2)]) [])]) ([⟨(LT.blockFin (id:=0) (xA x1 x2 x3 x4 _ k e0))⟩]++w22) (by kernel_rfl)
end Go.Ws

namespace Go.Ws
open Go.Proofs
set_option linter.unusedSimpArgs false
set_option linter.unusedVariables false
set_option maxRecDepth 1000000
set_option maxHeartbeats 4000000
noncomputable def X8:Ctx:=⟨Tryz.f8,[],true⟩
theorem vV (k:Nat) (x1:Int) (x2:Int) (x3:Int) (x4:Int) (r:(List Int) × Int) (h:oW k x1 x2 x3 x4=some r):Tri Tryz.prog 8 [(.agg [(.int .i64 x1),(.int .i64 x2),(.int .u8 x3),(.int .i64 x4)])] [] (.tup [(.sl 1 (List.map aJ r.1)),(.int .i64 r.2)]) []:=by
 unfold oW at h
 obtain⟨x5,e0,h⟩:=bsm h
 obtain rfl:=osi h
 exact Tri.of (x:=X8) mixed facts8 [.call ⟨true,[]⟩ (.int .u64 (kF x4)) [],.call ⟨true,[]⟩ (.tup [(.sl 1 (List.map aJ x5.1)),(.int .i64 x5.2)]) [],.rows (List.map aS [(conv .u64 x1,(ByteArray.mk #[])),(conv .u64 x2,(ByteArray.mk #[])),(conv .u64 x3,(ByteArray.mk #[])),((kF x4),(ByteArray.mk #[]))])] [⟨(aKF k (conv .u64 x1,(ByteArray.mk #[])) (conv .u64 x2,(ByteArray.mk #[])) (conv .u64 x3,(ByteArray.mk #[])) ((kF x4),(ByteArray.mk #[])) _ e0)⟩,⟨(aX aS (l:=[(conv .u64 x1,(ByteArray.mk #[])),(conv .u64 x2,(ByteArray.mk #[])),(conv .u64 x3,(ByteArray.mk #[])),((kF x4),(ByteArray.mk #[]))]) (n:=4) rfl)⟩,⟨(bP aS (Nat.le_refl 4):0+4≤(List.map aS [(conv .u64 x1,(ByteArray.mk #[])),(conv .u64 x2,(ByteArray.mk #[])),(conv .u64 x3,(ByteArray.mk #[])),((kF x4),(ByteArray.mk #[]))]).length)⟩,⟨(aPC x4)⟩] (by kernel_rfl)
end Go.Ws

namespace Go.Ws
open Go.Proofs
set_option linter.unusedSimpArgs false
set_option linter.unusedVariables false
set_option maxRecDepth 1000000
set_option maxHeartbeats 4000000
noncomputable def X56_1001:Ctx:=⟨Tryz.f56,[],false⟩
theorem aBW (k:Nat) (x1:List Int) (r:Unit) (h:jN k x1=some r):Tri Tryz.prog 56 [(.inl 1 (List.map aJ x1))] [] (.ref 1 0 0 0 x1.length .virt) [(.arr 1 (List.map aJ x1) 0 0 false)]:=by
 unfold jN at h
 by_cases c0:bT (x1.length*1)=true
 · rw[if_pos c0] at h
   obtain rfl:=osi h
   exact Tri.of (x:=X56_1001) mixed aS5 [df,.n x1.length,.norm 0 ⟨[(2,[])],[⟨.tmp 2,[],some 1⟩],false,[],[]⟩,.n x1.length,.rows (List.map aJ x1)] [⟨(dF aJ (l:=x1) (n:=x1.length) rfl)⟩,⟨(rfl:x1.length=x1.length)⟩,⟨(zle x1.length)⟩,⟨c0⟩,⟨(aN aJ x1)⟩,⟨rF⟩] (by kernel_rfl)
 rw[if_neg c0] at h;replace c0:=eqf c0
 cases h
end Go.Ws

namespace Go.Ws
open Go.Proofs
set_option linter.unusedSimpArgs false
set_option linter.unusedVariables false
set_option maxRecDepth 1000000
set_option maxHeartbeats 4000000
noncomputable def X56_1002:Ctx:=⟨Tryz.f56,[],false⟩
theorem aBT:Tri Tryz.prog 56 [.nils] [] (.ref 1 0 0 0 0 .virt) [(.arr 1 (List.map aJ []) 0 0 false)]:=by
 obtain⟨r,h⟩:∃r,sJ=r:=⟨_,rfl⟩
 try rw[h]
 unfold sJ at h
 obtain rfl:=h
 exact Tri.of (x:=X56_1002) mixed aS5 [dt,.norm 0 ⟨[(2,[])],[⟨.tmp 2,[],some 1⟩],false,[],[]⟩,.n 0,.rows (List.map aJ [])] [⟨(dF aJ (l:=[]) (n:=0) rfl)⟩,⟨(rfl:0=0)⟩,⟨(zle 0)⟩,⟨rT⟩] (by kernel_rfl)
end Go.Ws

namespace Go.Ws
open Go.Proofs
set_option linter.unusedSimpArgs false
set_option linter.unusedVariables false
set_option maxRecDepth 1000000
set_option maxHeartbeats 4000000
theorem qG (k:Nat) (x1:List Int) (r:Unit) (h:kW k x1=some r):Tri Tryz.prog 56 [(.sl 1 (List.map aJ x1))] [] (.ref 1 0 0 0 x1.length .virt) [(.arr 1 (List.map aJ x1) 0 0 false)]:=by
 refine Tri.slOf (aBW k x1 r h) fun h0=>?_
 have hx:x1=[]:=by simpa using h0
 subst hx
 exact aBT
end Go.Ws

namespace Go.Ws
open Go.Proofs
set_option linter.unusedSimpArgs false
set_option linter.unusedVariables false
set_option maxRecDepth 1000000
set_option maxHeartbeats 4000000
noncomputable def X33:Ctx:=⟨Tryz.f33,[],false⟩
theorem aHZ (k:Nat) (x1:List Int) (x2:Int) (x3:Int) (x4:Int) (r:Unit) (h:nH k x1 x2 x3 x4=some r):Tri Tryz.prog 33 [(.agg [(.sl 1 (List.map aJ x1)),(.int .i64 x2),(.int .i64 x3)]),(.int .i64 x4)] [] (.agg [(.ref 1 0 0 0 ((List.take (tN (dO 0 (dG x4 (nI x1.length)))) x1).length) .virt),(.int .i64 (dG x2 (dO 0 (dG x4 (nI x1.length))))),(.int .i64 x3)]) [(.arr 1 (List.map aJ (List.take (tN (dO 0 (dG x4 (nI x1.length)))) x1)) 0 0 false)]:=by
 unfold nH at h
 by_cases c0:leI (dO 0 (dG x4 (nI x1.length))) x1.length=true
 · rw[if_pos c0] at h
   obtain⟨x5,e1,h⟩:=bsm h
   obtain rfl:=osi h
   exact Tri.of (x:=X33) mixed aUI [.n x1.length,.n x1.length,.rows (List.map aJ (List.take (tN (dO 0 (dG x4 (nI x1.length)))) x1)),.call ⟨true,[]⟩ (.ref 1 0 0 0 ((List.take (tN (dO 0 (dG x4 (nI x1.length)))) x1).length) .virt) [(.arr 1 (List.map aJ (List.take (tN (dO 0 (dG x4 (nI x1.length)))) x1)) 0 0 false)],.norm 0 ⟨[(4,[])],[⟨.tmp 4,[],none⟩,⟨.cell 0 0,[],none⟩],false,[],[]⟩] [⟨(qG k (List.take (tN (dO 0 (dG x4 (nI x1.length)))) x1) _ e1)⟩,⟨(aF4 aJ x1 (tN (dO 0 (dG x4 (nI x1.length)))))⟩,⟨c0⟩,⟨(aN aJ x1)⟩,⟨(aN aJ x1)⟩] (by kernel_rfl)
 rw[if_neg c0] at h;replace c0:=eqf c0
 cases h
end Go.Ws

namespace Go.Ws
open Go.Proofs
set_option linter.unusedSimpArgs false
set_option linter.unusedVariables false
set_option maxRecDepth 1000000
set_option maxHeartbeats 4000000
theorem aJ6 (k:Nat) (x1:List Int) (r:Int) (h:aCU k x1=some r):Tri Tryz.prog 57 [(.sl 1 (List.map aJ x1))] [] (.int .u32 r) []:=sum_tri h
end Go.Ws

namespace Go.Ws
open Go.Proofs
set_option linter.unusedSimpArgs false
set_option linter.unusedVariables false
set_option maxRecDepth 1000000
set_option maxHeartbeats 4000000
noncomputable def X34:Ctx:=⟨Tryz.f34,[],true⟩
def A34_0 (x1:List Int):Ans:=.rows (List.map aJ ([1,conv .u8 (aA .i64 (nI x1.length) 8),conv .u8 (nI x1.length)]++x1))
def A34_1 (x1:List Int) (x2:Int):Ans:=.rows (List.map aJ (([1,conv .u8 (aA .i64 (nI x1.length) 8),conv .u8 (nI x1.length)]++x1)++[conv .u8 (aA .u32 x2 24),conv .u8 (aA .u32 x2 16),conv .u8 (aA .u32 x2 8),conv .u8 x2]))
theorem aN1 (k:Nat) (x1:List Int) (r:(List Int) × Int) (h:wA k x1=some r):Tri Tryz.prog 34 [(.sl 1 (List.map aJ x1))] [] (.tup [(.sl 1 (List.map aJ r.1)),(.int .i64 r.2)]) []:=by
 unfold wA at h
 by_cases c0:ltI 4000 (nI x1.length)=true
 · rw[if_pos c0] at h
   obtain rfl:=osi h
   exact Tri.of (x:=X34) mixed aUC [.n x1.length,dt,.norm 0 ⟨[(2,[(0,1)]),(3,[])],[],false,[],[]⟩] [⟨c0⟩,⟨(aN aJ x1)⟩] (by kernel_rfl)
 rw[if_neg c0] at h;replace c0:=eqf c0
 by_cases c1:bT ((([1,conv .u8 (aA .i64 (nI x1.length) 8),conv .u8 (nI x1.length)]++x1).length)*1)=true
 · rw[if_pos c1] at h
   obtain⟨x2,e2,h⟩:=bsm h
   by_cases c3:bT (((([1,conv .u8 (aA .i64 (nI x1.length) 8),conv .u8 (nI x1.length)]++x1)++[conv .u8 (aA .u32 x2 24),conv .u8 (aA .u32 x2 16),conv .u8 (aA .u32 x2 8),conv .u8 x2]).length)*1)=true
   · rw[if_pos c3] at h
     obtain rfl:=osi h
     exact Tri.of (x:=X34) mixed aUC [.n x1.length,df,.n (([1,conv .u8 (aA .i64 (nI x1.length) 8),conv .u8 (nI x1.length)]++x1).length),.n 3,dt,(A34_0 x1),.call ⟨true,[]⟩ (.int .u32 x2) [],(A34_0 x1),.rows (List.map aJ [conv .u8 (aA .u32 x2 24),conv .u8 (aA .u32 x2 16),conv .u8 (aA .u32 x2 8),conv .u8 x2]),.n ((([1,conv .u8 (aA .i64 (nI x1.length) 8),conv .u8 (nI x1.length)]++x1)++[conv .u8 (aA .u32 x2 24),conv .u8 (aA .u32 x2 16),conv .u8 (aA .u32 x2 8),conv .u8 x2]).length),.n (([1,conv .u8 (aA .i64 (nI x1.length) 8),conv .u8 (nI x1.length)]++x1).length),dt,(A34_1 x1 x2),(A34_1 x1 x2)] [⟨(aX aJ (l:=(([1,conv .u8 (aA .i64 (nI x1.length) 8),conv .u8 (nI x1.length)]++x1)++[conv .u8 (aA .u32 x2 24),conv .u8 (aA .u32 x2 16),conv .u8 (aA .u32 x2 8),conv .u8 x2])) (n:=((([1,conv .u8 (aA .i64 (nI x1.length) 8),conv .u8 (nI x1.length)]++x1)++[conv .u8 (aA .u32 x2 24),conv .u8 (aA .u32 x2 16),conv .u8 (aA .u32 x2 8),conv .u8 x2]).length)) rfl)⟩,⟨(bP aJ (Nat.le_refl ((([1,conv .u8 (aA .i64 (nI x1.length) 8),conv .u8 (nI x1.length)]++x1)++[conv .u8 (aA .u32 x2 24),conv .u8 (aA .u32 x2 16),conv .u8 (aA .u32 x2 8),conv .u8 x2]).length)):0+(([1,conv .u8 (aA .i64 (nI x1.length) 8),conv .u8 (nI x1.length)]++x1)++[conv .u8 (aA .u32 x2 24),conv .u8 (aA .u32 x2 16),conv .u8 (aA .u32 x2 8),conv .u8 x2]).length≤(List.map aJ (([1,conv .u8 (aA .i64 (nI x1.length) 8),conv .u8 (nI x1.length)]++x1)++[conv .u8 (aA .u32 x2 24),conv .u8 (aA .u32 x2 16),conv .u8 (aA .u32 x2 8),conv .u8 x2])).length)⟩,⟨(jY aJ ([1,conv .u8 (aA .i64 (nI x1.length) 8),conv .u8 (nI x1.length)]++x1) [conv .u8 (aA .u32 x2 24),conv .u8 (aA .u32 x2 16),conv .u8 (aA .u32 x2 8),conv .u8 x2])⟩,⟨(i5 (([1,conv .u8 (aA .i64 (nI x1.length) 8),conv .u8 (nI x1.length)]++x1).length))⟩,⟨(aN aJ ([1,conv .u8 (aA .i64 (nI x1.length) 8),conv .u8 (nI x1.length)]++x1))⟩,⟨c3⟩,⟨(by simp only[wl,List.length_map,List.map_nil,List.map_cons]<;>omega:(([1,conv .u8 (aA .i64 (nI x1.length) 8),conv .u8 (nI x1.length)]++x1).length)+(List.map aJ [conv .u8 (aA .u32 x2 24),conv .u8 (aA .u32 x2 16),conv .u8 (aA .u32 x2 8),conv .u8 x2]).length=(([1,conv .u8 (aA .i64 (nI x1.length) 8),conv .u8 (nI x1.length)]++x1)++[conv .u8 (aA .u32 x2 24),conv .u8 (aA .u32 x2 16),conv .u8 (aA .u32 x2 8),conv .u8 x2]).length)⟩,⟨(aX aJ (l:=[conv .u8 (aA .u32 x2 24),conv .u8 (aA .u32 x2 16),conv .u8 (aA .u32 x2 8),conv .u8 x2]) (n:=4) rfl)⟩,⟨(bP aJ (Nat.le_refl 4):0+4≤(List.map aJ [conv .u8 (aA .u32 x2 24),conv .u8 (aA .u32 x2 16),conv .u8 (aA .u32 x2 8),conv .u8 x2]).length)⟩,⟨(aJ6 k ([1,conv .u8 (aA .i64 (nI x1.length) 8),conv .u8 (nI x1.length)]++x1) _ e2)⟩,⟨(aX aJ (l:=([1,conv .u8 (aA .i64 (nI x1.length) 8),conv .u8 (nI x1.length)]++x1)) (n:=(([1,conv .u8 (aA .i64 (nI x1.length) 8),conv .u8 (nI x1.length)]++x1).length)) rfl)⟩,⟨(bP aJ (Nat.le_refl (([1,conv .u8 (aA .i64 (nI x1.length) 8),conv .u8 (nI x1.length)]++x1).length)):0+([1,conv .u8 (aA .i64 (nI x1.length) 8),conv .u8 (nI x1.length)]++x1).length≤(List.map aJ ([1,conv .u8 (aA .i64 (nI x1.length) 8),conv .u8 (nI x1.length)]++x1)).length)⟩,⟨(jY aJ [1,conv .u8 (aA .i64 (nI x1.length) 8),conv .u8 (nI x1.length)] x1)⟩,⟨(rfl:eqN 3 3=true)⟩,⟨(rfl:(List.map aJ [1,conv .u8 (aA .i64 (nI x1.length) 8),conv .u8 (nI x1.length)]).length=3)⟩,⟨c1⟩,⟨(by simp only[wl,List.length_map,List.map_nil,List.map_cons]<;>omega:3+(List.map aJ x1).length=([1,conv .u8 (aA .i64 (nI x1.length) 8),conv .u8 (nI x1.length)]++x1).length)⟩,⟨c0⟩,⟨(aN aJ x1)⟩] (by kernel_rfl)
   rw[if_neg c3] at h;replace c3:=eqf c3
   cases h
 rw[if_neg c1] at h;replace c1:=eqf c1
 cases h
end Go.Ws

namespace Go.Ws
open Go.Proofs
set_option linter.unusedSimpArgs false
set_option linter.unusedVariables false
set_option maxRecDepth 1000000
set_option maxHeartbeats 4000000
noncomputable def X9:Ctx:=⟨Tryz.f9,[],true⟩
theorem rZ (k:Nat) (x1:List Int) (x2:Int) (x3:Int) (x4:List Int) (r:(List Int) × Int × Int × Int) (h:kY k x1 x2 x3 x4=some r):Tri Tryz.prog 9 [(.agg [(.sl 1 (List.map aJ x1)),(.int .i64 x2),(.int .i64 x3)]),(.sl 1 (List.map aJ x4))] [] (.tup [(.agg [(.sl 1 (List.map aJ r.1)),(.int .i64 r.2.1),(.int .i64 r.2.2.1)]),(.int .i64 r.2.2.2)]) []:=by
 unfold kY at h
 obtain⟨x5,e0,h⟩:=bsm h
 obtain⟨x6,e1,h⟩:=bsm h
 let u1:List Ans:=[.n x1.length,.call ⟨true,[]⟩ (.agg [(.ref 1 0 0 0 ((List.take (tN (dO 0 (dG (nI x1.length) (nI x1.length)))) x1).length) .virt),(.int .i64 (dG x2 (dO 0 (dG (nI x1.length) (nI x1.length))))),(.int .i64 x3)]) [(.arr 1 (List.map aJ (List.take (tN (dO 0 (dG (nI x1.length) (nI x1.length)))) x1)) 0 0 false)],.call ⟨true,[]⟩ (.tup [(.sl 1 (List.map aJ x6.1)),(.int .i64 x6.2)]) []]
 let w2:List Prf:=[⟨(aN1 k x4 _ e1)⟩,⟨(aHZ k x1 x2 x3 (nI x1.length) _ e0)⟩,⟨(aN aJ x1)⟩]
 by_cases c2:eqI x6.2 0=true
 · rw[if_pos c2] at h
   let w4:List Prf:=[⟨(aN aJ x6.1)⟩,⟨(nF c2)⟩]++w2
   by_cases c3:ltI x3 (aH .i64 (nI ((List.take (tN (dO 0 (dG (nI x1.length) (nI x1.length)))) x1).length)) (nI x6.1.length))=true
   · rw[if_pos c3] at h
     obtain rfl:=osi h
     exact Tri.of (x:=X9) mixed aR5 (u1++[df,.n x6.1.length,dt,.rows (List.map aJ (List.take (tN (dO 0 (dG (nI x1.length) (nI x1.length)))) x1))]) ([⟨(aX aJ (l:=(List.take (tN (dO 0 (dG (nI x1.length) (nI x1.length)))) x1)) (n:=((List.take (tN (dO 0 (dG (nI x1.length) (nI x1.length)))) x1).length)) rfl)⟩,⟨(bP aJ (Nat.le_refl ((List.take (tN (dO 0 (dG (nI x1.length) (nI x1.length)))) x1).length)):0+(List.take (tN (dO 0 (dG (nI x1.length) (nI x1.length)))) x1).length≤(List.map aJ (List.take (tN (dO 0 (dG (nI x1.length) (nI x1.length)))) x1)).length)⟩,⟨c3⟩]++w4) (by kernel_rfl)
   rw[if_neg c3] at h;replace c3:=eqf c3
   by_cases c4:bT ((((List.take (tN (dO 0 (dG (nI x1.length) (nI x1.length)))) x1)++x6.1).length)*1)=true
   · rw[if_pos c4] at h
     obtain rfl:=osi h
     exact Tri.of (x:=X9) mixed aR5 (u1++[df,.n x6.1.length,df,.n (((List.take (tN (dO 0 (dG (nI x1.length) (nI x1.length)))) x1)++x6.1).length),.n ((List.take (tN (dO 0 (dG (nI x1.length) (nI x1.length)))) x1).length),dt,.rows (List.map aJ ((List.take (tN (dO 0 (dG (nI x1.length) (nI x1.length)))) x1)++x6.1)),.rows (List.map aJ ((List.take (tN (dO 0 (dG (nI x1.length) (nI x1.length)))) x1)++x6.1))]) ([⟨(aX aJ (l:=((List.take (tN (dO 0 (dG (nI x1.length) (nI x1.length)))) x1)++x6.1)) (n:=(((List.take (tN (dO 0 (dG (nI x1.length) (nI x1.length)))) x1)++x6.1).length)) rfl)⟩,⟨(bP aJ (Nat.le_refl (((List.take (tN (dO 0 (dG (nI x1.length) (nI x1.length)))) x1)++x6.1).length)):0+((List.take (tN (dO 0 (dG (nI x1.length) (nI x1.length)))) x1)++x6.1).length≤(List.map aJ ((List.take (tN (dO 0 (dG (nI x1.length) (nI x1.length)))) x1)++x6.1)).length)⟩,⟨(jY aJ (List.take (tN (dO 0 (dG (nI x1.length) (nI x1.length)))) x1) x6.1)⟩,⟨(i5 ((List.take (tN (dO 0 (dG (nI x1.length) (nI x1.length)))) x1).length))⟩,⟨(aN aJ (List.take (tN (dO 0 (dG (nI x1.length) (nI x1.length)))) x1))⟩,⟨c4⟩,⟨(by simp only[wl,List.length_map,List.map_nil,List.map_cons]<;>omega:((List.take (tN (dO 0 (dG (nI x1.length) (nI x1.length)))) x1).length)+(List.map aJ x6.1).length=((List.take (tN (dO 0 (dG (nI x1.length) (nI x1.length)))) x1)++x6.1).length)⟩,⟨c3⟩]++w4) (by kernel_rfl)
   rw[if_neg c4] at h;replace c4:=eqf c4
   cases h
 rw[if_neg c2] at h;replace c2:=eqf c2
 obtain rfl:=osi h
 exact Tri.of (x:=X9) mixed aR5 (u1++[dt,.rows (List.map aJ (List.take (tN (dO 0 (dG (nI x1.length) (nI x1.length)))) x1))]) ([⟨(aX aJ (l:=(List.take (tN (dO 0 (dG (nI x1.length) (nI x1.length)))) x1)) (n:=((List.take (tN (dO 0 (dG (nI x1.length) (nI x1.length)))) x1).length)) rfl)⟩,⟨(bP aJ (Nat.le_refl ((List.take (tN (dO 0 (dG (nI x1.length) (nI x1.length)))) x1).length)):0+(List.take (tN (dO 0 (dG (nI x1.length) (nI x1.length)))) x1).length≤(List.map aJ (List.take (tN (dO 0 (dG (nI x1.length) (nI x1.length)))) x1)).length)⟩,⟨(nT c2)⟩]++w2) (by kernel_rfl)
end Go.Ws

namespace Go.Ws
open Go.Proofs
set_option linter.unusedSimpArgs false
set_option linter.unusedVariables false
set_option maxRecDepth 1000000
set_option maxHeartbeats 4000000
noncomputable def X33_1:Ctx:=⟨Tryz.f33,[],true⟩
theorem wO (k:Nat) (x1:List Int) (x2:Int) (x3:Int) (x4:Int) (r:(List Int) × Int × Int) (h:jQ k x1 x2 x3 x4=some r):Tri Tryz.prog 33 [(.agg [(.sl 1 (List.map aJ x1)),(.int .i64 x2),(.int .i64 x3)]),(.int .i64 x4)] [] (.agg [(.sl 1 (List.map aJ r.1)),(.int .i64 r.2.1),(.int .i64 r.2.2)]) []:=by
 unfold jQ at h
 by_cases c0:leI (dO 0 (dG x4 (nI x1.length))) x1.length=true
 · rw[if_pos c0] at h
   obtain⟨x5,e1,h⟩:=bsm h
   obtain rfl:=osi h
   exact Tri.of (x:=X33_1) mixed aUI [.n x1.length,.n x1.length,.rows (List.map aJ (List.take (tN (dO 0 (dG x4 (nI x1.length)))) x1)),.call ⟨true,[]⟩ (.ref 1 0 0 0 ((List.take (tN (dO 0 (dG x4 (nI x1.length)))) x1).length) .virt) [(.arr 1 (List.map aJ (List.take (tN (dO 0 (dG x4 (nI x1.length)))) x1)) 0 0 false)],.rows (List.map aJ (List.take (tN (dO 0 (dG x4 (nI x1.length)))) x1))] [⟨(aX aJ (l:=(List.take (tN (dO 0 (dG x4 (nI x1.length)))) x1)) (n:=((List.take (tN (dO 0 (dG x4 (nI x1.length)))) x1).length)) rfl)⟩,⟨(bP aJ (Nat.le_refl ((List.take (tN (dO 0 (dG x4 (nI x1.length)))) x1).length)):0+(List.take (tN (dO 0 (dG x4 (nI x1.length)))) x1).length≤(List.map aJ (List.take (tN (dO 0 (dG x4 (nI x1.length)))) x1)).length)⟩,⟨(qG k (List.take (tN (dO 0 (dG x4 (nI x1.length)))) x1) _ e1)⟩,⟨(aF4 aJ x1 (tN (dO 0 (dG x4 (nI x1.length)))))⟩,⟨c0⟩,⟨(aN aJ x1)⟩,⟨(aN aJ x1)⟩] (by kernel_rfl)
 rw[if_neg c0] at h;replace c0:=eqf c0
 cases h
end Go.Ws

namespace Go.Ws
open Go.Proofs
set_option linter.unusedSimpArgs false
set_option linter.unusedVariables false
set_option maxRecDepth 1000000
set_option maxHeartbeats 4000000
noncomputable def X10:Ctx:=⟨Tryz.f10,[],true⟩
theorem rV (k:Nat) (x1:List Int) (x2:Int) (x3:Int) (r:(List Int) × Int × Int) (h:nC k x1 x2 x3=some r):Tri Tryz.prog 10 [(.agg [(.sl 1 (List.map aJ x1)),(.int .i64 x2),(.int .i64 x3)])] [] (.agg [(.sl 1 (List.map aJ r.1)),(.int .i64 r.2.1),(.int .i64 r.2.2)]) []:=by
 unfold nC at h
 obtain⟨x4,e0,h⟩:=bsm h
 obtain rfl:=osi h
 exact Tri.of (x:=X10) mixed facts10 [.n x1.length,.call ⟨true,[]⟩ (.agg [(.sl 1 (List.map aJ x4.1)),(.int .i64 x4.2.1),(.int .i64 x4.2.2)]) [],.n x4.1.length] [⟨(aN aJ x4.1)⟩,⟨(wO k x1 x2 x3 (nI x1.length) _ e0)⟩,⟨(aN aJ x1)⟩] (by kernel_rfl)
end Go.Ws

namespace Go.Ws
open Go.Proofs
set_option linter.unusedSimpArgs false
set_option linter.unusedVariables false
set_option maxRecDepth 1000000
set_option maxHeartbeats 4000000
noncomputable def X12:Ctx:=⟨Tryz.f12,[],true⟩
theorem aD6 (k:Nat) (x1:List Int) (x2:Int) (x3:Int) (x4:Int) (r:(List Int) × Int × Int) (h:qL k x1 x2 x3 x4=some r):Tri Tryz.prog 12 [(.agg [(.sl 1 (List.map aJ x1)),(.int .i64 x2),(.int .i64 x3)]),(.int .u16 x4)] [] (.agg [(.sl 1 (List.map aJ r.1)),(.int .i64 r.2.1),(.int .i64 r.2.2)]) []:=by
 unfold qL at h
 by_cases c0:eqI (aH .i64 (dO 0 (vS .i64 (nI x1.length) x2)) 1) 0=true
 · rw[if_pos c0] at h
   cases h
 rw[if_neg c0] at h;replace c0:=eqf c0
 obtain⟨x5,e1,h⟩:=bsm h
 obtain⟨x6,e2,h⟩:=bsm h
 obtain rfl:=osi h
 exact Tri.of (x:=X12) mixed facts12 [.n x1.length,df,.call ⟨true,[]⟩ (.agg [(.sl 1 (List.map aJ x5.1)),(.int .i64 x5.2.1),(.int .i64 x5.2.2)]) [],.call ⟨true,[]⟩ (.agg [(.sl 1 (List.map aJ x6.1)),(.int .i64 x6.2.1),(.int .i64 x6.2.2)]) []] [⟨(rV k x5.1 x5.2.1 x5.2.2 _ e2)⟩,⟨(wO k x1 x2 x3 (aH .i64 x2 (gK .i64 (conv .i64 x4) (aH .i64 (dO 0 (vS .i64 (nI x1.length) x2)) 1))) _ e1)⟩,⟨c0⟩,⟨(aN aJ x1)⟩] (by kernel_rfl)
end Go.Ws

namespace Go.Ws
open Go.Proofs
set_option linter.unusedSimpArgs false
set_option linter.unusedVariables false
set_option maxRecDepth 1000000
set_option maxHeartbeats 4000000
noncomputable def X58:Ctx:=⟨Tryz.f58,[],true⟩
def aF0:Ans:=.norm 0 ⟨[(2,[(0,1)]),(3,[]),(4,[])],[],false,[],[]⟩
def A58_1 (x1:List Int) (x3:Int) (x4:Int):Ans:=.rows (List.map aJ (List.take ((tN (aH .i64 (aH .i64 3 (gL .i64 (conv .i64 x3) 8)) (conv .i64 x4))) - 3) (List.drop 3 x1)))
theorem aN9 (k:Nat) (x1:List Int) (r:(List Int) × Int × Int) (h:vX k x1=some r):Tri Tryz.prog 58 [(.sl 1 (List.map aJ x1))] [] (.tup [(.sl 1 (List.map aJ r.1)),(.int .i64 r.2.1),(.int .i64 r.2.2)]) []:=by
 unfold vX at h
 by_cases c0:eqI (nI x1.length) 0=true
 · rw[if_pos c0] at h
   obtain rfl:=osi h
   exact Tri.of (x:=X58) mixed rR [.n x1.length,dt,aF0] [⟨c0⟩,⟨(aN aJ x1)⟩] (by kernel_rfl)
 rw[if_neg c0] at h;replace c0:=eqf c0
 by_cases c1:inI 0 x1.length=true
 · rw[if_pos c1] at h
   obtain⟨x2,e2,h⟩:=bsm h
   let u3:List Ans:=[.n x1.length,df,.n x1.length,.row [(.int .u8 x2)]]
   let w4:List Prf:=[⟨(bX (e:=aJ) e2 1 0 1 (by decide))⟩,⟨c1⟩,⟨(aN aJ x1)⟩,⟨c0⟩,⟨(aN aJ x1)⟩]
   by_cases c3:eqI x2 1=true
   · rw[if_pos c3] at h
     let w6:List Prf:=[⟨(nF c3)⟩,⟨(nF c3)⟩,⟨(aN aJ x1)⟩,⟨(nF c3)⟩,⟨(nF c3)⟩]++w4
     by_cases c4:ltI (nI x1.length) 3=true
     · rw[if_pos c4] at h
       obtain rfl:=osi h
       exact Tri.of (x:=X58) mixed rR (u3++[df,df,.n x1.length,df,df,dt,aF0]) ([⟨c4⟩]++w6) (by kernel_rfl)
     rw[if_neg c4] at h;replace c4:=eqf c4
     by_cases c5:inI 1 x1.length=true
     · rw[if_pos c5] at h
       obtain⟨x3,e6,h⟩:=bsm h
       by_cases c7:inI 2 x1.length=true
       · rw[if_pos c7] at h
         obtain⟨x4,e8,h⟩:=bsm h
         let u7:List Ans:=u3++[df,df,.n x1.length,df,df,df,.n x1.length,.row [(.int .u8 x3)],.n x1.length,.row [(.int .u8 x4)]]
         let w8:List Prf:=[⟨(bX (e:=aJ) e8 1 0 1 (by decide))⟩,⟨c7⟩,⟨(aN aJ x1)⟩,⟨(bX (e:=aJ) e6 1 0 1 (by decide))⟩,⟨c5⟩,⟨(aN aJ x1)⟩,⟨c4⟩]++w6
         by_cases c9:ltI 4003 (aH .i64 (aH .i64 3 (gL .i64 (conv .i64 x3) 8)) (conv .i64 x4))=true
         · rw[if_pos c9] at h
           obtain rfl:=osi h
           exact Tri.of (x:=X58) mixed rR (u7++[dt,dt,dt,dt,dt,dt,dt,aF0]) ([⟨rT⟩,⟨c9⟩,⟨c9⟩,⟨c9⟩,⟨c9⟩,⟨c9⟩,⟨c9⟩]++w8) (by kernel_rfl)
         rw[if_neg c9] at h;replace c9:=eqf c9
         let u9:List Ans:=u7++[df,df,.n x1.length,df,df,df,df]
         let w10:List Prf:=[⟨c9⟩,⟨c9⟩,⟨c9⟩,⟨c9⟩,⟨(aN aJ x1)⟩,⟨c9⟩,⟨c9⟩]++w8
         by_cases c10:ltI (nI x1.length) (aH .i64 (aH .i64 (aH .i64 3 (gL .i64 (conv .i64 x3) 8)) (conv .i64 x4)) 4)=true
         · rw[if_pos c10] at h
           obtain rfl:=osi h
           exact Tri.of (x:=X58) mixed rR (u9++[dt,aF0]) ([⟨c10⟩]++w10) (by kernel_rfl)
         rw[if_neg c10] at h;replace c10:=eqf c10
         by_cases c11:leI (aH .i64 (aH .i64 3 (gL .i64 (conv .i64 x3) 8)) (conv .i64 x4)) x1.length=true
         · rw[if_pos c11] at h
           obtain⟨x5,e12,h⟩:=bsm h
           by_cases c13:qV 4 (x1.length - (tN (aH .i64 (aH .i64 3 (gL .i64 (conv .i64 x3) 8)) (conv .i64 x4))))=true
           · rw[if_pos c13] at h
             obtain⟨x6,e14,h⟩:=bsm h
             obtain⟨x7,e15,h⟩:=bsm h
             obtain⟨x8,e16,h⟩:=bsm h
             obtain⟨x9,e17,h⟩:=bsm h
             let u11:List Ans:=u9++[df,.n x1.length,.rows (List.map aJ (List.take (tN (aH .i64 (aH .i64 3 (gL .i64 (conv .i64 x3) 8)) (conv .i64 x4))) x1)),.call ⟨true,[]⟩ (.int .u32 x5) [],.n x1.length,.rows (List.map aJ (List.drop (tN (aH .i64 (aH .i64 3 (gL .i64 (conv .i64 x3) 8)) (conv .i64 x4))) x1)),.n (x1.length - (tN (aH .i64 (aH .i64 3 (gL .i64 (conv .i64 x3) 8)) (conv .i64 x4)))),.row [(.int .u8 x6),(.int .u8 x7),(.int .u8 x8),(.int .u8 x9)]]
             let w12:List Prf:=[⟨(aSF e14 e15 e16 e17)⟩,⟨c13⟩,⟨(len_mapE aJ ((by simp:x1.length - (tN (aH .i64 (aH .i64 3 (gL .i64 (conv .i64 x3) 8)) (conv .i64 x4)))=List.length (α:=Int) (List.drop (tN (aH .i64 (aH .i64 3 (gL .i64 (conv .i64 x3) 8)) (conv .i64 x4))) x1))).symm)⟩,⟨(aKX aJ (l:=x1) (n:=x1.length) rfl (tN (aH .i64 (aH .i64 3 (gL .i64 (conv .i64 x3) 8)) (conv .i64 x4))))⟩,⟨c11⟩,⟨(aN aJ x1)⟩,⟨(aJ6 k (List.take (tN (aH .i64 (aH .i64 3 (gL .i64 (conv .i64 x3) 8)) (conv .i64 x4))) x1) _ e12)⟩,⟨(aF4 aJ x1 (tN (aH .i64 (aH .i64 3 (gL .i64 (conv .i64 x3) 8)) (conv .i64 x4))))⟩,⟨c11⟩,⟨(aN aJ x1)⟩,⟨c10⟩]++w10
             by_cases c18:eqI x6 (conv .u8 (aA .u32 x5 24))=true
             · rw[if_pos c18] at h
               by_cases c19:eqI x7 (conv .u8 (aA .u32 x5 16))=true
               · rw[if_pos c19] at h
                 by_cases c20:eqI x8 (conv .u8 (aA .u32 x5 8))=true
                 · rw[if_pos c20] at h
                   by_cases c21:eqI x9 (conv .u8 x5)=true
                   · rw[if_pos c21] at h
                     by_cases c22:leI (aH .i64 (aH .i64 3 (gL .i64 (conv .i64 x3) 8)) (conv .i64 x4)) (tN (aH .i64 (aH .i64 3 (gL .i64 (conv .i64 x3) 8)) (conv .i64 x4)))=true
                     · rw[if_pos c22] at h
                       by_cases c23:leI 3 (tN (aH .i64 (aH .i64 3 (gL .i64 (conv .i64 x3) 8)) (conv .i64 x4)))=true
                       · rw[if_pos c23] at h
                         let w14:List Prf:=[⟨c23⟩,⟨c22⟩,⟨c11⟩,⟨(aN aJ x1)⟩,⟨(nF (aT c18 (aT c19 (aT c20 c21))))⟩]++w12
                         by_cases c24:eqN (tN (aH .i64 (aH .i64 3 (gL .i64 (conv .i64 x3) 8)) (conv .i64 x4))) 3=true
                         · rw[if_pos c24] at h
                           obtain⟨x10,e25,h⟩:=bsm h
                           obtain rfl:=osi h
                           exact Tri.of (x:=X58) mixed rR (u11++[df,.n x1.length,dt,.call ⟨true,[[(0,1)]]⟩ (.ref 1 0 0 0 0 .virt) [(.arr 1 (List.map aJ []) 0 0 false)],.rows (List.map aJ [])]) ([⟨(aX aJ (l:=[]) (n:=0) rfl)⟩,⟨(bP aJ (Nat.le_refl 0):0+0≤(List.map aJ []).length)⟩,⟨(qG k [] _ e25)⟩,⟨c24⟩]++w14) (by kernel_rfl)
                         rw[if_neg c24] at h;replace c24:=eqf c24
                         obtain⟨x10,e25,h⟩:=bsm h
                         obtain rfl:=osi h
                         exact Tri.of (x:=X58) mixed rR (u11++[df,.n x1.length,df,(A58_1 x1 x3 x4),.call ⟨true,[]⟩ (.ref 1 0 0 0 ((List.take ((tN (aH .i64 (aH .i64 3 (gL .i64 (conv .i64 x3) 8)) (conv .i64 x4))) - 3) (List.drop 3 x1)).length) .virt) [(.arr 1 (List.map aJ (List.take ((tN (aH .i64 (aH .i64 3 (gL .i64 (conv .i64 x3) 8)) (conv .i64 x4))) - 3) (List.drop 3 x1))) 0 0 false)],(A58_1 x1 x3 x4)]) ([⟨(aX aJ (l:=(List.take ((tN (aH .i64 (aH .i64 3 (gL .i64 (conv .i64 x3) 8)) (conv .i64 x4))) - 3) (List.drop 3 x1))) (n:=((List.take ((tN (aH .i64 (aH .i64 3 (gL .i64 (conv .i64 x3) 8)) (conv .i64 x4))) - 3) (List.drop 3 x1)).length)) rfl)⟩,⟨(bP aJ (Nat.le_refl ((List.take ((tN (aH .i64 (aH .i64 3 (gL .i64 (conv .i64 x3) 8)) (conv .i64 x4))) - 3) (List.drop 3 x1)).length)):0+(List.take ((tN (aH .i64 (aH .i64 3 (gL .i64 (conv .i64 x3) 8)) (conv .i64 x4))) - 3) (List.drop 3 x1)).length≤(List.map aJ (List.take ((tN (aH .i64 (aH .i64 3 (gL .i64 (conv .i64 x3) 8)) (conv .i64 x4))) - 3) (List.drop 3 x1))).length)⟩,⟨(qG k (List.take ((tN (aH .i64 (aH .i64 3 (gL .i64 (conv .i64 x3) 8)) (conv .i64 x4))) - 3) (List.drop 3 x1)) _ e25)⟩,⟨(cut_both aJ x1 3 (tN (aH .i64 (aH .i64 3 (gL .i64 (conv .i64 x3) 8)) (conv .i64 x4))))⟩,⟨c24⟩]++w14) (by kernel_rfl)
                       rw[if_neg c23] at h;replace c23:=eqf c23
                       cases h
                     rw[if_neg c22] at h;replace c22:=eqf c22
                     cases h
                   rw[if_neg c21] at h;replace c21:=eqf c21
                   obtain rfl:=osi h
                   exact Tri.of (x:=X58) mixed rR (u11++[dt,aF0]) ([⟨(nT (aF2 c18 (aF2 c19 (aF2 c20 c21))))⟩]++w12) (by kernel_rfl)
                 rw[if_neg c20] at h;replace c20:=eqf c20
                 obtain rfl:=osi h
                 exact Tri.of (x:=X58) mixed rR (u11++[dt,aF0]) ([⟨(nT (aF2 c18 (aF2 c19 (aF1 (b:=eqI x9 (conv .u8 x5)) c20))))⟩]++w12) (by kernel_rfl)
               rw[if_neg c19] at h;replace c19:=eqf c19
               obtain rfl:=osi h
               exact Tri.of (x:=X58) mixed rR (u11++[dt,aF0]) ([⟨(nT (aF2 c18 (aF1 (b:=(eqI x8 (conv .u8 (aA .u32 x5 8)) && eqI x9 (conv .u8 x5))) c19)))⟩]++w12) (by kernel_rfl)
             rw[if_neg c18] at h;replace c18:=eqf c18
             obtain rfl:=osi h
             exact Tri.of (x:=X58) mixed rR (u11++[dt,aF0]) ([⟨(nT (aF1 (b:=(eqI x7 (conv .u8 (aA .u32 x5 16)) && (eqI x8 (conv .u8 (aA .u32 x5 8)) && eqI x9 (conv .u8 x5)))) c18))⟩]++w12) (by kernel_rfl)
           rw[if_neg c13] at h;replace c13:=eqf c13
           cases h
         rw[if_neg c11] at h;replace c11:=eqf c11
         cases h
       rw[if_neg c7] at h;replace c7:=eqf c7
       cases h
     rw[if_neg c5] at h;replace c5:=eqf c5
     cases h
   rw[if_neg c3] at h;replace c3:=eqf c3
   obtain rfl:=osi h
   exact Tri.of (x:=X58) mixed rR (u3++[dt,dt,dt,dt,dt,aF0]) ([⟨rT⟩,⟨(nT c3)⟩,⟨(nT c3)⟩,⟨(nT c3)⟩,⟨(nT c3)⟩]++w4) (by kernel_rfl)
 rw[if_neg c1] at h;replace c1:=eqf c1
 cases h
end Go.Ws

namespace Go.Ws
open Go.Proofs
set_option linter.unusedSimpArgs false
set_option linter.unusedVariables false
set_option maxRecDepth 1000000
set_option maxHeartbeats 4000000
noncomputable def X35:Ctx:=⟨Tryz.f35,[],false⟩
noncomputable def L35_0:Code:=at_ Tryz.f35 [1,6,1,1,1,0,4,5]
def S35_0 (x1:List Int) (cT:Int) (bI:List (List Int)):St:=⟨mkT 29 [(0,(.sl 1 (List.map aJ x1))),(4,(.ref 1 0 0 0 bI.length .virt)),(5,(.int .i64 cT))],[(.arr 1 (List.map iG bI) 0 0 false)]⟩
def aO6 (v35002_1:Int) (aQ9:List (List Int)):St:=⟨mkT 29 [(4,(.ref 1 0 0 0 aQ9.length .virt)),(5,(.int .i64 v35002_1))],[(.arr 1 (List.map iG aQ9) 0 0 false)]⟩
def O35_0 (x1:List Int) (y:(Int × (List (List Int)))):GX:=.st (.exit 0) (aO6 y.1 y.2)
theorem aD1 (x1:List Int) (y:(Int × (List (List Int)))):∀(k:Nat) (cT:Int) (bI:List (List Int)),jR k x1 cT bI=some y→LT Tryz.prog X35 L35_0 (S35_0 x1 cT bI) (O35_0 x1 y)
 | 0,cT,bI,h=>by cases h
 | k+1,cT,bI,h=>by
  rw[jR] at h
  by_cases cL0:leI cT x1.length=true
  · rw[if_pos cL0] at h
    obtain⟨dH,eL1,h⟩:=bsm h
    let u1:List Ans:=[.n x1.length,.rows (List.map aJ (List.drop (tN cT) x1)),.call ⟨true,[]⟩ (.tup [(.sl 1 (List.map aJ dH.1)),(.int .i64 dH.2.1),(.int .i64 dH.2.2)]) []]
    let w2:List Prf:=[⟨(aN9 k (List.drop (tN cT) x1) _ eL1)⟩,⟨(aKX aJ (l:=x1) (n:=x1.length) rfl (tN cT))⟩,⟨cL0⟩,⟨(aN aJ x1)⟩]
    by_cases cL2:eqI dH.2.2 0=true
    · rw[if_pos cL2] at h
      by_cases cL3:bT (((bI++[dH.1]).length)*24)=true
      · rw[if_pos cL3] at h
        exact LT.next mixed (hs:=⟨[(0,[]),(4,[]),(5,[])],[⟨.tmp 4,[],some 1⟩],false,[],[]⟩) (es:=none) (u1++[dt,.rows (List.map iG [dH.1]),.n ((bI++[dH.1]).length),.n bI.length,dt,.rows (List.map iG (bI++[dH.1])),.n ((bI++[dH.1]).length),.rows (List.map iG (bI++[dH.1]))]) ([⟨(dF iG (l:=(bI++[dH.1])) (n:=((bI++[dH.1]).length)) rfl)⟩,⟨(rfl:(bI++[dH.1]).length=(bI++[dH.1]).length)⟩,⟨(zle ((bI++[dH.1]).length))⟩,⟨(jY iG bI [dH.1])⟩,⟨(i5 bI.length)⟩,⟨(aN iG bI)⟩,⟨cL3⟩,⟨(by simp only[wl,List.length_map,List.map_nil,List.map_cons]<;>omega:bI.length+(List.map iG [dH.1]).length=(bI++[dH.1]).length)⟩,⟨(aX iG (l:=[dH.1]) (n:=1) rfl)⟩,⟨(bP iG (Nat.le_refl 1):0+1≤(List.map iG [dH.1]).length)⟩,⟨cL2⟩]++w2) (by kernel_rfl) (aD1 x1 y k (aH .i64 cT dH.2.1) (bI++[dH.1]) h)
      rw[if_neg cL3] at h;replace cL3:=eqf cL3
      cases h
    rw[if_neg cL2] at h;replace cL2:=eqf cL2
    obtain rfl:=osi h
    show LT _ _ _ _ (.st (.exit 0) (aO6 cT bI))
    exact LT.done mixed (hs:=⟨[],[],false,[],[]⟩) (es:=(some ⟨[(4,[]),(5,[])],[⟨.tmp 4,[],none⟩],false,[],[]⟩)) (u1++[df]) ([⟨cL2⟩]++w2) (by kernel_rfl) (fun s h=>by cases h)
  rw[if_neg cL0] at h;replace cL0:=eqf cL0
  cases h
theorem aR7 (k:Nat) (x1:List Int) (r:Int × (List (List Int))) (h:aCG k x1=some r):Tri Tryz.prog 35 [(.sl 1 (List.map aJ x1))] [] (.tup [(.ref 1 0 0 0 r.2.length .virt),(.int .i64 r.1)]) [(.arr 1 (List.map iG r.2) 0 0 false)]:=by
 unfold aCG at h
 obtain⟨x3,e0,h⟩:=bsm h
 obtain rfl:=osi h
 exact Tri.of (x:=X35) mixed facts35 [.norm 2 ⟨[(0,[]),(4,[]),(5,[])],[⟨.tmp 4,[],some 1⟩],false,[],[]⟩,.n 0,.rows (List.map iG []),.out (.st .normal (aO6 x3.1 x3.2)),.norm 0 ⟨[(2,[]),(3,[])],[⟨.tmp 2,[],none⟩],false,[],[]⟩] [⟨(LT.block (aD1 x1 _ k 0 [] e0))⟩,⟨(dF iG (l:=[]) (n:=0) rfl)⟩,⟨(rfl:0=0)⟩,⟨(zle 0)⟩] (by kernel_rfl)
end Go.Ws

namespace Go.Ws
open Go.Proofs
set_option linter.unusedSimpArgs false
set_option linter.unusedVariables false
set_option maxRecDepth 1000000
set_option maxHeartbeats 4000000
noncomputable def X11:Ctx:=⟨Tryz.f11,[],true⟩
theorem aAP (k:Nat) (x1:List Int) (x2:Int) (x3:Int) (r:(List (List Int)) × Int) (h:mJ k x1 x2 x3=some r):Tri Tryz.prog 11 [(.agg [(.sl 1 (List.map aJ x1)),(.int .i64 x2),(.int .i64 x3)])] [] (.tup [(.sl 1 (List.map iG r.1)),(.int .i64 r.2)]) []:=by
 unfold mJ at h
 obtain⟨x4,e0,h⟩:=bsm h
 obtain rfl:=osi h
 exact Tri.of (x:=X11) mixed facts11 [.call ⟨true,[]⟩ (.tup [(.ref 1 0 0 0 x4.2.length .virt),(.int .i64 x4.1)]) [(.arr 1 (List.map iG x4.2) 0 0 false)],.rows (List.map iG x4.2)] [⟨(aX iG (l:=x4.2) (n:=x4.2.length) rfl)⟩,⟨(bP iG (Nat.le_refl x4.2.length):0+x4.2.length≤(List.map iG x4.2).length)⟩,⟨(aR7 k x1 _ e0)⟩] (by kernel_rfl)
end Go.Ws

namespace Go.Ws
open Go.Proofs
set_option linter.unusedSimpArgs false
set_option linter.unusedVariables false
set_option maxRecDepth 1000000
set_option maxHeartbeats 4000000
noncomputable def X60 (x2:List Int) (x3:Bool):Ctx:=⟨Tryz.f60,[(.row [(.sl 1 (List.map aJ x2)),(.bool x3)])],false⟩
theorem aDD (k:Nat) (x1:Int) (x2:List Int) (x3:Bool) (r:(List Int) × (List Int) × Bool) (h:kD k x1 x2 x3=some r):Tri Tryz.prog 60 [(.hp 0 0),(.int .i64 x1)] [(.row [(.sl 1 (List.map aJ x2)),(.bool x3)])] (.sl 1 (List.map aJ r.1)) [(.row [(.sl 1 (List.map aJ r.2.1)),(.bool r.2.2)])]:=by
 unfold kD at h
 by_cases c0:x3=true
 · rw[if_pos c0] at h
   obtain rfl:=osi h
   exact Tri.of (x:=(X60 x2 x3)) mixed aN0 [dt,dt,dt,dt,dt,dt,dt,dt,dt,.norm 0 ⟨[(4,[(0,1)])],[],false,[],[]⟩] [⟨rT⟩,⟨c0⟩,⟨c0⟩,⟨c0⟩,⟨c0⟩,⟨c0⟩,⟨c0⟩,⟨c0⟩,⟨c0⟩] (by kernel_rfl)
 rw[if_neg c0] at h;replace c0:=eqf c0
 let u1:List Ans:=[df,df,df,df,df,df,.n x2.length,df,df]
 let w2:List Prf:=[⟨c0⟩,⟨c0⟩,⟨(aN aJ x2)⟩,⟨c0⟩,⟨c0⟩,⟨c0⟩,⟨c0⟩,⟨c0⟩,⟨c0⟩]
 by_cases c1:ltI (nI x2.length) x1=true
 · rw[if_pos c1] at h
   obtain rfl:=osi h
   exact Tri.of (x:=(X60 x2 x3)) mixed aN0 (u1++[dt,.norm 0 ⟨[(4,[(0,1)])],[],false,[],[]⟩]) ([⟨c1⟩]++w2) (by kernel_rfl)
 rw[if_neg c1] at h;replace c1:=eqf c1
 by_cases c2:leI x1 x2.length=true
 · rw[if_pos c2] at h
   obtain rfl:=osi h
   exact Tri.of (x:=(X60 x2 x3)) mixed aN0 (u1++[df,.n x2.length,.rows (List.map aJ (List.take (tN x1) x2)),.n x2.length,.rows (List.map aJ (List.drop (tN x1) x2)),.norm 0 ⟨[(4,[])],[],false,[],[]⟩]) ([⟨(aKX aJ (l:=x2) (n:=x2.length) rfl (tN x1))⟩,⟨c2⟩,⟨(aN aJ x2)⟩,⟨(aF4 aJ x2 (tN x1))⟩,⟨c2⟩,⟨(aN aJ x2)⟩,⟨c1⟩]++w2) (by kernel_rfl)
 rw[if_neg c2] at h;replace c2:=eqf c2
 cases h
end Go.Ws

namespace Go.Ws
open Go.Proofs
set_option linter.unusedSimpArgs false
set_option linter.unusedVariables false
set_option maxRecDepth 1000000
set_option maxHeartbeats 4000000
noncomputable def X59 (x2:List Int) (x3:Bool):Ctx:=⟨Tryz.f59,[(.row [(.sl 1 (List.map aJ x2)),(.bool x3)])],false⟩
noncomputable def L59_0:Code:=at_ Tryz.f59 [1,1,0,1,4,5]
def S59_0 (x4:(List Int) × (List Int) × Bool) (eT:Int) (dI:Int):St:=⟨mkT 23 [(5,(.int .u64 eT)),(10,(.sl 1 (List.map aJ x4.1))),(11,(.int .i64 (nI x4.1.length))),(12,(.int .i64 dI))],[(.row [(.sl 1 (List.map aJ x4.2.1)),(.bool x4.2.2)])]⟩
def aO3 (x4:(List Int) × (List Int) × Bool) (v59002_1:Int):St:=⟨mkT 23 [(5,(.int .u64 v59002_1))],[(.row [(.sl 1 (List.map aJ x4.2.1)),(.bool x4.2.2)])]⟩
def O59_0 (x2:List Int) (x3:Bool) (x4:(List Int) × (List Int) × Bool) (y:(Int)):GX:=.st (.exit 0) (aO3 x4 y)
theorem qA (x2:List Int) (x3:Bool) (x4:(List Int) × (List Int) × Bool) (y:(Int)):∀(k:Nat) (eT:Int) (dI:Int),cF k x2 x3 x4 eT dI=some y→LT Tryz.prog (X59 x2 x3) L59_0 (S59_0 x4 eT dI) (O59_0 x2 x3 x4 y)
 | 0,eT,dI,h=>by cases h
 | k+1,eT,dI,h=>by
  rw[cF] at h
  by_cases cL0:ltI dI (nI x4.1.length)=true
  · rw[if_pos cL0] at h
    by_cases cL1:inI dI x4.1.length=true
    · rw[if_pos cL1] at h
      obtain⟨zH,eL2,h⟩:=bsm h
      exact LT.next mixed (hs:=⟨[(5,[]),(10,[]),(11,[]),(12,[])],[],false,[],[]⟩) (es:=none) [dt,.n x4.1.length,.row [(.int .u8 zH)]] [⟨(bX (e:=aJ) eL2 1 0 1 (by decide))⟩,⟨cL1⟩,⟨(aN aJ x4.1)⟩,⟨cL0⟩] (by kernel_rfl) (qA x2 x3 x4 y k (ior .u64 (gL .u64 eT 8) (conv .u64 zH)) (aH .i64 dI 1) h)
    rw[if_neg cL1] at h;replace cL1:=eqf cL1
    cases h
  rw[if_neg cL0] at h;replace cL0:=eqf cL0
  obtain rfl:=osi h
  show LT _ _ _ _ (.st (.exit 0) (aO3 x4 eT))
  exact LT.done mixed (hs:=⟨[],[],false,[],[]⟩) (es:=(some ⟨[(5,[])],[],false,[],[]⟩)) [df] [⟨cL0⟩] (by kernel_rfl) (fun s h=>by cases h)
theorem kO (k:Nat) (x1:Int) (x2:List Int) (x3:Bool) (r:Int × (List Int) × Bool) (h:fB k x1 x2 x3=some r):Tri Tryz.prog 59 [(.hp 0 0),(.int .i64 x1)] [(.row [(.sl 1 (List.map aJ x2)),(.bool x3)])] (.int .u64 r.1) [(.row [(.sl 1 (List.map aJ r.2.1)),(.bool r.2.2)])]:=by
 unfold fB at h
 obtain⟨x4,e0,h⟩:=bsm h
 obtain⟨x6,e1,h⟩:=bsm h
 obtain rfl:=osi h
 exact Tri.of (x:=(X59 x2 x3)) mixed facts59 [.call ⟨true,[]⟩ (.sl 1 (List.map aJ x4.1)) [(.row [(.sl 1 (List.map aJ x4.2.1)),(.bool x4.2.2)])],.n x4.1.length,.norm 2 ⟨[(5,[]),(10,[]),(11,[]),(12,[])],[],false,[],[]⟩,.out (.st .normal (aO3 x4 x6)),.norm 0 ⟨[(4,[])],[],false,[],[]⟩] [⟨(LT.block (qA x2 x3 x4 _ k 0 0 e1))⟩,⟨(aN aJ x4.1)⟩,⟨(aDD k x1 x2 x3 _ e0)⟩] (by kernel_rfl)
end Go.Ws

namespace Go.Ws
open Go.Proofs
set_option linter.unusedSimpArgs false
set_option linter.unusedVariables false
set_option maxRecDepth 1000000
set_option maxHeartbeats 4000000
noncomputable def X36:Ctx:=⟨Tryz.f36,[],true⟩
noncomputable def L36_4:Code:=at_ Tryz.f36 [1,1,1,1,1,0,1,4,5]
def S36_4 (x1:List Int) (aI:Int × (List Int) × Bool) (aK:Int × (List Int) × Bool) (aO:Int × (List Int) × Bool) (bB:Int × (List Int) × Bool):St:=⟨mkT 70 [(0,(.str (ByteArray.mk #[97,98,97,100]))),(1,(.sl 1 (List.map aJ x1))),(6,(.hp 0 0)),(7,(.fn 1000059 [(.hp 0 0)])),(8,(.ref 2 1 0 0 4 .virt)),(21,(.int .i64 4)),(22,(.int .i64 4))],[(.row [(.sl 1 (List.map aJ bB.2.1)),(.bool bB.2.2)]),(.arr 2 (List.map aS [(aI.1,(ByteArray.mk #[])),(aK.1,(ByteArray.mk #[])),(aO.1,(ByteArray.mk #[])),(bB.1,(ByteArray.mk #[]))]) 0 0 false)]⟩
def aTM (x1:List Int) (aI:Int × (List Int) × Bool) (aK:Int × (List Int) × Bool) (aO:Int × (List Int) × Bool) (bB:Int × (List Int) × Bool):St:=⟨mkT 70 [(1,(.sl 1 (List.map aJ x1))),(6,(.hp 0 0)),(8,(.ref 2 1 0 0 4 .virt))],[(.row [(.sl 1 (List.map aJ bB.2.1)),(.bool bB.2.2)]),(.arr 2 (List.map aS [(aI.1,(ByteArray.mk #[])),(aK.1,(ByteArray.mk #[])),(aO.1,(ByteArray.mk #[])),(bB.1,(ByteArray.mk #[]))]) 0 0 false)]⟩
def O36_4 (x1:List Int) (aI:Int × (List Int) × Bool) (aK:Int × (List Int) × Bool) (aO:Int × (List Int) × Bool) (bB:Int × (List Int) × Bool) (y:(Unit)):GX:=.st (.exit 0) (aTM x1 aI aK aO bB)
noncomputable def L36_3:Code:=at_ Tryz.f36 [1,1,1,1,1,0,1,4,5]
def S36_3 (x1:List Int) (aI:Int × (List Int) × Bool) (aK:Int × (List Int) × Bool) (aO:Int × (List Int) × Bool):St:=⟨mkT 70 [(0,(.str (ByteArray.mk #[97,98,97,100]))),(1,(.sl 1 (List.map aJ x1))),(6,(.hp 0 0)),(7,(.fn 1000059 [(.hp 0 0)])),(8,(.ref 2 1 0 0 3 .virt)),(21,(.int .i64 4)),(22,(.int .i64 3))],[(.row [(.sl 1 (List.map aJ aO.2.1)),(.bool aO.2.2)]),(.arr 2 (List.map aS [(aI.1,(ByteArray.mk #[])),(aK.1,(ByteArray.mk #[])),(aO.1,(ByteArray.mk #[]))]) 0 0 false)]⟩
def aTF (x1:List Int) (v36032_1:List Int) (v36032_2:Bool) (aRA:List g7):St:=⟨mkT 70 [(1,(.sl 1 (List.map aJ x1))),(6,(.hp 0 0)),(8,(.ref 2 1 0 0 aRA.length .virt))],[(.row [(.sl 1 (List.map aJ v36032_1)),(.bool v36032_2)]),(.arr 2 (List.map aS aRA) 0 0 false)]⟩
def O36_3 (x1:List Int) (aI:Int × (List Int) × Bool) (aK:Int × (List Int) × Bool) (aO:Int × (List Int) × Bool) (y:((List Int) × Bool × (List g7))):GX:=.st (.exit 0) (aTF x1 y.1 y.2.1 y.2.2)
noncomputable def L36_2:Code:=at_ Tryz.f36 [1,1,1,1,1,0,1,4,5]
def S36_2 (x1:List Int) (aI:Int × (List Int) × Bool) (aK:Int × (List Int) × Bool):St:=⟨mkT 70 [(0,(.str (ByteArray.mk #[97,98,97,100]))),(1,(.sl 1 (List.map aJ x1))),(6,(.hp 0 0)),(7,(.fn 1000059 [(.hp 0 0)])),(8,(.ref 2 1 0 0 2 .virt)),(21,(.int .i64 4)),(22,(.int .i64 2))],[(.row [(.sl 1 (List.map aJ aK.2.1)),(.bool aK.2.2)]),(.arr 2 (List.map aS [(aI.1,(ByteArray.mk #[])),(aK.1,(ByteArray.mk #[]))]) 0 0 false)]⟩
def aUB (x1:List Int) (v36022_1:List Int) (v36022_2:Bool) (aRB:List g7):St:=⟨mkT 70 [(1,(.sl 1 (List.map aJ x1))),(6,(.hp 0 0)),(8,(.ref 2 1 0 0 aRB.length .virt))],[(.row [(.sl 1 (List.map aJ v36022_1)),(.bool v36022_2)]),(.arr 2 (List.map aS aRB) 0 0 false)]⟩
def O36_2 (x1:List Int) (aI:Int × (List Int) × Bool) (aK:Int × (List Int) × Bool) (y:((List Int) × Bool × (List g7))):GX:=.st (.exit 0) (aUB x1 y.1 y.2.1 y.2.2)
noncomputable def L36_1:Code:=at_ Tryz.f36 [1,1,1,1,1,0,1,4,5]
def S36_1 (x1:List Int) (aI:Int × (List Int) × Bool):St:=⟨mkT 70 [(0,(.str (ByteArray.mk #[97,98,97,100]))),(1,(.sl 1 (List.map aJ x1))),(6,(.hp 0 0)),(7,(.fn 1000059 [(.hp 0 0)])),(8,(.ref 2 1 0 0 1 .virt)),(21,(.int .i64 4)),(22,(.int .i64 1))],[(.row [(.sl 1 (List.map aJ aI.2.1)),(.bool aI.2.2)]),(.arr 2 (List.map aS [(aI.1,(ByteArray.mk #[]))]) 0 0 false)]⟩
def aSU (x1:List Int) (v36012_1:List Int) (v36012_2:Bool) (aRC:List g7):St:=⟨mkT 70 [(1,(.sl 1 (List.map aJ x1))),(6,(.hp 0 0)),(8,(.ref 2 1 0 0 aRC.length .virt))],[(.row [(.sl 1 (List.map aJ v36012_1)),(.bool v36012_2)]),(.arr 2 (List.map aS aRC) 0 0 false)]⟩
def O36_1 (x1:List Int) (aI:Int × (List Int) × Bool) (y:((List Int) × Bool × (List g7))):GX:=.st (.exit 0) (aSU x1 y.1 y.2.1 y.2.2)
noncomputable def L36_0:Code:=at_ Tryz.f36 [1,1,1,1,1,0,1,4,5]
def S36_0 (x1:List Int):St:=⟨mkT 70 [(0,(.str (ByteArray.mk #[97,98,97,100]))),(1,(.sl 1 (List.map aJ x1))),(6,(.hp 0 0)),(7,(.fn 1000059 [(.hp 0 0)])),(8,.nils),(21,(.int .i64 4)),(22,(.int .i64 0))],[(.row [(.sl 1 (List.map aJ x1)),(.bool false)])]⟩
def aOO (x1:List Int) (v36002_1:List Int) (v36002_2:Bool) (aRD:List g7):St:=⟨mkT 70 [(1,(.sl 1 (List.map aJ x1))),(6,(.hp 0 0)),(8,(.ref 2 1 0 0 aRD.length .virt))],[(.row [(.sl 1 (List.map aJ v36002_1)),(.bool v36002_2)]),(.arr 2 (List.map aS aRD) 0 0 false)]⟩
def O36_0 (x1:List Int) (y:((List Int) × Bool × (List g7))):GX:=.st (.exit 0) (aOO x1 y.1 y.2.1 y.2.2)
def A36_0:Ans:=.norm 0 ⟨[(4,[(0,2)]),(5,[])],[],false,[],[]⟩
theorem aGM (x1:List Int) (aI:Int × (List Int) × Bool) (aK:Int × (List Int) × Bool) (aO:Int × (List Int) × Bool) (bB:Int × (List Int) × Bool) (y:(Unit)):∀(k:Nat),gF k x1 aI aK aO bB=some y→LT Tryz.prog X36 L36_4 (S36_4 x1 aI aK aO bB) (O36_4 x1 aI aK aO bB y)
 | 0,h=>by cases h
 | k+1,h=>by
  rw[gF] at h
  obtain rfl:=osi h
  show LT _ _ _ _ (.st (.exit 0) (aTM x1 aI aK aO bB))
  exact LT.done mixed (hs:=⟨[],[],false,[],[]⟩) (es:=(some ⟨[(1,[]),(6,[]),(8,[])],[⟨.tmp 6,[],none⟩,⟨.tmp 8,[],none⟩],false,[],[]⟩)) [df] [⟨(rfl:ltI 4 4=false)⟩] (by kernel_rfl) (fun s h=>by cases h)
theorem aF6 (x1:List Int) (aI:Int × (List Int) × Bool) (aK:Int × (List Int) × Bool) (aO:Int × (List Int) × Bool) (y:((List Int) × Bool × (List g7))):∀(k:Nat),fY k x1 aI aK aO=some y→LT Tryz.prog X36 L36_3 (S36_3 x1 aI aK aO) (O36_3 x1 aI aK aO y)
 | 0,h=>by cases h
 | k+1,h=>by
  rw[fY] at h
  obtain⟨bB,eL0,h⟩:=bsm h
  obtain⟨aQ8,eL1,h⟩:=bsm h
  obtain rfl:=osi h
  show LT _ _ _ _ (.st (.exit 0) (aTF x1 bB.2.1 bB.2.2 [(aI.1,(ByteArray.mk #[])),(aK.1,(ByteArray.mk #[])),(aO.1,(ByteArray.mk #[])),(bB.1,(ByteArray.mk #[]))]))
  exact LT.next mixed (hs:=⟨[(0,[]),(1,[]),(6,[]),(7,[]),(8,[]),(21,[]),(22,[])],[⟨.tmp 6,[],none⟩,⟨.tmp 8,[],none⟩],false,[],[]⟩) (es:=none) [dt,.call ⟨true,[]⟩ (.int .i64 8) [],dt,.call ⟨true,[]⟩ (.int .u64 bB.1) [(.row [(.sl 1 (List.map aJ bB.2.1)),(.bool bB.2.2)])],.rows (List.map aS [(bB.1,(ByteArray.mk #[]))]),.n 4,.n 3,dt,.rows (List.map aS [(aI.1,(ByteArray.mk #[])),(aK.1,(ByteArray.mk #[])),(aO.1,(ByteArray.mk #[])),(bB.1,(ByteArray.mk #[]))])] [⟨(by simp:(List.map aS [(aI.1,(ByteArray.mk #[])),(aK.1,(ByteArray.mk #[])),(aO.1,(ByteArray.mk #[]))])++(List.map aS [(bB.1,(ByteArray.mk #[]))])=(List.map aS [(aI.1,(ByteArray.mk #[])),(aK.1,(ByteArray.mk #[])),(aO.1,(ByteArray.mk #[])),(bB.1,(ByteArray.mk #[]))]))⟩,⟨(rfl:eqN 3 3=true)⟩,⟨(rfl:(List.map aS [(aI.1,(ByteArray.mk #[])),(aK.1,(ByteArray.mk #[])),(aO.1,(ByteArray.mk #[]))]).length=3)⟩,⟨(rfl:bT (4*24)=true)⟩,⟨(rfl:3+(List.map aS [(bB.1,(ByteArray.mk #[]))]).length=4)⟩,⟨(aX aS (l:=[(bB.1,(ByteArray.mk #[]))]) (n:=1) rfl)⟩,⟨(bP aS (Nat.le_refl 1):0+1≤(List.map aS [(bB.1,(ByteArray.mk #[]))]).length)⟩,⟨(kO k 8 aO.2.1 aO.2.2 _ eL0)⟩,⟨(rfl:ltI 0 8=true)⟩,⟨(aAM)⟩,⟨(rfl:ltI 3 4=true)⟩] (by kernel_rfl) (aGM x1 aI aK aO bB _ k eL1)
theorem aGL (x1:List Int) (aI:Int × (List Int) × Bool) (aK:Int × (List Int) × Bool) (y:((List Int) × Bool × (List g7))):∀(k:Nat),fZ k x1 aI aK=some y→LT Tryz.prog X36 L36_2 (S36_2 x1 aI aK) (O36_2 x1 aI aK y)
 | 0,h=>by cases h
 | k+1,h=>by
  rw[fZ] at h
  obtain⟨aO,eL0,h⟩:=bsm h
  obtain⟨oQ,eL1,h⟩:=bsm h
  obtain rfl:=osi h
  show LT _ _ _ _ (.st (.exit 0) (aUB x1 oQ.1 oQ.2.1 oQ.2.2))
  exact LT.next mixed (hs:=⟨[(0,[]),(1,[]),(6,[]),(7,[]),(8,[]),(21,[]),(22,[])],[⟨.tmp 6,[],none⟩,⟨.tmp 8,[],none⟩],false,[],[]⟩) (es:=none) [dt,.call ⟨true,[]⟩ (.int .i64 1) [],dt,.call ⟨true,[]⟩ (.int .u64 aO.1) [(.row [(.sl 1 (List.map aJ aO.2.1)),(.bool aO.2.2)])],.rows (List.map aS [(aO.1,(ByteArray.mk #[]))]),.n 3,.n 2,dt,.rows (List.map aS [(aI.1,(ByteArray.mk #[])),(aK.1,(ByteArray.mk #[])),(aO.1,(ByteArray.mk #[]))])] [⟨(by simp:(List.map aS [(aI.1,(ByteArray.mk #[])),(aK.1,(ByteArray.mk #[]))])++(List.map aS [(aO.1,(ByteArray.mk #[]))])=(List.map aS [(aI.1,(ByteArray.mk #[])),(aK.1,(ByteArray.mk #[])),(aO.1,(ByteArray.mk #[]))]))⟩,⟨(rfl:eqN 2 2=true)⟩,⟨(rfl:(List.map aS [(aI.1,(ByteArray.mk #[])),(aK.1,(ByteArray.mk #[]))]).length=2)⟩,⟨(rfl:bT (3*24)=true)⟩,⟨(rfl:2+(List.map aS [(aO.1,(ByteArray.mk #[]))]).length=3)⟩,⟨(aX aS (l:=[(aO.1,(ByteArray.mk #[]))]) (n:=1) rfl)⟩,⟨(bP aS (Nat.le_refl 1):0+1≤(List.map aS [(aO.1,(ByteArray.mk #[]))]).length)⟩,⟨(kO k 1 aK.2.1 aK.2.2 _ eL0)⟩,⟨(rfl:ltI 0 1=true)⟩,⟨(uG)⟩,⟨(rfl:ltI 2 4=true)⟩] (by kernel_rfl) (aF6 x1 aI aK aO _ k eL1)
theorem aFT (x1:List Int) (aI:Int × (List Int) × Bool) (y:((List Int) × Bool × (List g7))):∀(k:Nat),fU k x1 aI=some y→LT Tryz.prog X36 L36_1 (S36_1 x1 aI) (O36_1 x1 aI y)
 | 0,h=>by cases h
 | k+1,h=>by
  rw[fU] at h
  obtain⟨aK,eL0,h⟩:=bsm h
  obtain⟨oR,eL1,h⟩:=bsm h
  obtain rfl:=osi h
  show LT _ _ _ _ (.st (.exit 0) (aSU x1 oR.1 oR.2.1 oR.2.2))
  exact LT.next mixed (hs:=⟨[(0,[]),(1,[]),(6,[]),(7,[]),(8,[]),(21,[]),(22,[])],[⟨.tmp 6,[],none⟩,⟨.tmp 8,[],none⟩],false,[],[]⟩) (es:=none) [dt,.call ⟨true,[]⟩ (.int .i64 2) [],dt,.call ⟨true,[]⟩ (.int .u64 aK.1) [(.row [(.sl 1 (List.map aJ aK.2.1)),(.bool aK.2.2)])],.rows (List.map aS [(aK.1,(ByteArray.mk #[]))]),.n 2,.n 1,dt,.rows (List.map aS [(aI.1,(ByteArray.mk #[])),(aK.1,(ByteArray.mk #[]))])] [⟨(by simp:(List.map aS [(aI.1,(ByteArray.mk #[]))])++(List.map aS [(aK.1,(ByteArray.mk #[]))])=(List.map aS [(aI.1,(ByteArray.mk #[])),(aK.1,(ByteArray.mk #[]))]))⟩,⟨(rfl:eqN 1 1=true)⟩,⟨(rfl:(List.map aS [(aI.1,(ByteArray.mk #[]))]).length=1)⟩,⟨(rfl:bT (2*24)=true)⟩,⟨(rfl:1+(List.map aS [(aK.1,(ByteArray.mk #[]))]).length=2)⟩,⟨(aX aS (l:=[(aK.1,(ByteArray.mk #[]))]) (n:=1) rfl)⟩,⟨(bP aS (Nat.le_refl 1):0+1≤(List.map aS [(aK.1,(ByteArray.mk #[]))]).length)⟩,⟨(kO k 2 aI.2.1 aI.2.2 _ eL0)⟩,⟨(rfl:ltI 0 2=true)⟩,⟨(aAJ)⟩,⟨(rfl:ltI 1 4=true)⟩] (by kernel_rfl) (aGL x1 aI aK _ k eL1)
theorem aGU (x1:List Int) (y:((List Int) × Bool × (List g7))):∀(k:Nat),gA k x1=some y→LT Tryz.prog X36 L36_0 (S36_0 x1) (O36_0 x1 y)
 | 0,h=>by cases h
 | k+1,h=>by
  rw[gA] at h
  obtain⟨aI,eL0,h⟩:=bsm h
  obtain⟨oS,eL1,h⟩:=bsm h
  obtain rfl:=osi h
  show LT _ _ _ _ (.st (.exit 0) (aOO x1 oS.1 oS.2.1 oS.2.2))
  exact LT.next mixed (hs:=⟨[(0,[]),(1,[]),(6,[]),(7,[]),(8,[]),(21,[]),(22,[])],[⟨.tmp 6,[],none⟩,⟨.tmp 8,[],none⟩],false,[],[]⟩) (es:=none) [dt,.call ⟨true,[]⟩ (.int .i64 1) [],dt,.call ⟨true,[]⟩ (.int .u64 aI.1) [(.row [(.sl 1 (List.map aJ aI.2.1)),(.bool aI.2.2)])],.rows (List.map aS [(aI.1,(ByteArray.mk #[]))]),.n 1] [⟨(rfl:bT (1*24)=true)⟩,⟨(rfl:(List.map aS [(aI.1,(ByteArray.mk #[]))]).length=1)⟩,⟨(aX aS (l:=[(aI.1,(ByteArray.mk #[]))]) (n:=1) rfl)⟩,⟨(bP aS (Nat.le_refl 1):0+1≤(List.map aS [(aI.1,(ByteArray.mk #[]))]).length)⟩,⟨(kO k 1 x1 false _ eL0)⟩,⟨(rfl:ltI 0 1=true)⟩,⟨(uG)⟩,⟨(rfl:ltI 0 4=true)⟩] (by kernel_rfl) (aFT x1 aI _ k eL1)
theorem aBL (k:Nat) (x1:List Int) (r:(List g7) × Int) (h:rA k x1=some r):Tri Tryz.prog 36 [(.str (ByteArray.mk #[97,98,97,100])),(.sl 1 (List.map aJ x1))] [] (.tup [(.sl 2 (List.map aS r.1)),(.int .i64 r.2)]) []:=by
 unfold rA at h
 obtain⟨x3,e0,h⟩:=bsm h
 let u1:List Ans:=[.call ⟨true,[]⟩ (.bool (eqS (ByteArray.mk #[]) (ByteArray.mk #[]))) [],df,.norm 2 ⟨[(0,[]),(1,[]),(6,[]),(7,[]),(8,[]),(21,[]),(22,[])],[⟨.tmp 6,[],none⟩],false,[],[]⟩,.out (.st .normal (aOO x1 x3.1 x3.2.1 x3.2.2))]
 let w2:List Prf:=[⟨(LT.block (aGU x1 _ k e0))⟩,⟨(nF (wM (ByteArray.mk #[])))⟩,⟨(aBN)⟩]
 by_cases c2:x3.2.1=true
 · rw[if_pos c2] at h
   obtain rfl:=osi h
   exact Tri.of (x:=X36) mixed aIU (u1++[dt,dt,dt,dt,dt,dt,dt,dt,dt,dt,dt,dt,A36_0]) ([⟨rT⟩,⟨rT⟩,⟨rT⟩,⟨rT⟩,⟨rT⟩,⟨c2⟩,⟨c2⟩,⟨c2⟩,⟨c2⟩,⟨c2⟩,⟨c2⟩,⟨c2⟩]++w2) (by kernel_rfl)
 rw[if_neg c2] at h;replace c2:=eqf c2
 let u3:List Ans:=u1++[df,df,df,df,df,.n x3.1.length,df,df]
 let w4:List Prf:=[⟨c2⟩,⟨c2⟩,⟨(aN aJ x3.1)⟩,⟨c2⟩,⟨c2⟩,⟨c2⟩,⟨c2⟩,⟨c2⟩]++w2
 by_cases c3:ltI 0 (nI x3.1.length)=true
 · rw[if_pos c3] at h
   obtain rfl:=osi h
   exact Tri.of (x:=X36) mixed aIU (u3++[dt,dt,dt,dt,dt,A36_0]) ([⟨rT⟩,⟨c3⟩,⟨c3⟩,⟨c3⟩,⟨c3⟩]++w4) (by kernel_rfl)
 rw[if_neg c3] at h;replace c3:=eqf c3
 let w6:List Prf:=[⟨c3⟩,⟨c3⟩,⟨(aN aJ x1)⟩,⟨c3⟩,⟨c3⟩]++w4
 by_cases c4:ltI 4000 (nI x1.length)=true
 · rw[if_pos c4] at h
   obtain rfl:=osi h
   exact Tri.of (x:=X36) mixed aIU (u3++[df,df,.n x1.length,df,df,dt,A36_0]) ([⟨c4⟩]++w6) (by kernel_rfl)
 rw[if_neg c4] at h;replace c4:=eqf c4
 obtain rfl:=osi h
 exact Tri.of (x:=X36) mixed aIU (u3++[df,df,.n x1.length,df,df,df,.rows (List.map aS x3.2.2)]) ([⟨(aX aS (l:=x3.2.2) (n:=x3.2.2.length) rfl)⟩,⟨(bP aS (Nat.le_refl x3.2.2.length):0+x3.2.2.length≤(List.map aS x3.2.2).length)⟩,⟨c4⟩]++w6) (by kernel_rfl)
end Go.Ws

namespace Go.Ws
open Go.Proofs
set_option linter.unusedSimpArgs false
set_option linter.unusedVariables false
set_option maxRecDepth 1000000
set_option maxHeartbeats 4000000
noncomputable def X37:Ctx:=⟨Tryz.f37,[],true⟩
theorem aJU (x1:Int):Tri Tryz.prog 37 [(.int .u64 x1)] [] (.int .i64 (kZ x1)) []:=by
 obtain⟨r,h⟩:∃r,kZ x1=r:=⟨_,rfl⟩
 try rw[h]
 unfold kZ at h
 obtain rfl:=h
 exact Tri.of (x:=X37) mixed facts37 [] [] (by kernel_rfl)
end Go.Ws

namespace Go.Ws
open Go.Proofs
set_option linter.unusedSimpArgs false
set_option linter.unusedVariables false
set_option maxRecDepth 1000000
set_option maxHeartbeats 4000000
noncomputable def X13:Ctx:=⟨Tryz.f13,[],true⟩
theorem aD2 (k:Nat) (x1:List Int) (r:Int × Int × Int × Int × Int) (h:qM k x1=some r):Tri Tryz.prog 13 [(.sl 1 (List.map aJ x1))] [] (.tup [(.agg [(.int .i64 r.1),(.int .i64 r.2.1),(.int .u8 r.2.2.1),(.int .i64 r.2.2.2.1)]),(.int .i64 r.2.2.2.2)]) []:=by
 unfold qM at h
 obtain⟨x2,e0,h⟩:=bsm h
 by_cases c1:eqI x2.2 0=true
 · rw[if_pos c1] at h
   let u3:List Ans:=[.call ⟨true,[]⟩ (.tup [(.sl 2 (List.map aS x2.1)),(.int .i64 x2.2)]) [],df,df,.n x2.1.length,df,df]
   let w4:List Prf:=[⟨(nF c1)⟩,⟨(nF c1)⟩,⟨(aN aS x2.1)⟩,⟨(nF c1)⟩,⟨(nF c1)⟩,⟨(aBL k x1 _ e0)⟩]
   by_cases c2:eqI (nI x2.1.length) 4=true
   · rw[if_pos c2] at h
     by_cases c3:inI 0 x2.1.length=true
     · rw[if_pos c3] at h
       obtain⟨x3,e4,h⟩:=bsm h
       by_cases c5:inI 1 x2.1.length=true
       · rw[if_pos c5] at h
         obtain⟨x4,e6,h⟩:=bsm h
         by_cases c7:inI 2 x2.1.length=true
         · rw[if_pos c7] at h
           obtain⟨x5,e8,h⟩:=bsm h
           by_cases c9:inI 3 x2.1.length=true
           · rw[if_pos c9] at h
             obtain⟨x6,e10,h⟩:=bsm h
             obtain rfl:=osi h
             exact Tri.of (x:=X13) mixed aOL (u3++[df,.n x2.1.length,.row [(.int .u64 x3.1)],.n x2.1.length,.row [(.int .u64 x4.1)],.n x2.1.length,.row [(.int .u64 x5.1)],.n x2.1.length,.row [(.int .u64 x6.1)],.call ⟨true,[]⟩ (.int .i64 (kZ x6.1)) []]) ([⟨(aJU x6.1)⟩,⟨(bX (e:=aS) e10 2 0 1 (by decide))⟩,⟨c9⟩,⟨(aN aS x2.1)⟩,⟨(bX (e:=aS) e8 2 0 1 (by decide))⟩,⟨c7⟩,⟨(aN aS x2.1)⟩,⟨(bX (e:=aS) e6 2 0 1 (by decide))⟩,⟨c5⟩,⟨(aN aS x2.1)⟩,⟨(bX (e:=aS) e4 2 0 1 (by decide))⟩,⟨c3⟩,⟨(aN aS x2.1)⟩,⟨(nF c2)⟩]++w4) (by kernel_rfl)
           rw[if_neg c9] at h;replace c9:=eqf c9
           cases h
         rw[if_neg c7] at h;replace c7:=eqf c7
         cases h
       rw[if_neg c5] at h;replace c5:=eqf c5
       cases h
     rw[if_neg c3] at h;replace c3:=eqf c3
     cases h
   rw[if_neg c2] at h;replace c2:=eqf c2
   obtain rfl:=osi h
   exact Tri.of (x:=X13) mixed aOL (u3++[dt]) ([⟨(nT c2)⟩]++w4) (by kernel_rfl)
 rw[if_neg c1] at h;replace c1:=eqf c1
 obtain rfl:=osi h
 exact Tri.of (x:=X13) mixed aOL [.call ⟨true,[]⟩ (.tup [(.sl 2 (List.map aS x2.1)),(.int .i64 x2.2)]) [],dt,dt,dt,dt,dt] [⟨rT⟩,⟨(nT c1)⟩,⟨(nT c1)⟩,⟨(nT c1)⟩,⟨(nT c1)⟩,⟨(aBL k x1 _ e0)⟩] (by kernel_rfl)
end Go.Ws

namespace Go.Ws
open Go.Proofs
set_option linter.unusedSimpArgs false
set_option linter.unusedVariables false
set_option maxRecDepth 1000000
set_option maxHeartbeats 4000000
noncomputable def X6:Ctx:=⟨Tryz.f6,[],false⟩
theorem aB5:Tri Tryz.prog 6 [] [] (.hp 0 0) [(.row [.nils,.nils,(.mp 1),.nils]),(.map (dR .i64 (fun y=>AV.agg (aD y)) ([]:Ty4)) ([]:Ty4).length)]:=by
 obtain⟨r,h⟩:∃r,aJV=r:=⟨_,rfl⟩
 try rw[h]
 unfold aJV at h
 obtain rfl:=h
 exact Tri.of (x:=X6) mixed facts6 [.norm 0 ⟨[(0,[])],[⟨.tmp 0,[],none⟩,⟨.cell 0 2,[],none⟩],false,[],[]⟩] [] (by kernel_rfl)
end Go.Ws

namespace Go.Ws
open Go.Proofs
set_option linter.unusedSimpArgs false
set_option linter.unusedVariables false
set_option maxRecDepth 1000000
set_option maxHeartbeats 4000000
noncomputable def X5:Ctx:=⟨Tryz.f5,[],true⟩
theorem zV (k:Nat) (r:Bool) (h:rE k=some r):Tri Tryz.prog 5 [] [] (.bool r) []:=by
 unfold rE at h
 obtain⟨x1,e0,h⟩:=bsm h
 obtain⟨x2,e1,h⟩:=bsm h
 obtain⟨x3,e2,h⟩:=bsm h
 obtain⟨x4,e3,h⟩:=bsm h
 obtain⟨x5,e4,h⟩:=bsm h
 let u1:List Ans:=[.call ⟨true,[]⟩ (.tup [(.sl 1 (List.map aJ x1.1)),(.int .i64 x1.2)]) [],.call ⟨true,[[(0,1)]]⟩ (.tup [(.agg [(.sl 1 (List.map aJ x2.1)),(.int .i64 x2.2.1),(.int .i64 x2.2.2.1)]),(.int .i64 x2.2.2.2)]) [],.call ⟨true,[]⟩ (.agg [(.sl 1 (List.map aJ x3.1)),(.int .i64 x3.2.1),(.int .i64 x3.2.2)]) [],.call ⟨true,[]⟩ (.agg [(.sl 1 (List.map aJ x4.1)),(.int .i64 x4.2.1),(.int .i64 x4.2.2)]) [],.call ⟨true,[]⟩ (.tup [(.sl 1 (List.map iG x5.1)),(.int .i64 x5.2)]) []]
 let w2:List Prf:=[⟨(aAP k x4.1 x4.2.1 x4.2.2 _ e4)⟩,⟨(aD6 k x3.1 x3.2.1 x3.2.2 0 _ e3)⟩,⟨(rV k x2.1 x2.2.1 x2.2.2.1 _ e2)⟩,⟨(rZ k [] 0 1000 x1.1 _ e1)⟩,⟨(vV k 3 300 3 (-5) _ e0)⟩]
 by_cases c5:eqI x1.2 0=true
 · rw[if_pos c5] at h
   let w4:List Prf:=[⟨(nF c5)⟩,⟨(nF c5)⟩,⟨(nF c5)⟩]++w2
   by_cases c6:eqI x2.2.2.2 0=true
   · rw[if_pos c6] at h
     let u5:List Ans:=u1++[df,df,df,df,df,.n x5.1.length,df,df]
     let w6:List Prf:=[⟨(nF c6)⟩,⟨(nF c6)⟩,⟨(aN iG x5.1)⟩,⟨(nF c6)⟩,⟨(nF c6)⟩]++w4
     by_cases c7:eqI (nI x5.1.length) 1=true
     · rw[if_pos c7] at h
       by_cases c8:inI 0 x5.1.length=true
       · rw[if_pos c8] at h
         obtain⟨x6,e9,h⟩:=bsm h
         obtain⟨x7,e10,h⟩:=bsm h
         let u7:List Ans:=u5++[df,.n x5.1.length,.row [(.sl 1 (List.map aJ x6))],.call ⟨true,[]⟩ (.tup [(.agg [(.int .i64 x7.1),(.int .i64 x7.2.1),(.int .u8 x7.2.2.1),(.int .i64 x7.2.2.2.1)]),(.int .i64 x7.2.2.2.2)]) [],.call ⟨true,[]⟩ (.hp 0 0) [(.row [.nils,.nils,(.mp 1),.nils]),(.map (dR .i64 (fun y=>AV.agg (aD y)) ([]:Ty4)) ([]:Ty4).length)]]
         let w8:List Prf:=[⟨(aB5)⟩,⟨(aD2 k x6 _ e10)⟩,⟨(bX (e:=iG) e9 1 0 1 (by decide))⟩,⟨c8⟩,⟨(aN iG x5.1)⟩,⟨(nF c7)⟩]++w6
         by_cases c11:eqI x7.2.2.2.2 0=true
         · rw[if_pos c11] at h
           by_cases c12:eqI x7.1 3=true
           · rw[if_pos c12] at h
             by_cases c13:eqI x7.2.1 300=true
             · rw[if_pos c13] at h
               by_cases c14:eqI x7.2.2.1 3=true
               · rw[if_pos c14] at h
                 by_cases c15:eqI x7.2.2.2.1 (-5)=true
                 · rw[if_pos c15] at h
                   obtain rfl:=osi h
                   exact Tri.of (x:=X5) mixed zX (u7++[dt,dt,dt,dt,dt,dt,dt]) ([⟨(aT c12 (aT c13 (aT c14 c15)))⟩,⟨(aT c12 (aT c13 (aT c14 c15)))⟩,⟨(aT c12 (aT c13 (aT c14 c15)))⟩,⟨c11⟩,⟨c11⟩,⟨c11⟩,⟨c11⟩]++w8) (by kernel_rfl)
                 rw[if_neg c15] at h;replace c15:=eqf c15
                 obtain rfl:=osi h
                 exact Tri.of (x:=X5) mixed zX (u7++[dt,dt,dt,dt,df,df,df]) ([⟨(aF2 c12 (aF2 c13 (aF2 c14 c15)))⟩,⟨(aF2 c12 (aF2 c13 (aF2 c14 c15)))⟩,⟨(aF2 c12 (aF2 c13 (aF2 c14 c15)))⟩,⟨c11⟩,⟨c11⟩,⟨c11⟩,⟨c11⟩]++w8) (by kernel_rfl)
               rw[if_neg c14] at h;replace c14:=eqf c14
               obtain rfl:=osi h
               exact Tri.of (x:=X5) mixed zX (u7++[dt,dt,dt,dt,df,df,df]) ([⟨(aF2 c12 (aF2 c13 (aF1 (b:=eqI x7.2.2.2.1 (-5)) c14)))⟩,⟨(aF2 c12 (aF2 c13 (aF1 (b:=eqI x7.2.2.2.1 (-5)) c14)))⟩,⟨(aF2 c12 (aF2 c13 (aF1 (b:=eqI x7.2.2.2.1 (-5)) c14)))⟩,⟨c11⟩,⟨c11⟩,⟨c11⟩,⟨c11⟩]++w8) (by kernel_rfl)
             rw[if_neg c13] at h;replace c13:=eqf c13
             obtain rfl:=osi h
             exact Tri.of (x:=X5) mixed zX (u7++[dt,dt,dt,dt,df,df,df]) ([⟨(aF2 c12 (aF1 (b:=(eqI x7.2.2.1 3 && eqI x7.2.2.2.1 (-5))) c13))⟩,⟨(aF2 c12 (aF1 (b:=(eqI x7.2.2.1 3 && eqI x7.2.2.2.1 (-5))) c13))⟩,⟨(aF2 c12 (aF1 (b:=(eqI x7.2.2.1 3 && eqI x7.2.2.2.1 (-5))) c13))⟩,⟨c11⟩,⟨c11⟩,⟨c11⟩,⟨c11⟩]++w8) (by kernel_rfl)
           rw[if_neg c12] at h;replace c12:=eqf c12
           obtain rfl:=osi h
           exact Tri.of (x:=X5) mixed zX (u7++[dt,dt,dt,dt,df,df,df]) ([⟨(aF1 (b:=(eqI x7.2.1 300 && (eqI x7.2.2.1 3 && eqI x7.2.2.2.1 (-5)))) c12)⟩,⟨(aF1 (b:=(eqI x7.2.1 300 && (eqI x7.2.2.1 3 && eqI x7.2.2.2.1 (-5)))) c12)⟩,⟨(aF1 (b:=(eqI x7.2.1 300 && (eqI x7.2.2.1 3 && eqI x7.2.2.2.1 (-5)))) c12)⟩,⟨c11⟩,⟨c11⟩,⟨c11⟩,⟨c11⟩]++w8) (by kernel_rfl)
         rw[if_neg c11] at h;replace c11:=eqf c11
         obtain rfl:=osi h
         exact Tri.of (x:=X5) mixed zX (u7++[df,df,df,df,df,df,df]) ([⟨rF⟩,⟨rF⟩,⟨rF⟩,⟨c11⟩,⟨c11⟩,⟨c11⟩,⟨c11⟩]++w8) (by kernel_rfl)
       rw[if_neg c8] at h;replace c8:=eqf c8
       cases h
     rw[if_neg c7] at h;replace c7:=eqf c7
     obtain rfl:=osi h
     exact Tri.of (x:=X5) mixed zX (u5++[dt]) ([⟨(nT c7)⟩]++w6) (by kernel_rfl)
   rw[if_neg c6] at h;replace c6:=eqf c6
   obtain rfl:=osi h
   exact Tri.of (x:=X5) mixed zX (u1++[df,df,df,dt,dt,dt,dt,dt]) ([⟨rT⟩,⟨(nT c6)⟩,⟨(nT c6)⟩,⟨(nT c6)⟩,⟨(nT c6)⟩]++w4) (by kernel_rfl)
 rw[if_neg c5] at h;replace c5:=eqf c5
 obtain rfl:=osi h
 exact Tri.of (x:=X5) mixed zX (u1++[dt,dt,dt,dt,dt,dt,dt,dt]) ([⟨rT⟩,⟨rT⟩,⟨rT⟩,⟨rT⟩,⟨rT⟩,⟨(nT c5)⟩,⟨(nT c5)⟩,⟨(nT c5)⟩]++w2) (by kernel_rfl)
end Go.Ws

namespace Go.Ws
open Go.Proofs
set_option linter.unusedSimpArgs false
set_option linter.unusedVariables false
set_option maxRecDepth 1000000
set_option maxHeartbeats 4000000
noncomputable def X82_1001:Ctx:=⟨Tryz.f82,[],false⟩
theorem yB (k:Nat) (x1:Ty8) (r:Unit) (h:hU k x1=some r):Tri Tryz.prog 82 [(.inl 3 (List.map aE x1))] [] (.ref 3 0 0 0 x1.length .virt) [(.arr 3 (List.map aE x1) 0 0 false)]:=by
 unfold hU at h
 by_cases c0:bT (x1.length*24)=true
 · rw[if_pos c0] at h
   obtain rfl:=osi h
   exact Tri.of (x:=X82_1001) mixed aT1 [df,.n x1.length,.norm 0 ⟨[(2,[])],[⟨.tmp 2,[],some 3⟩],false,[],[]⟩,.n x1.length,.rows (List.map aE x1)] [⟨(dF aE (l:=x1) (n:=x1.length) rfl)⟩,⟨(rfl:x1.length=x1.length)⟩,⟨(zle x1.length)⟩,⟨c0⟩,⟨(aN aE x1)⟩,⟨rF⟩] (by kernel_rfl)
 rw[if_neg c0] at h;replace c0:=eqf c0
 cases h
end Go.Ws

namespace Go.Ws
open Go.Proofs
set_option linter.unusedSimpArgs false
set_option linter.unusedVariables false
set_option maxRecDepth 1000000
set_option maxHeartbeats 4000000
noncomputable def X82_1002:Ctx:=⟨Tryz.f82,[],false⟩
theorem yC:Tri Tryz.prog 82 [.nils] [] (.ref 3 0 0 0 0 .virt) [(.arr 3 (List.map aE []) 0 0 false)]:=by
 obtain⟨r,h⟩:∃r,oD=r:=⟨_,rfl⟩
 try rw[h]
 unfold oD at h
 obtain rfl:=h
 exact Tri.of (x:=X82_1002) mixed aT1 [dt,.norm 0 ⟨[(2,[])],[⟨.tmp 2,[],some 3⟩],false,[],[]⟩,.n 0,.rows (List.map aE [])] [⟨(dF aE (l:=[]) (n:=0) rfl)⟩,⟨(rfl:0=0)⟩,⟨(zle 0)⟩,⟨rT⟩] (by kernel_rfl)
end Go.Ws

namespace Go.Ws
open Go.Proofs
set_option linter.unusedSimpArgs false
set_option linter.unusedVariables false
set_option maxRecDepth 1000000
set_option maxHeartbeats 4000000
theorem wJ (k:Nat) (x1:Ty8) (r:Unit) (h:kS k x1=some r):Tri Tryz.prog 82 [(.sl 3 (List.map aE x1))] [] (.ref 3 0 0 0 x1.length .virt) [(.arr 3 (List.map aE x1) 0 0 false)]:=by
 refine Tri.slOf (yB k x1 r h) fun h0=>?_
 have hx:x1=[]:=by simpa using h0
 subst hx
 exact yC
end Go.Ws

namespace Go.Ws
open Go.Proofs
set_option linter.unusedSimpArgs false
set_option linter.unusedVariables false
set_option maxRecDepth 1000000
set_option maxHeartbeats 4000000
noncomputable def X84:Ctx:=⟨Tryz.f84,[],true⟩
theorem aID (x1:Int) (x2:Int):Tri Tryz.prog 84 [(.int .i64 x1),(.int .u8 x2)] [] (.bool (iP x1 x2)) []:=by
 obtain⟨r,h⟩:∃r,iP x1 x2=r:=⟨_,rfl⟩
 try rw[h]
 unfold iP at h
 by_cases c0:ltI x2 64=true
 · rw[if_pos c0] at h
   by_cases c1:ltI x1 0=true
   · rw[if_pos c1] at h
     obtain rfl:=h
     exact Tri.of (x:=X84) mixed aN6 [dt,dt,dt,df,df,df] [⟨(nF c1)⟩,⟨(nF c1)⟩,⟨(nF c1)⟩,⟨c0⟩,⟨c0⟩,⟨c0⟩] (by kernel_rfl)
   rw[if_neg c1] at h;replace c1:=eqf c1
   obtain rfl:=h
   exact Tri.of (x:=X84) mixed aN6 [dt,dt,dt,dt,dt,dt] [⟨(nT c1)⟩,⟨(nT c1)⟩,⟨(nT c1)⟩,⟨c0⟩,⟨c0⟩,⟨c0⟩] (by kernel_rfl)
 rw[if_neg c0] at h;replace c0:=eqf c0
 obtain rfl:=h
 exact Tri.of (x:=X84) mixed aN6 [df,df,df,df,df,df] [⟨rF⟩,⟨rF⟩,⟨rF⟩,⟨c0⟩,⟨c0⟩,⟨c0⟩] (by kernel_rfl)
end Go.Ws

namespace Go.Ws
open Go.Proofs
set_option linter.unusedSimpArgs false
set_option linter.unusedVariables false
set_option maxRecDepth 1000000
set_option maxHeartbeats 4000000
noncomputable def X142:Ctx:=⟨Tryz.f142,[],true⟩
theorem aGW (x1:Int):Tri Tryz.prog 142 [(.int .u8 x1)] [] (.bool (iS x1)) []:=by
 obtain⟨r,h⟩:∃r,iS x1=r:=⟨_,rfl⟩
 try rw[h]
 unfold iS at h
 obtain rfl:=h
 exact Tri.of (x:=X142) mixed facts142 [] [] (by kernel_rfl)
end Go.Ws

namespace Go.Ws
open Go.Proofs
set_option linter.unusedSimpArgs false
set_option linter.unusedVariables false
set_option maxRecDepth 1000000
set_option maxHeartbeats 4000000
noncomputable def X122:Ctx:=⟨Tryz.f122,[],true⟩
theorem aBP (x1:Int) (x2:Int):Tri Tryz.prog 122 [(.int .u8 x1),(.int .u8 x2)] [] (.int .i64 (bC x1 x2)) []:=by
 obtain⟨r,h⟩:∃r,bC x1 x2=r:=⟨_,rfl⟩
 try rw[h]
 unfold bC at h
 let u1:List Ans:=[.call ⟨true,[]⟩ (.bool (iS x1)) [],.call ⟨true,[]⟩ (.bool (iS x2)) []]
 let w2:List Prf:=[⟨(aGW x2)⟩,⟨(aGW x1)⟩]
 by_cases c0:(iS x1)=true
 · rw[if_pos c0] at h
   by_cases c1:(iS x2)=true
   · rw[if_pos c1] at h
     obtain rfl:=h
     exact Tri.of (x:=X122) mixed zG (u1++[dt,dt]) ([⟨c1⟩,⟨c0⟩]++w2) (by kernel_rfl)
   rw[if_neg c1] at h;replace c1:=eqf c1
   obtain rfl:=h
   exact Tri.of (x:=X122) mixed zG (u1++[dt,df]) ([⟨c1⟩,⟨c0⟩]++w2) (by kernel_rfl)
 rw[if_neg c0] at h;replace c0:=eqf c0
 by_cases c1:(iS x2)=true
 · rw[if_pos c1] at h
   obtain rfl:=h
   exact Tri.of (x:=X122) mixed zG (u1++[df,dt]) ([⟨c1⟩,⟨c0⟩]++w2) (by kernel_rfl)
 rw[if_neg c1] at h;replace c1:=eqf c1
 by_cases c2:ltI x1 x2=true
 · rw[if_pos c2] at h
   obtain rfl:=h
   exact Tri.of (x:=X122) mixed zG (u1++[df,df,dt]) ([⟨c2⟩,⟨c1⟩,⟨c0⟩]++w2) (by kernel_rfl)
 rw[if_neg c2] at h;replace c2:=eqf c2
 by_cases c3:ltI x2 x1=true
 · rw[if_pos c3] at h
   obtain rfl:=h
   exact Tri.of (x:=X122) mixed zG (u1++[df,df,df,dt]) ([⟨c3⟩,⟨c2⟩,⟨c1⟩,⟨c0⟩]++w2) (by kernel_rfl)
 rw[if_neg c3] at h;replace c3:=eqf c3
 obtain rfl:=h
 exact Tri.of (x:=X122) mixed zG (u1++[df,df,df,df]) ([⟨c3⟩,⟨c2⟩,⟨c1⟩,⟨c0⟩]++w2) (by kernel_rfl)
end Go.Ws

namespace Go.Ws
open Go.Proofs
set_option linter.unusedSimpArgs false
set_option linter.unusedVariables false
set_option maxRecDepth 1000000
set_option maxHeartbeats 4000000
noncomputable def X143:Ctx:=⟨Tryz.f143,[],true⟩
theorem y8 (x1:Int):Tri Tryz.prog 143 [(.int .i64 x1)] [] (.bool (eW x1)) []:=by
 obtain⟨r,h⟩:∃r,eW x1=r:=⟨_,rfl⟩
 try rw[h]
 unfold eW at h
 obtain rfl:=h
 exact Tri.of (x:=X143) mixed facts143 [] [] (by kernel_rfl)
end Go.Ws

namespace Go.Ws
open Go.Proofs
set_option linter.unusedSimpArgs false
set_option linter.unusedVariables false
set_option maxRecDepth 1000000
set_option maxHeartbeats 4000000
noncomputable def X123:Ctx:=⟨Tryz.f123,[],true⟩
theorem aEO (x1:Int) (x2:Int):Tri Tryz.prog 123 [(.int .i64 x1),(.int .i64 x2)] [] (.int .i64 (dC x1 x2)) []:=by
 obtain⟨r,h⟩:∃r,dC x1 x2=r:=⟨_,rfl⟩
 try rw[h]
 unfold dC at h
 let u1:List Ans:=[.call ⟨true,[]⟩ (.bool (eW x1)) [],.call ⟨true,[]⟩ (.bool (eW x2)) []]
 let w2:List Prf:=[⟨(y8 x2)⟩,⟨(y8 x1)⟩]
 by_cases c0:(eW x1)=true
 · rw[if_pos c0] at h
   by_cases c1:(eW x2)=true
   · rw[if_pos c1] at h
     obtain rfl:=h
     exact Tri.of (x:=X123) mixed yI (u1++[dt,dt]) ([⟨c1⟩,⟨c0⟩]++w2) (by kernel_rfl)
   rw[if_neg c1] at h;replace c1:=eqf c1
   obtain rfl:=h
   exact Tri.of (x:=X123) mixed yI (u1++[dt,df]) ([⟨c1⟩,⟨c0⟩]++w2) (by kernel_rfl)
 rw[if_neg c0] at h;replace c0:=eqf c0
 by_cases c1:(eW x2)=true
 · rw[if_pos c1] at h
   obtain rfl:=h
   exact Tri.of (x:=X123) mixed yI (u1++[df,dt]) ([⟨c1⟩,⟨c0⟩]++w2) (by kernel_rfl)
 rw[if_neg c1] at h;replace c1:=eqf c1
 by_cases c2:ltI x1 x2=true
 · rw[if_pos c2] at h
   obtain rfl:=h
   exact Tri.of (x:=X123) mixed yI (u1++[df,df,dt]) ([⟨c2⟩,⟨c1⟩,⟨c0⟩]++w2) (by kernel_rfl)
 rw[if_neg c2] at h;replace c2:=eqf c2
 by_cases c3:ltI x2 x1=true
 · rw[if_pos c3] at h
   obtain rfl:=h
   exact Tri.of (x:=X123) mixed yI (u1++[df,df,df,dt]) ([⟨c3⟩,⟨c2⟩,⟨c1⟩,⟨c0⟩]++w2) (by kernel_rfl)
 rw[if_neg c3] at h;replace c3:=eqf c3
 obtain rfl:=h
 exact Tri.of (x:=X123) mixed yI (u1++[df,df,df,df]) ([⟨c3⟩,⟨c2⟩,⟨c1⟩,⟨c0⟩]++w2) (by kernel_rfl)
end Go.Ws

namespace Go.Ws
open Go.Proofs
set_option linter.unusedSimpArgs false
set_option linter.unusedVariables false
set_option maxRecDepth 1000000
set_option maxHeartbeats 4000000
noncomputable def X121:Ctx:=⟨Tryz.f121,[],true⟩
noncomputable def L121_0:Code:=at_ Tryz.f121 [1,1,0,1,4,5]
def S121_0 (x1:List Int) (cN:Int):St:=⟨mkT 18 [(3,(.int .i64 0)),(6,(.sl 1 (List.map yV x1))),(7,(.int .i64 (nI x1.length))),(8,(.int .i64 cN))],[]⟩
def aJI:St:=⟨mkT 18 [(3,(.int .i64 0))],[]⟩
def O121_0 (x1:List Int) (y:(Sum (Unit) (Int))):GX:=match y with
 | .inl y=>.st (.exit 0) (aJI)
 | .inr y=>.fin (.int .i64 y) []
theorem aAD (x1:List Int) (y:(Sum (Unit) (Int))):∀(k:Nat) (cN:Int),kQ k x1 cN=some y→LT Tryz.prog X121 L121_0 (S121_0 x1 cN) (O121_0 x1 y)
 | 0,cN,h=>by cases h
 | k+1,cN,h=>by
  rw[kQ] at h
  by_cases cL0:ltI cN (nI x1.length)=true
  · rw[if_pos cL0] at h
    by_cases cL1:inI cN x1.length=true
    · rw[if_pos cL1] at h
      obtain⟨pB,eL2,h⟩:=bsm h
      let u1:List Ans:=[dt,.n x1.length,.row [(.int .i64 pB)]]
      let w2:List Prf:=[⟨(bX (e:=yV) eL2 1 0 1 (by decide))⟩,⟨cL1⟩,⟨(aN yV x1)⟩,⟨cL0⟩]
      by_cases cL3:eqI pB 0=true
      · rw[if_pos cL3] at h
        exact LT.next mixed (hs:=⟨[(3,[]),(6,[]),(7,[]),(8,[])],[],false,[],[]⟩) (es:=none) (u1++[df]) ([⟨(nF cL3)⟩]++w2) (by kernel_rfl) (aAD x1 y k (aH .i64 cN 1) h)
      rw[if_neg cL3] at h;replace cL3:=eqf cL3
      obtain rfl:=osi h
      show LT _ _ _ _ (.fin (.int .i64 pB) [])
      exact LT.done mixed (hs:=⟨[],[],false,[],[]⟩) (es:=none) (u1++[dt]) ([⟨(nT cL3)⟩]++w2) (by kernel_rfl) (fun s h=>by cases h)
    rw[if_neg cL1] at h;replace cL1:=eqf cL1
    cases h
  rw[if_neg cL0] at h;replace cL0:=eqf cL0
  obtain rfl:=osi h
  show LT _ _ _ _ (.st (.exit 0) (aJI))
  exact LT.done mixed (hs:=⟨[],[],false,[],[]⟩) (es:=(some ⟨[(3,[])],[],false,[],[]⟩)) [df] [⟨cL0⟩] (by kernel_rfl) (fun s h=>by cases h)
theorem aU1 (k:Nat) (x1:List Int) (r:Int) (h:aH2 k x1=some r):Tri Tryz.prog 121 [(.sl 1 (List.map yV x1))] [] (.int .i64 r) []:=by
 unfold aH2 at h
 let u3:List Ans:=[.n x1.length,.norm 2 ⟨[(3,[]),(6,[]),(7,[]),(8,[])],[],false,[],[]⟩]
 obtain⟨x2,e0,h⟩:=bsm h
 cases x2 with
 | inl x3 =>
  simp only[Sum.elim_inl] at h
  obtain rfl:=osi h
  exact Tri.of (x:=X121) mixed aP4 (u3++[.out (.st .normal (aJI))]) [⟨(LT.block (aAD x1 _ k 0 e0))⟩,⟨(aN yV x1)⟩] (by kernel_rfl)
 | inr x3 =>
  simp only[Sum.elim_inr] at h
  obtain rfl:=osi h
  exact Tri.of (x:=X121) mixed aP4 (u3++[.out (.fin (.int .i64 x3) [])]) [⟨(LT.blockFin (id:=0) (aAD x1 _ k 0 e0))⟩,⟨(aN yV x1)⟩] (by kernel_rfl)
end Go.Ws

namespace Go.Ws
open Go.Proofs
set_option linter.unusedSimpArgs false
set_option linter.unusedVariables false
set_option maxRecDepth 1000000
set_option maxHeartbeats 4000000
noncomputable def X86:Ctx:=⟨Tryz.f86,[],true⟩
theorem xP (k:Nat) (x1:Int) (x2:Int) (x3:Bool) (x4:Int) (x5:Int) (x6:Bool) (r:Int) (h:nZ k x1 x2 x3 x4 x5 x6=some r):Tri Tryz.prog 86 [(.agg [(.int .u8 x1),(.int .i64 x2),(.bool x3)]),(.agg [(.int .u8 x4),(.int .i64 x5),(.bool x6)])] [] (.int .i64 r) []:=by
 unfold nZ at h
 obtain⟨x7,e0,h⟩:=bsm h
 obtain rfl:=osi h
 exact Tri.of (x:=X86) mixed facts86 [.call ⟨true,[]⟩ (.int .i64 (bC x1 x4)) [],.call ⟨true,[]⟩ (.int .i64 (dC x2 x5)) [],.call ⟨true,[]⟩ (.int .i64 x7) [],.rows (List.map yV [(bC x1 x4),(dC x2 x5)])] [⟨(aU1 k [(bC x1 x4),(dC x2 x5)] _ e0)⟩,⟨(aX yV (l:=[(bC x1 x4),(dC x2 x5)]) (n:=2) rfl)⟩,⟨(bP yV (Nat.le_refl 2):0+2≤(List.map yV [(bC x1 x4),(dC x2 x5)]).length)⟩,⟨(aEO x2 x5)⟩,⟨(aBP x1 x4)⟩] (by kernel_rfl)
end Go.Ws

namespace Go.Ws
open Go.Proofs
set_option linter.unusedSimpArgs false
set_option linter.unusedVariables false
set_option maxRecDepth 1000000
set_option maxHeartbeats 4000000
noncomputable def X83:Ctx:=⟨Tryz.f83,[],true⟩
noncomputable def L83_0:Code:=at_ Tryz.f83 [1,0,1,4,5]
def S83_0 (x1:Ty8) (bJ:Int):St:=⟨mkT 46 [(0,(.sl 3 (List.map aE x1))),(6,(.sl 3 (List.map aE x1))),(7,(.int .i64 (nI x1.length))),(8,(.int .i64 bJ))],[]⟩
def aOT:St:=⟨mkT 46 [],[]⟩
def O83_0 (x1:Ty8) (y:(Sum (Unit) (Bool))):GX:=match y with
 | .inl y=>.st (.exit 0) (aOT)
 | .inr y=>.fin (.bool y) []
theorem lO (x1:Ty8) (y:(Sum (Unit) (Bool))):∀(k:Nat) (bJ:Int),eY k x1 bJ=some y→LT Tryz.prog X83 L83_0 (S83_0 x1 bJ) (O83_0 x1 y)
 | 0,bJ,h=>by cases h
 | k+1,bJ,h=>by
  rw[eY] at h
  by_cases cL0:ltI bJ (nI x1.length)=true
  · rw[if_pos cL0] at h
    by_cases cL1:inI bJ x1.length=true
    · rw[if_pos cL1] at h
      obtain⟨dQ,eL2,h⟩:=bsm h
      let u1:List Ans:=[dt,.n x1.length,.row [(.int .u8 dQ.1),(.int .i64 dQ.2.1),(.bool dQ.2.2)],.call ⟨true,[]⟩ (.bool (iP dQ.2.1 dQ.1)) []]
      let w2:List Prf:=[⟨(aID dQ.2.1 dQ.1)⟩,⟨(bX (e:=aE) eL2 3 0 3 (by decide))⟩,⟨cL1⟩,⟨(aN aE x1)⟩,⟨cL0⟩]
      by_cases cL3:(iP dQ.2.1 dQ.1)=true
      · rw[if_pos cL3] at h
        by_cases cL4:eqI bJ 0=true
        · rw[if_pos cL4] at h
          exact LT.next mixed (hs:=⟨[(0,[]),(6,[]),(7,[]),(8,[])],[],false,[],[]⟩) (es:=none) (u1++[df,dt]) ([⟨cL4⟩,⟨(nF cL3)⟩]++w2) (by kernel_rfl) (lO x1 y k (aH .i64 bJ 1) h)
        rw[if_neg cL4] at h;replace cL4:=eqf cL4
        by_cases cL5:inI (vS .i64 bJ 1) x1.length=true
        · rw[if_pos cL5] at h
          obtain⟨iC,eL6,h⟩:=bsm h
          obtain⟨zI,eL7,h⟩:=bsm h
          let u5:List Ans:=u1++[df,df,.n x1.length,.row [(.int .u8 iC.1),(.int .i64 iC.2.1),(.bool iC.2.2)],.call ⟨true,[]⟩ (.int .i64 zI) []]
          let w6:List Prf:=[⟨(xP k iC.1 iC.2.1 iC.2.2 dQ.1 dQ.2.1 dQ.2.2 _ eL7)⟩,⟨(bX (e:=aE) eL6 3 0 3 (by decide))⟩,⟨cL5⟩,⟨(aN aE x1)⟩,⟨cL4⟩,⟨(nF cL3)⟩]++w2
          by_cases cL8:ltI zI 0=true
          · rw[if_pos cL8] at h
            let w8:List Prf:=[⟨(nF cL8)⟩,⟨(nF cL8)⟩,⟨(nF cL8)⟩,⟨(nF cL8)⟩,⟨(nF cL8)⟩,⟨(nF cL8)⟩]++w6
            by_cases cL9:eqI iC.1 dQ.1=true
            · rw[if_pos cL9] at h
              let u9:List Ans:=u5++[df,df,df,df,df,df,dt,dt,dt]
              by_cases cL10:iC.2.2=true
              · rw[if_pos cL10] at h
                obtain rfl:=osi h
                show LT _ _ _ _ (.fin (.bool false) [])
                exact LT.done mixed (hs:=⟨[],[],false,[],[]⟩) (es:=none) (u9++[dt,dt,dt,dt,df,dt,df,dt]) ([⟨rT⟩,⟨(nF cL8)⟩,⟨cL9⟩,⟨(nF cL8)⟩,⟨cL10⟩,⟨cL9⟩,⟨cL10⟩,⟨cL10⟩,⟨cL9⟩,⟨cL9⟩,⟨cL9⟩]++w8) (by kernel_rfl) (fun s h=>by cases h)
              rw[if_neg cL10] at h;replace cL10:=eqf cL10
              let w12:List Prf:=[⟨(nF cL8)⟩,⟨cL9⟩,⟨(nF cL8)⟩,⟨cL10⟩,⟨cL9⟩,⟨cL10⟩,⟨cL10⟩,⟨cL9⟩,⟨cL9⟩,⟨cL9⟩]++w8
              by_cases cL11:dQ.2.2=true
              · rw[if_pos cL11] at h
                obtain rfl:=osi h
                show LT _ _ _ _ (.fin (.bool false) [])
                exact LT.done mixed (hs:=⟨[],[],false,[],[]⟩) (es:=none) (u9++[df,df,dt,df,df,dt,df,dt]) ([⟨cL11⟩]++w12) (by kernel_rfl) (fun s h=>by cases h)
              rw[if_neg cL11] at h;replace cL11:=eqf cL11
              exact LT.next mixed (hs:=⟨[(0,[]),(6,[]),(7,[]),(8,[])],[],false,[],[]⟩) (es:=none) (u9++[df,df,dt,df,df,dt,df,df]) ([⟨cL11⟩]++w12) (by kernel_rfl) (lO x1 y k (aH .i64 bJ 1) h)
            rw[if_neg cL9] at h;replace cL9:=eqf cL9
            exact LT.next mixed (hs:=⟨[(0,[]),(6,[]),(7,[]),(8,[])],[],false,[],[]⟩) (es:=none) (u5++[df,df,df,df,df,df,df,df,df,df,df,df,df,df]) ([⟨rF⟩,⟨(nF cL8)⟩,⟨cL9⟩,⟨(nF cL8)⟩,⟨cL9⟩,⟨cL9⟩,⟨cL9⟩,⟨cL9⟩]++w8) (by kernel_rfl) (lO x1 y k (aH .i64 bJ 1) h)
          rw[if_neg cL8] at h;replace cL8:=eqf cL8
          obtain rfl:=osi h
          show LT _ _ _ _ (.fin (.bool false) [])
          exact LT.done mixed (hs:=⟨[],[],false,[],[]⟩) (es:=none) (u5++[dt,dt,dt,dt,dt,dt,dt,dt,dt]) ([⟨rT⟩,⟨(nT cL8)⟩,⟨(nT cL8)⟩,⟨(nT cL8)⟩,⟨(nT cL8)⟩,⟨(nT cL8)⟩,⟨(nT cL8)⟩,⟨(nT cL8)⟩,⟨(nT cL8)⟩]++w6) (by kernel_rfl) (fun s h=>by cases h)
        rw[if_neg cL5] at h;replace cL5:=eqf cL5
        cases h
      rw[if_neg cL3] at h;replace cL3:=eqf cL3
      obtain rfl:=osi h
      show LT _ _ _ _ (.fin (.bool false) [])
      exact LT.done mixed (hs:=⟨[],[],false,[],[]⟩) (es:=none) (u1++[dt]) ([⟨(nT cL3)⟩]++w2) (by kernel_rfl) (fun s h=>by cases h)
    rw[if_neg cL1] at h;replace cL1:=eqf cL1
    cases h
  rw[if_neg cL0] at h;replace cL0:=eqf cL0
  obtain rfl:=osi h
  show LT _ _ _ _ (.st (.exit 0) (aOT))
  exact LT.done mixed (hs:=⟨[],[],false,[],[]⟩) (es:=(some ⟨[],[],false,[],[]⟩)) [df] [⟨cL0⟩] (by kernel_rfl) (fun s h=>by cases h)
theorem aLJ (k:Nat) (x1:Ty8) (r:Bool) (h:tO k x1=some r):Tri Tryz.prog 83 [(.sl 3 (List.map aE x1))] [] (.bool r) []:=by
 unfold tO at h
 let u13:List Ans:=[.n x1.length,.norm 2 ⟨[(0,[]),(6,[]),(7,[]),(8,[])],[],false,[],[]⟩]
 obtain⟨x2,e0,h⟩:=bsm h
 cases x2 with
 | inl x3 =>
  simp only[Sum.elim_inl] at h
  obtain rfl:=osi h
  exact Tri.of (x:=X83) mixed aS2 (u13++[.out (.st .normal (aOT))]) [⟨(LT.block (lO x1 _ k 0 e0))⟩,⟨(aN aE x1)⟩] (by kernel_rfl)
 | inr x3 =>
  simp only[Sum.elim_inr] at h
  obtain rfl:=osi h
  exact Tri.of (x:=X83) mixed aS2 (u13++[.out (.fin (.bool x3) [])]) [⟨(LT.blockFin (id:=0) (lO x1 _ k 0 e0))⟩,⟨(aN aE x1)⟩] (by kernel_rfl)
end Go.Ws

namespace Go.Ws
open Go.Proofs
set_option linter.unusedSimpArgs false
set_option linter.unusedVariables false
set_option maxRecDepth 1000000
set_option maxHeartbeats 4000000
noncomputable def X85:Ctx:=⟨Tryz.f85,[],true⟩
noncomputable def L85_0:Code:=at_ Tryz.f85 [1,1,1,0,4,5]
def S85_0 (x1:Ty8) (x2:Int) (x3:Int) (x4:Bool) (b5:Int) (cL:Int):St:=⟨mkT 49 [(0,(.sl 3 (List.map aE x1))),(2,(.fn 86 [])),(4,(.hp 0 0)),(8,(.int .i64 (nI x1.length))),(9,(.int .i64 b5)),(10,(.int .i64 cL))],[(.row [(.int .u8 x2),(.int .i64 x3),(.bool x4)])]⟩
def aOK (x1:Ty8) (x2:Int) (x3:Int) (x4:Bool) (v85002_1:Int):St:=⟨mkT 49 [(0,(.sl 3 (List.map aE x1))),(2,(.fn 86 [])),(4,(.hp 0 0)),(8,(.int .i64 (nI x1.length))),(9,(.int .i64 v85002_1))],[(.row [(.int .u8 x2),(.int .i64 x3),(.bool x4)])]⟩
def O85_0 (x1:Ty8) (x2:Int) (x3:Int) (x4:Bool) (y:(Int)):GX:=.st (.exit 0) (aOK x1 x2 x3 x4 y)
theorem jE (x1:Ty8) (x2:Int) (x3:Int) (x4:Bool) (y:(Int)):∀(k:Nat) (b5:Int) (cL:Int),aZ k x1 x2 x3 x4 b5 cL=some y→LT Tryz.prog X85 L85_0 (S85_0 x1 x2 x3 x4 b5 cL) (O85_0 x1 x2 x3 x4 y)
 | 0,b5,cL,h=>by cases h
 | k+1,b5,cL,h=>by
  rw[aZ] at h
  by_cases cL0:ltI b5 cL=true
  · rw[if_pos cL0] at h
    by_cases cL1:inI (conv .i64 (aA .u64 (conv .u64 (aH .i64 b5 cL)) 1)) x1.length=true
    · rw[if_pos cL1] at h
      obtain⟨lB,eL2,h⟩:=bsm h
      obtain⟨zJ,eL3,h⟩:=bsm h
      let u1:List Ans:=[dt,.n x1.length,.row [(.int .u8 lB.1),(.int .i64 lB.2.1),(.bool lB.2.2)],.call ⟨true,[]⟩ (.int .i64 zJ) []]
      let w2:List Prf:=[⟨(xP k lB.1 lB.2.1 lB.2.2 x2 x3 x4 _ eL3)⟩,⟨(bX (e:=aE) eL2 3 0 3 (by decide))⟩,⟨cL1⟩,⟨(aN aE x1)⟩,⟨cL0⟩]
      by_cases cL4:ltI zJ 0=true
      · rw[if_pos cL4] at h
        exact LT.next mixed (hs:=⟨[(0,[]),(2,[]),(4,[]),(8,[]),(9,[]),(10,[])],[⟨.tmp 4,[],none⟩],false,[],[]⟩) (es:=none) (u1++[dt]) ([⟨cL4⟩]++w2) (by kernel_rfl) (jE x1 x2 x3 x4 y k (aH .i64 (conv .i64 (aA .u64 (conv .u64 (aH .i64 b5 cL)) 1)) 1) cL h)
      rw[if_neg cL4] at h;replace cL4:=eqf cL4
      exact LT.next mixed (hs:=⟨[(0,[]),(2,[]),(4,[]),(8,[]),(9,[]),(10,[])],[⟨.tmp 4,[],none⟩],false,[],[]⟩) (es:=none) (u1++[df]) ([⟨cL4⟩]++w2) (by kernel_rfl) (jE x1 x2 x3 x4 y k b5 (conv .i64 (aA .u64 (conv .u64 (aH .i64 b5 cL)) 1)) h)
    rw[if_neg cL1] at h;replace cL1:=eqf cL1
    cases h
  rw[if_neg cL0] at h;replace cL0:=eqf cL0
  obtain rfl:=osi h
  show LT _ _ _ _ (.st (.exit 0) (aOK x1 x2 x3 x4 b5))
  exact LT.done mixed (hs:=⟨[],[],false,[],[]⟩) (es:=(some ⟨[(0,[]),(2,[]),(4,[]),(8,[]),(9,[])],[⟨.tmp 4,[],none⟩],false,[],[]⟩)) [df] [⟨cL0⟩] (by kernel_rfl) (fun s h=>by cases h)
theorem wB (k:Nat) (x1:Ty8) (x2:Int) (x3:Int) (x4:Bool) (r:Int × Bool) (h:fO k x1 x2 x3 x4=some r):Tri Tryz.prog 85 [(.sl 3 (List.map aE x1)),(.agg [(.int .u8 x2),(.int .i64 x3),(.bool x4)]),(.fn 86 [])] [] (.tup [(.int .i64 r.1),(.bool r.2)]) []:=by
 unfold fO at h
 obtain⟨x6,e0,h⟩:=bsm h
 let u3:List Ans:=[.n x1.length,.norm 2 ⟨[(0,[]),(2,[]),(4,[]),(8,[]),(9,[]),(10,[])],[⟨.tmp 4,[],none⟩],false,[],[]⟩,.out (.st .normal (aOK x1 x2 x3 x4 x6))]
 let w4:List Prf:=[⟨(LT.block (jE x1 x2 x3 x4 _ k 0 (nI x1.length) e0))⟩,⟨(aN aE x1)⟩]
 by_cases c2:ltI x6 (nI x1.length)=true
 · rw[if_pos c2] at h
   by_cases c3:inI x6 x1.length=true
   · rw[if_pos c3] at h
     obtain⟨x7,e4,h⟩:=bsm h
     obtain⟨x8,e5,h⟩:=bsm h
     obtain rfl:=osi h
     exact Tri.of (x:=X85) mixed aUF (u3++[dt,dt,dt,dt,.n x1.length,dt,.row [(.int .u8 x7.1),(.int .i64 x7.2.1),(.bool x7.2.2)],dt,dt,.call ⟨true,[]⟩ (.int .i64 x8) [],dt,dt]) ([⟨c2⟩,⟨c2⟩,⟨(xP k x7.1 x7.2.1 x7.2.2 x2 x3 x4 _ e5)⟩,⟨c2⟩,⟨c2⟩,⟨(bX (e:=aE) e4 3 0 3 (by decide))⟩,⟨c2⟩,⟨c3⟩,⟨(aN aE x1)⟩,⟨c2⟩,⟨c2⟩,⟨c2⟩,⟨c2⟩]++w4) (by kernel_rfl)
   rw[if_neg c3] at h;replace c3:=eqf c3
   cases h
 rw[if_neg c2] at h;replace c2:=eqf c2
 obtain rfl:=osi h
 exact Tri.of (x:=X85) mixed aUF (u3++[df,df,df,df,df,df,df,df,df]) ([⟨c2⟩,⟨c2⟩,⟨c2⟩,⟨c2⟩,⟨c2⟩,⟨c2⟩,⟨c2⟩,⟨c2⟩,⟨c2⟩]++w4) (by kernel_rfl)
end Go.Ws

namespace Go.Ws
open Go.Proofs
set_option linter.unusedSimpArgs false
set_option linter.unusedVariables false
set_option maxRecDepth 1000000
set_option maxHeartbeats 4000000
theorem aHL (k:Nat) (x1:Int) (x2:Ty8) (x3:Ty8) (r:Ty8) (h:qC k x1 x2 x3=some r):Tri Tryz.prog 87 [(.ref 3 0 0 0 x2.length .virt),(.int .i64 x1),(.ref 3 1 0 0 x3.length .full)] [(.arr 3 (List.map aE x2) 0 0 false),(.arr 3 (List.map aE x3) 0 0 false)] (.ref 3 0 1 0 r.length .full) [(.arr 3 (List.map aE r) 1 1 false),(.arr 3 (List.map aE x3) 0 0 false)]:=ins_ok87 _ h rfl
end Go.Ws

namespace Go.Ws
open Go.Proofs
set_option linter.unusedSimpArgs false
set_option linter.unusedVariables false
set_option maxRecDepth 1000000
set_option maxHeartbeats 4000000
noncomputable def X70:Ctx:=⟨Tryz.f70,[],true⟩
noncomputable def L70_0:Code:=at_ Tryz.f70 [1,1,1,0,1,4,5]
def S70_0 (x1:Ty8) (x2:Int) (x3:Int) (x4:Bool) (cM:Int):St:=⟨mkT 82 [(0,(.ref 3 0 0 0 x1.length .virt)),(1,(.int .i64 x2)),(2,(.int .u8 x3)),(3,(.bool x4)),(27,(.ref 3 0 0 0 x1.length .virt)),(28,(.int .i64 (nI x1.length))),(29,(.int .i64 cM))],[(.arr 3 (List.map aE x1) 0 0 false)]⟩
def aNJ (x1:Ty8) (x2:Int) (x3:Int) (x4:Bool):St:=⟨mkT 82 [(0,(.ref 3 0 0 0 x1.length .virt)),(1,(.int .i64 x2)),(2,(.int .u8 x3)),(3,(.bool x4))],[(.arr 3 (List.map aE x1) 0 0 false)]⟩
def O70_0 (x1:Ty8) (x2:Int) (x3:Int) (x4:Bool) (y:(Sum (Unit) (Ty8 × Int))):GX:=match y with
 | .inl y=>.st (.exit 0) (aNJ x1 x2 x3 x4)
 | .inr y=>.fin (.tup [(.sl 3 (List.map aE y.1)),(.int .i64 y.2)]) []
def A70_0:Ans:=.norm 2 ⟨[(0,[]),(1,[]),(2,[]),(3,[]),(27,[]),(28,[]),(29,[])],[⟨.tmp 0,[],none⟩],false,[],[]⟩
theorem mX (x1:Ty8) (x2:Int) (x3:Int) (x4:Bool) (y:(Sum (Unit) (Ty8 × Int))):∀(k:Nat) (cM:Int),fK k x1 x2 x3 x4 cM=some y→LT Tryz.prog X70 L70_0 (S70_0 x1 x2 x3 x4 cM) (O70_0 x1 x2 x3 x4 y)
 | 0,cM,h=>by cases h
 | k+1,cM,h=>by
  rw[fK] at h
  by_cases cL0:ltI cM (nI x1.length)=true
  · rw[if_pos cL0] at h
    by_cases cL1:inI cM x1.length=true
    · rw[if_pos cL1] at h
      obtain⟨jG,eL2,h⟩:=bsm h
      let w2:List Prf:=[⟨(bX (e:=aE) eL2 3 0 3 (by decide))⟩,⟨cL1⟩,⟨cL0⟩]
      by_cases cL3:eqI jG.1 x3=true
      · rw[if_pos cL3] at h
        let u3:List Ans:=[dt,.row [(.int .u8 jG.1),(.int .i64 jG.2.1),(.bool jG.2.2)],dt,dt,dt,dt,dt]
        let w4:List Prf:=[⟨cL3⟩,⟨cL3⟩,⟨cL3⟩,⟨cL3⟩,⟨cL3⟩]++w2
        by_cases cL4:eqI jG.2.1 x2=true
        · rw[if_pos cL4] at h
          exact LT.next mixed (hs:=⟨[(0,[]),(1,[]),(2,[]),(3,[]),(27,[]),(28,[]),(29,[])],[⟨.tmp 0,[],none⟩],false,[],[]⟩) (es:=none) (u3++[df,df,df,df,df]) ([⟨rF⟩,⟨(nF cL4)⟩,⟨(nF cL4)⟩,⟨(nF cL4)⟩,⟨(nF cL4)⟩]++w4) (by kernel_rfl) (mX x1 x2 x3 x4 y k (aH .i64 cM 1) h)
        rw[if_neg cL4] at h;replace cL4:=eqf cL4
        by_cases cL5:x4=true
        · rw[if_pos cL5] at h
          obtain rfl:=osi h
          show LT _ _ _ _ (.fin (.tup [(.sl 3 (List.map aE ((x1,9).1))),(.int .i64 ((x1,9).2))]) [])
          exact LT.done mixed (hs:=⟨[],[],false,[],[]⟩) (es:=none) (u3++[dt,dt,dt,dt,dt,dt,dt,dt,.rows (List.map aE x1)]) ([⟨(aX aE (l:=x1) (n:=x1.length) rfl)⟩,⟨(bP aE (Nat.le_refl x1.length):0+x1.length≤(List.map aE x1).length)⟩,⟨rT⟩,⟨(nT cL4)⟩,⟨cL5⟩,⟨(nT cL4)⟩,⟨cL5⟩,⟨cL5⟩,⟨(nT cL4)⟩,⟨(nT cL4)⟩]++w4) (by kernel_rfl) (fun s h=>by cases h)
        rw[if_neg cL5] at h;replace cL5:=eqf cL5
        let w8:List Prf:=[⟨(nT cL4)⟩,⟨cL5⟩,⟨(nT cL4)⟩,⟨cL5⟩,⟨cL5⟩,⟨(nT cL4)⟩,⟨(nT cL4)⟩]++w4
        by_cases cL6:jG.2.2=true
        · rw[if_pos cL6] at h
          obtain rfl:=osi h
          show LT _ _ _ _ (.fin (.tup [(.sl 3 (List.map aE ((x1,9).1))),(.int .i64 ((x1,9).2))]) [])
          exact LT.done mixed (hs:=⟨[],[],false,[],[]⟩) (es:=none) (u3++[dt,dt,df,df,dt,df,dt,dt,.rows (List.map aE x1)]) ([⟨(aX aE (l:=x1) (n:=x1.length) rfl)⟩,⟨(bP aE (Nat.le_refl x1.length):0+x1.length≤(List.map aE x1).length)⟩,⟨cL6⟩]++w8) (by kernel_rfl) (fun s h=>by cases h)
        rw[if_neg cL6] at h;replace cL6:=eqf cL6
        exact LT.next mixed (hs:=⟨[(0,[]),(1,[]),(2,[]),(3,[]),(27,[]),(28,[]),(29,[])],[⟨.tmp 0,[],none⟩],false,[],[]⟩) (es:=none) (u3++[dt,dt,df,df,dt,df,dt,df]) ([⟨cL6⟩]++w8) (by kernel_rfl) (mX x1 x2 x3 x4 y k (aH .i64 cM 1) h)
      rw[if_neg cL3] at h;replace cL3:=eqf cL3
      exact LT.next mixed (hs:=⟨[(0,[]),(1,[]),(2,[]),(3,[]),(27,[]),(28,[]),(29,[])],[⟨.tmp 0,[],none⟩],false,[],[]⟩) (es:=none) [dt,.row [(.int .u8 jG.1),(.int .i64 jG.2.1),(.bool jG.2.2)],df,df,df,df,df,df,df,df,df,df] ([⟨rF⟩,⟨rF⟩,⟨rF⟩,⟨rF⟩,⟨rF⟩,⟨cL3⟩,⟨cL3⟩,⟨cL3⟩,⟨cL3⟩,⟨cL3⟩]++w2) (by kernel_rfl) (mX x1 x2 x3 x4 y k (aH .i64 cM 1) h)
    rw[if_neg cL1] at h;replace cL1:=eqf cL1
    cases h
  rw[if_neg cL0] at h;replace cL0:=eqf cL0
  obtain rfl:=osi h
  show LT _ _ _ _ (.st (.exit 0) (aNJ x1 x2 x3 x4))
  exact LT.done mixed (hs:=⟨[],[],false,[],[]⟩) (es:=(some ⟨[(0,[]),(1,[]),(2,[]),(3,[])],[⟨.tmp 0,[],none⟩],false,[],[]⟩)) [df] [⟨cL0⟩] (by kernel_rfl) (fun s h=>by cases h)
theorem aN2 (k:Nat) (x1:Ty8) (x2:Int) (x3:Int) (x4:Bool) (r:Ty8 × Int) (h:vZ k x1 x2 x3 x4=some r):Tri Tryz.prog 70 [(.sl 3 (List.map aE x1)),(.int .i64 x2),(.int .u8 x3),(.bool x4)] [] (.tup [(.sl 3 (List.map aE r.1)),(.int .i64 r.2)]) []:=by
 unfold vZ at h
 obtain⟨x5,e0,h⟩:=bsm h
 obtain⟨x6,e1,h⟩:=bsm h
 let u9:List Ans:=[.call ⟨true,[]⟩ (.ref 3 0 0 0 x1.length .virt) [(.arr 3 (List.map aE x1) 0 0 false)],.call ⟨true,[]⟩ (.bool x6) [],.rows (List.map aE x1)]
 let w10:List Prf:=[⟨(aLJ k x1 _ e1)⟩,⟨(aX aE (l:=x1) (n:=x1.length) rfl)⟩,⟨(bP aE (Nat.le_refl x1.length):0+x1.length≤(List.map aE x1).length)⟩,⟨(wJ k x1 _ e0)⟩]
 by_cases c2:x6=true
 · rw[if_pos c2] at h
   let u11:List Ans:=u9++[df,df,df,.call ⟨true,[]⟩ (.bool (iP x2 x3)) [],df,df]
   let w12:List Prf:=[⟨(nF c2)⟩,⟨(nF c2)⟩,⟨(aID x2 x3)⟩,⟨(nF c2)⟩,⟨(nF c2)⟩,⟨(nF c2)⟩]++w10
   by_cases c3:(iP x2 x3)=true
   · rw[if_pos c3] at h
     obtain⟨x7,e4,h⟩:=bsm h
     cases x7 with
     | inl x8 =>
      simp only[Sum.elim_inl] at h
      obtain⟨x9,e6,h⟩:=bsm h
      let u15:List Ans:=u11++[df,A70_0,.out (.st .normal (aNJ x1 x2 x3 x4)),.call ⟨true,[]⟩ (.tup [(.int .i64 x9.1),(.bool x9.2)]) [],.rows (List.map aE x1)]
      let w16:List Prf:=[⟨(wB k x1 x3 x2 x4 _ e6)⟩,⟨(aX aE (l:=x1) (n:=x1.length) rfl)⟩,⟨(bP aE (Nat.le_refl x1.length):0+x1.length≤(List.map aE x1).length)⟩,⟨(LT.block (mX x1 x2 x3 x4 _ k 0 e4))⟩,⟨(nF c3)⟩]++w12
      by_cases c7:x9.2=true
      · rw[if_pos c7] at h
        by_cases c8:inI x9.1 x1.length=true
        · rw[if_pos c8] at h
          obtain⟨x10,e9,h⟩:=bsm h
          let w18:List Prf:=[⟨(bX (e:=aE) e9 3 2 1 (by decide))⟩,⟨c8⟩,⟨(nF c7)⟩]++w16
          by_cases c10:x10.2.2=true
          · rw[if_pos c10] at h
            obtain rfl:=osi h
            exact Tri.of (x:=X70) mixed aCS (u15++[df,.row [(.bool x10.2.2)],dt,dt,.rows (List.map aE (List.set x1 (tN x9.1) (x10.1,x10.2.1,true))),.rows (List.map aE (List.set x1 (tN x9.1) (x10.1,x10.2.1,true)))]) ([⟨(aX aE (l:=(List.set x1 (tN x9.1) (x10.1,x10.2.1,true))) (n:=x1.length) (by simp:x1.length=List.length (α:=Int × Int × Bool) (List.set x1 (tN x9.1) (x10.1,x10.2.1,true))))⟩,⟨(bP aE (Nat.le_of_eq (by simp:x1.length=List.length (α:=Int × Int × Bool) (List.set x1 (tN x9.1) (x10.1,x10.2.1,true)))))⟩,⟨(y5 (e:=aE) e9 2 [(.bool true)] (x10.1,x10.2.1,true) rfl)⟩,⟨c8⟩,⟨c10⟩,⟨c10⟩]++w18) (by kernel_rfl)
          rw[if_neg c10] at h;replace c10:=eqf c10
          obtain rfl:=osi h
          exact Tri.of (x:=X70) mixed aCS (u15++[df,.row [(.bool x10.2.2)],df,df,.rows (List.map aE (List.set x1 (tN x9.1) (x10.1,x10.2.1,x4))),.rows (List.map aE (List.set x1 (tN x9.1) (x10.1,x10.2.1,x4)))]) ([⟨(aX aE (l:=(List.set x1 (tN x9.1) (x10.1,x10.2.1,x4))) (n:=x1.length) (by simp:x1.length=List.length (α:=Int × Int × Bool) (List.set x1 (tN x9.1) (x10.1,x10.2.1,x4))))⟩,⟨(bP aE (Nat.le_of_eq (by simp:x1.length=List.length (α:=Int × Int × Bool) (List.set x1 (tN x9.1) (x10.1,x10.2.1,x4)))))⟩,⟨(y5 (e:=aE) e9 2 [(.bool x4)] (x10.1,x10.2.1,x4) rfl)⟩,⟨c8⟩,⟨c10⟩,⟨c10⟩]++w18) (by kernel_rfl)
        rw[if_neg c8] at h;replace c8:=eqf c8
        cases h
      rw[if_neg c7] at h;replace c7:=eqf c7
      obtain⟨x10,e8,h⟩:=bsm h
      obtain rfl:=osi h
      exact Tri.of (x:=X70) mixed aCS (u15++[dt,.call ⟨false,[]⟩ (.ref 3 0 1 0 x10.length .full) [(.arr 3 (List.map aE x10) 1 1 false),(.arr 3 (List.map aE [(x3,x2,x4)]) 0 0 false)],.rows (List.map aE x10)]) ([⟨(aX aE (l:=x10) (n:=x10.length) rfl)⟩,⟨(bP aE (Nat.le_refl x10.length):0+x10.length≤(List.map aE x10).length)⟩,⟨(aHL k x9.1 x1 [(x3,x2,x4)] _ e8)⟩,⟨(nT c7)⟩]++w16) (by kernel_rfl)
     | inr x8 =>
      simp only[Sum.elim_inr] at h
      obtain rfl:=osi h
      exact Tri.of (x:=X70) mixed aCS (u11++[df,A70_0,.out (.fin (.tup [(.sl 3 (List.map aE x8.1)),(.int .i64 x8.2)]) [])]) ([⟨(LT.blockFin (id:=0) (mX x1 x2 x3 x4 _ k 0 e4))⟩,⟨(nF c3)⟩]++w12) (by kernel_rfl)
   rw[if_neg c3] at h;replace c3:=eqf c3
   obtain rfl:=osi h
   exact Tri.of (x:=X70) mixed aCS (u11++[dt,.rows (List.map aE x1)]) ([⟨(aX aE (l:=x1) (n:=x1.length) rfl)⟩,⟨(bP aE (Nat.le_refl x1.length):0+x1.length≤(List.map aE x1).length)⟩,⟨(nT c3)⟩]++w12) (by kernel_rfl)
 rw[if_neg c2] at h;replace c2:=eqf c2
 obtain rfl:=osi h
 exact Tri.of (x:=X70) mixed aCS (u9++[dt,dt,dt,dt,dt,dt,.rows (List.map aE x1)]) ([⟨(aX aE (l:=x1) (n:=x1.length) rfl)⟩,⟨(bP aE (Nat.le_refl x1.length):0+x1.length≤(List.map aE x1).length)⟩,⟨rT⟩,⟨(nT c2)⟩,⟨(nT c2)⟩,⟨(nT c2)⟩,⟨(nT c2)⟩,⟨(nT c2)⟩]++w10) (by kernel_rfl)
end Go.Ws

namespace Go.Ws
open Go.Proofs
set_option linter.unusedSimpArgs false
set_option linter.unusedVariables false
set_option maxRecDepth 1000000
set_option maxHeartbeats 4000000
noncomputable def X91_1001:Ctx:=⟨Tryz.f91,[],false⟩
theorem xZ (k:Nat) (x1:aM) (r:Unit) (h:hO k x1=some r):Tri Tryz.prog 91 [(.inl 2 (List.map aC x1))] [] (.ref 2 0 0 0 x1.length .virt) [(.arr 2 (List.map aC x1) 0 0 false)]:=by
 unfold hO at h
 by_cases c0:bT (x1.length*16)=true
 · rw[if_pos c0] at h
   obtain rfl:=osi h
   exact Tri.of (x:=X91_1001) mixed aSY [df,.n x1.length,.norm 0 ⟨[(2,[])],[⟨.tmp 2,[],some 2⟩],false,[],[]⟩,.n x1.length,.rows (List.map aC x1)] [⟨(dF aC (l:=x1) (n:=x1.length) rfl)⟩,⟨(rfl:x1.length=x1.length)⟩,⟨(zle x1.length)⟩,⟨c0⟩,⟨(aN aC x1)⟩,⟨rF⟩] (by kernel_rfl)
 rw[if_neg c0] at h;replace c0:=eqf c0
 cases h
end Go.Ws

namespace Go.Ws
open Go.Proofs
set_option linter.unusedSimpArgs false
set_option linter.unusedVariables false
set_option maxRecDepth 1000000
set_option maxHeartbeats 4000000
noncomputable def X91_1002:Ctx:=⟨Tryz.f91,[],false⟩
theorem yP:Tri Tryz.prog 91 [.nils] [] (.ref 2 0 0 0 0 .virt) [(.arr 2 (List.map aC []) 0 0 false)]:=by
 obtain⟨r,h⟩:∃r,oM=r:=⟨_,rfl⟩
 try rw[h]
 unfold oM at h
 obtain rfl:=h
 exact Tri.of (x:=X91_1002) mixed aSY [dt,.norm 0 ⟨[(2,[])],[⟨.tmp 2,[],some 2⟩],false,[],[]⟩,.n 0,.rows (List.map aC [])] [⟨(dF aC (l:=[]) (n:=0) rfl)⟩,⟨(rfl:0=0)⟩,⟨(zle 0)⟩,⟨rT⟩] (by kernel_rfl)
end Go.Ws

namespace Go.Ws
open Go.Proofs
set_option linter.unusedSimpArgs false
set_option linter.unusedVariables false
set_option maxRecDepth 1000000
set_option maxHeartbeats 4000000
theorem kK (k:Nat) (x1:aM) (r:Unit) (h:g5 k x1=some r):Tri Tryz.prog 91 [(.sl 2 (List.map aC x1))] [] (.ref 2 0 0 0 x1.length .virt) [(.arr 2 (List.map aC x1) 0 0 false)]:=by
 refine Tri.slOf (xZ k x1 r h) fun h0=>?_
 have hx:x1=[]:=by simpa using h0
 subst hx
 exact yP
end Go.Ws

namespace Go.Ws
open Go.Proofs
set_option linter.unusedSimpArgs false
set_option linter.unusedVariables false
set_option maxRecDepth 1000000
set_option maxHeartbeats 4000000
noncomputable def X88:Ctx:=⟨Tryz.f88,[],false⟩
theorem aG9 (k:Nat) (x1:Int) (x2:aM) (x3:Bool) (x4:Int) (r:Unit) (h:nA k x1 x2 x3 x4=some r):Tri Tryz.prog 88 [(.agg [(.int .i64 x1),(.sl 2 (List.map aC x2)),(.bool x3),(.int .i64 x4)])] [] (.agg [(.int .i64 x1),(.ref 2 0 0 0 x2.length .virt),(.bool x3),(.int .i64 x4)]) [(.arr 2 (List.map aC x2) 0 0 false)]:=by
 unfold nA at h
 obtain⟨x5,e0,h⟩:=bsm h
 obtain rfl:=osi h
 exact Tri.of (x:=X88) mixed aS3 [.call ⟨true,[]⟩ (.ref 2 0 0 0 x2.length .virt) [(.arr 2 (List.map aC x2) 0 0 false)],.norm 0 ⟨[(2,[])],[⟨.tmp 2,[],none⟩,⟨.cell 0 1,[],none⟩],false,[],[]⟩] [⟨(kK k x2 _ e0)⟩] (by kernel_rfl)
end Go.Ws

namespace Go.Ws
open Go.Proofs
set_option linter.unusedSimpArgs false
set_option linter.unusedVariables false
set_option maxRecDepth 1000000
set_option maxHeartbeats 4000000
noncomputable def X90:Ctx:=⟨Tryz.f90,[],true⟩
theorem aGA (x1:Int) (x2:Int):Tri Tryz.prog 90 [(.agg [(.int .u8 x1),(.int .i64 x2)])] [] (.bool (iT x1 x2)) []:=by
 obtain⟨r,h⟩:∃r,iT x1 x2=r:=⟨_,rfl⟩
 try rw[h]
 unfold iT at h
 obtain rfl:=h
 exact Tri.of (x:=X90) mixed facts90 [] [] (by kernel_rfl)
end Go.Ws

namespace Go.Ws
open Go.Proofs
set_option linter.unusedSimpArgs false
set_option linter.unusedVariables false
set_option maxRecDepth 1000000
set_option maxHeartbeats 4000000
noncomputable def X127:Ctx:=⟨Tryz.f127,[],true⟩
noncomputable def L127_0:Code:=at_ Tryz.f127 [1,0,1,4,5]
def S127_0 (x1:aM) (b6:Int):St:=⟨mkT 19 [(0,(.sl 2 (List.map aC x1))),(1,(.fn 90 [])),(7,(.int .i64 (nI x1.length))),(8,(.int .i64 b6))],[]⟩
def aKH:St:=⟨mkT 19 [],[]⟩
def O127_0 (x1:aM) (y:(Sum (Unit) (Int))):GX:=match y with
 | .inl y=>.st (.exit 0) (aKH)
 | .inr y=>.fin (.int .i64 y) []
theorem mF (x1:aM) (y:(Sum (Unit) (Int))):∀(k:Nat) (b6:Int),cQ k x1 b6=some y→LT Tryz.prog X127 L127_0 (S127_0 x1 b6) (O127_0 x1 y)
 | 0,b6,h=>by cases h
 | k+1,b6,h=>by
  rw[cQ] at h
  by_cases cL0:ltI b6 (nI x1.length)=true
  · rw[if_pos cL0] at h
    by_cases cL1:inI b6 x1.length=true
    · rw[if_pos cL1] at h
      obtain⟨jO,eL2,h⟩:=bsm h
      let u1:List Ans:=[dt,.n x1.length,.row [(.int .u8 jO.1),(.int .i64 jO.2)],.call ⟨true,[]⟩ (.bool (iT jO.1 jO.2)) []]
      let w2:List Prf:=[⟨(aGA jO.1 jO.2)⟩,⟨(bX (e:=aC) eL2 2 0 2 (by decide))⟩,⟨cL1⟩,⟨(aN aC x1)⟩,⟨cL0⟩]
      by_cases cL3:(iT jO.1 jO.2)=true
      · rw[if_pos cL3] at h
        obtain rfl:=osi h
        show LT _ _ _ _ (.fin (.int .i64 b6) [])
        exact LT.done mixed (hs:=⟨[],[],false,[],[]⟩) (es:=none) (u1++[dt]) ([⟨cL3⟩]++w2) (by kernel_rfl) (fun s h=>by cases h)
      rw[if_neg cL3] at h;replace cL3:=eqf cL3
      exact LT.next mixed (hs:=⟨[(0,[]),(1,[]),(7,[]),(8,[])],[],false,[],[]⟩) (es:=none) (u1++[df]) ([⟨cL3⟩]++w2) (by kernel_rfl) (mF x1 y k (aH .i64 b6 1) h)
    rw[if_neg cL1] at h;replace cL1:=eqf cL1
    cases h
  rw[if_neg cL0] at h;replace cL0:=eqf cL0
  obtain rfl:=osi h
  show LT _ _ _ _ (.st (.exit 0) (aKH))
  exact LT.done mixed (hs:=⟨[],[],false,[],[]⟩) (es:=(some ⟨[],[],false,[],[]⟩)) [df] [⟨cL0⟩] (by kernel_rfl) (fun s h=>by cases h)
theorem aDI (k:Nat) (x1:aM) (r:Int) (h:j9 k x1=some r):Tri Tryz.prog 127 [(.sl 2 (List.map aC x1)),(.fn 90 [])] [] (.int .i64 r) []:=by
 unfold j9 at h
 let u3:List Ans:=[.n x1.length,.norm 2 ⟨[(0,[]),(1,[]),(7,[]),(8,[])],[],false,[],[]⟩]
 obtain⟨x2,e0,h⟩:=bsm h
 cases x2 with
 | inl x3 =>
  simp only[Sum.elim_inl] at h
  obtain rfl:=osi h
  exact Tri.of (x:=X127) mixed aGV (u3++[.out (.st .normal (aKH))]) [⟨(LT.block (mF x1 _ k 0 e0))⟩,⟨(aN aC x1)⟩] (by kernel_rfl)
 | inr x3 =>
  simp only[Sum.elim_inr] at h
  obtain rfl:=osi h
  exact Tri.of (x:=X127) mixed aGV (u3++[.out (.fin (.int .i64 x3) [])]) [⟨(LT.blockFin (id:=0) (mF x1 _ k 0 e0))⟩,⟨(aN aC x1)⟩] (by kernel_rfl)
end Go.Ws

namespace Go.Ws
open Go.Proofs
set_option linter.unusedSimpArgs false
set_option linter.unusedVariables false
set_option maxRecDepth 1000000
set_option maxHeartbeats 4000000
noncomputable def X96:Ctx:=⟨Tryz.f96,[],true⟩
theorem zU (k:Nat) (x1:aM) (r:Bool) (h:iU k x1=some r):Tri Tryz.prog 96 [(.sl 2 (List.map aC x1)),(.fn 90 [])] [] (.bool r) []:=by
 unfold iU at h
 obtain⟨x2,e0,h⟩:=bsm h
 obtain rfl:=osi h
 exact Tri.of (x:=X96) mixed aTW [.call ⟨true,[]⟩ (.int .i64 x2) []] [⟨(aDI k x1 _ e0)⟩] (by kernel_rfl)
end Go.Ws

namespace Go.Ws
open Go.Proofs
set_option linter.unusedSimpArgs false
set_option linter.unusedVariables false
set_option maxRecDepth 1000000
set_option maxHeartbeats 4000000
noncomputable def X89:Ctx:=⟨Tryz.f89,[],true⟩
theorem uC (k:Nat) (x1:Int) (x2:aM) (x3:Bool) (x4:Int) (r:Bool) (h:lZ k x1 x2 x3 x4=some r):Tri Tryz.prog 89 [(.agg [(.int .i64 x1),(.sl 2 (List.map aC x2)),(.bool x3),(.int .i64 x4)])] [] (.bool r) []:=by
 unfold lZ at h
 by_cases c0:ltI x1 0=true
 · rw[if_pos c0] at h
   obtain rfl:=osi h
   exact Tri.of (x:=X89) mixed qJ [dt,dt,dt,dt,dt,dt,dt,dt,dt,dt,dt,dt,dt,dt] [⟨rT⟩,⟨rT⟩,⟨rT⟩,⟨rT⟩,⟨rT⟩,⟨rT⟩,⟨rT⟩,⟨rT⟩,⟨rT⟩,⟨rT⟩,⟨c0⟩,⟨c0⟩,⟨c0⟩,⟨c0⟩] (by kernel_rfl)
 rw[if_neg c0] at h;replace c0:=eqf c0
 by_cases c1:ltI 3 x1=true
 · rw[if_pos c1] at h
   obtain rfl:=osi h
   exact Tri.of (x:=X89) mixed qJ [df,df,df,df,dt,dt,dt,dt,dt,dt,dt,dt,dt,dt] [⟨rT⟩,⟨rT⟩,⟨rT⟩,⟨rT⟩,⟨rT⟩,⟨c1⟩,⟨c1⟩,⟨c1⟩,⟨c1⟩,⟨c1⟩,⟨c0⟩,⟨c0⟩,⟨c0⟩,⟨c0⟩] (by kernel_rfl)
 rw[if_neg c1] at h;replace c1:=eqf c1
 let u3:List Ans:=[df,df,df,df,df,df,df,.n x2.length,df,df]
 let w4:List Prf:=[⟨c1⟩,⟨c1⟩,⟨(aN aC x2)⟩,⟨c1⟩,⟨c1⟩,⟨c1⟩,⟨c0⟩,⟨c0⟩,⟨c0⟩,⟨c0⟩]
 by_cases c2:ltI 50 (nI x2.length)=true
 · rw[if_pos c2] at h
   obtain rfl:=osi h
   exact Tri.of (x:=X89) mixed qJ (u3++[dt,dt,dt,dt,dt]) ([⟨rT⟩,⟨c2⟩,⟨c2⟩,⟨c2⟩,⟨c2⟩]++w4) (by kernel_rfl)
 rw[if_neg c2] at h;replace c2:=eqf c2
 obtain⟨x5,e3,h⟩:=bsm h
 let u5:List Ans:=u3++[df,df,df,.call ⟨true,[]⟩ (.bool x5) [],df]
 let w6:List Prf:=[⟨c2⟩,⟨(zU k x2 _ e3)⟩,⟨c2⟩,⟨c2⟩,⟨c2⟩]++w4
 by_cases c4:x5=true
 · rw[if_pos c4] at h
   obtain rfl:=osi h
   exact Tri.of (x:=X89) mixed qJ (u5++[dt]) ([⟨c4⟩]++w6) (by kernel_rfl)
 rw[if_neg c4] at h;replace c4:=eqf c4
 by_cases c5:eqI x4 1=true
 · rw[if_pos c5] at h
   by_cases c6:eqI x1 3=true
   · rw[if_pos c6] at h
     obtain rfl:=osi h
     exact Tri.of (x:=X89) mixed qJ (u5++[df,dt,dt,dt,dt,dt]) ([⟨c6⟩,⟨c5⟩,⟨c5⟩,⟨c5⟩,⟨c5⟩,⟨c4⟩]++w6) (by kernel_rfl)
   rw[if_neg c6] at h;replace c6:=eqf c6
   let w12:List Prf:=[⟨c6⟩,⟨c5⟩,⟨c5⟩,⟨c5⟩,⟨c5⟩,⟨c4⟩]++w6
   by_cases c7:eqI x4 0=true
   · rw[if_pos c7] at h
     let u13:List Ans:=u5++[df,dt,dt,dt,dt,df,dt,dt,dt,dt]
     by_cases c8:x3=true
     · rw[if_pos c8] at h
       obtain rfl:=osi h
       exact Tri.of (x:=X89) mixed qJ (u13++[df,df,df,dt,df,dt]) ([⟨c7⟩,⟨(nF c8)⟩,⟨c7⟩,⟨(nF c8)⟩,⟨(nF c8)⟩,⟨(nF c8)⟩,⟨c7⟩,⟨c7⟩,⟨c7⟩,⟨c7⟩]++w12) (by kernel_rfl)
     rw[if_neg c8] at h;replace c8:=eqf c8
     obtain rfl:=osi h
     exact Tri.of (x:=X89) mixed qJ (u13++[dt,dt,dt,dt,dt,dt]) ([⟨c7⟩,⟨(nT c8)⟩,⟨c7⟩,⟨(nT c8)⟩,⟨(nT c8)⟩,⟨(nT c8)⟩,⟨c7⟩,⟨c7⟩,⟨c7⟩,⟨c7⟩]++w12) (by kernel_rfl)
   rw[if_neg c7] at h;replace c7:=eqf c7
   obtain rfl:=osi h
   exact Tri.of (x:=X89) mixed qJ (u5++[df,dt,dt,dt,dt,df,df,df,df,df,df,df]) ([⟨c7⟩,⟨c7⟩,⟨c7⟩,⟨c7⟩,⟨c7⟩,⟨c7⟩]++w12) (by kernel_rfl)
 rw[if_neg c5] at h;replace c5:=eqf c5
 by_cases c6:eqI x1 3=true
 · rw[if_pos c6] at h
   obtain rfl:=osi h
   exact Tri.of (x:=X89) mixed qJ (u5++[df,df,df,df,df,dt]) ([⟨c6⟩,⟨c5⟩,⟨c5⟩,⟨c5⟩,⟨c5⟩,⟨c4⟩]++w6) (by kernel_rfl)
 rw[if_neg c6] at h;replace c6:=eqf c6
 let w18:List Prf:=[⟨c6⟩,⟨c5⟩,⟨c5⟩,⟨c5⟩,⟨c5⟩,⟨c4⟩]++w6
 by_cases c7:eqI x4 0=true
 · rw[if_pos c7] at h
   let u19:List Ans:=u5++[df,df,df,df,df,df,dt,dt,dt,dt]
   by_cases c8:x3=true
   · rw[if_pos c8] at h
     obtain rfl:=osi h
     exact Tri.of (x:=X89) mixed qJ (u19++[df,df,df,dt,df,dt]) ([⟨c7⟩,⟨(nF c8)⟩,⟨c7⟩,⟨(nF c8)⟩,⟨(nF c8)⟩,⟨(nF c8)⟩,⟨c7⟩,⟨c7⟩,⟨c7⟩,⟨c7⟩]++w18) (by kernel_rfl)
   rw[if_neg c8] at h;replace c8:=eqf c8
   obtain rfl:=osi h
   exact Tri.of (x:=X89) mixed qJ (u19++[dt,dt,dt,dt,dt,dt]) ([⟨c7⟩,⟨(nT c8)⟩,⟨c7⟩,⟨(nT c8)⟩,⟨(nT c8)⟩,⟨(nT c8)⟩,⟨c7⟩,⟨c7⟩,⟨c7⟩,⟨c7⟩]++w18) (by kernel_rfl)
 rw[if_neg c7] at h;replace c7:=eqf c7
 obtain rfl:=osi h
 exact Tri.of (x:=X89) mixed qJ (u5++[df,df,df,df,df,df,df,df,df,df,df,df]) ([⟨c7⟩,⟨c7⟩,⟨c7⟩,⟨c7⟩,⟨c7⟩,⟨c7⟩]++w18) (by kernel_rfl)
end Go.Ws

namespace Go.Ws
open Go.Proofs
set_option linter.unusedSimpArgs false
set_option linter.unusedVariables false
set_option maxRecDepth 1000000
set_option maxHeartbeats 4000000
noncomputable def X71:Ctx:=⟨Tryz.f71,[],true⟩
theorem aQM (k:Nat) (x1:Int) (x2:aM) (x3:Bool) (x4:Int) (x5:Int) (x6:Int) (r:Int × aM × Bool × Int × Int) (h:yL k x1 x2 x3 x4 x5 x6=some r):Tri Tryz.prog 71 [(.agg [(.int .i64 x1),(.sl 2 (List.map aC x2)),(.bool x3),(.int .i64 x4)]),(.agg [(.int .u8 x5),(.int .i64 x6)])] [] (.tup [(.agg [(.int .i64 r.1),(.sl 2 (List.map aC r.2.1)),(.bool r.2.2.1),(.int .i64 r.2.2.2.1)]),(.int .i64 r.2.2.2.2)]) []:=by
 unfold yL at h
 obtain⟨x7,e0,h⟩:=bsm h
 obtain⟨x8,e1,h⟩:=bsm h
 let u1:List Ans:=[.call ⟨true,[]⟩ (.agg [(.int .i64 x1),(.ref 2 0 0 0 x2.length .virt),(.bool x3),(.int .i64 x4)]) [(.arr 2 (List.map aC x2) 0 0 false)],.call ⟨true,[]⟩ (.bool x8) [],.rows (List.map aC x2)]
 let w2:List Prf:=[⟨(uC k x1 x2 x3 x4 _ e1)⟩,⟨(aX aC (l:=x2) (n:=x2.length) rfl)⟩,⟨(bP aC (Nat.le_refl x2.length):0+x2.length≤(List.map aC x2).length)⟩,⟨(aG9 k x1 x2 x3 x4 _ e0)⟩]
 by_cases c2:x8=true
 · rw[if_pos c2] at h
   let u3:List Ans:=u1++[df,df,.call ⟨true,[]⟩ (.bool (iT x5 x6)) [],df]
   let w4:List Prf:=[⟨(nF c2)⟩,⟨(aGA x5 x6)⟩,⟨(nF c2)⟩,⟨(nF c2)⟩]++w2
   by_cases c3:(iT x5 x6)=true
   · rw[if_pos c3] at h
     obtain rfl:=osi h
     exact Tri.of (x:=X71) mixed aFP (u3++[dt,.rows (List.map aC x2)]) ([⟨(aX aC (l:=x2) (n:=x2.length) rfl)⟩,⟨(bP aC (Nat.le_refl x2.length):0+x2.length≤(List.map aC x2).length)⟩,⟨c3⟩]++w4) (by kernel_rfl)
   rw[if_neg c3] at h;replace c3:=eqf c3
   by_cases c4:eqI x1 0=true
   · rw[if_pos c4] at h
     by_cases c5:ltI (nI x2.length) 50=true
     · rw[if_pos c5] at h
       by_cases c6:bT (((x2++[(x5,x6)]).length)*16)=true
       · rw[if_pos c6] at h
         obtain rfl:=osi h
         exact Tri.of (x:=X71) mixed aFP (u3++[df,df,df,.rows (List.map aC [(x5,x6)]),.n ((x2++[(x5,x6)]).length),.n x2.length,dt,.rows (List.map aC (x2++[(x5,x6)])),.rows (List.map aC (x2++[(x5,x6)]))]) ([⟨(aX aC (l:=(x2++[(x5,x6)])) (n:=((x2++[(x5,x6)]).length)) rfl)⟩,⟨(bP aC (Nat.le_refl ((x2++[(x5,x6)]).length)):0+(x2++[(x5,x6)]).length≤(List.map aC (x2++[(x5,x6)])).length)⟩,⟨(jY aC x2 [(x5,x6)])⟩,⟨(i5 x2.length)⟩,⟨(aN aC x2)⟩,⟨c6⟩,⟨(by simp only[wl,List.length_map,List.map_nil,List.map_cons]<;>omega:x2.length+(List.map aC [(x5,x6)]).length=(x2++[(x5,x6)]).length)⟩,⟨(aX aC (l:=[(x5,x6)]) (n:=1) rfl)⟩,⟨(bP aC (Nat.le_refl 1):0+1≤(List.map aC [(x5,x6)]).length)⟩,⟨(nF c5)⟩,⟨(nF c4)⟩,⟨c3⟩]++w4) (by kernel_rfl)
       rw[if_neg c6] at h;replace c6:=eqf c6
       cases h
     rw[if_neg c5] at h;replace c5:=eqf c5
     obtain rfl:=osi h
     exact Tri.of (x:=X71) mixed aFP (u3++[df,df,dt,.rows (List.map aC x2)]) ([⟨(aX aC (l:=x2) (n:=x2.length) rfl)⟩,⟨(bP aC (Nat.le_refl x2.length):0+x2.length≤(List.map aC x2).length)⟩,⟨(nT c5)⟩,⟨(nF c4)⟩,⟨c3⟩]++w4) (by kernel_rfl)
   rw[if_neg c4] at h;replace c4:=eqf c4
   obtain rfl:=osi h
   exact Tri.of (x:=X71) mixed aFP (u3++[df,dt,.rows (List.map aC x2)]) ([⟨(aX aC (l:=x2) (n:=x2.length) rfl)⟩,⟨(bP aC (Nat.le_refl x2.length):0+x2.length≤(List.map aC x2).length)⟩,⟨(nT c4)⟩,⟨c3⟩]++w4) (by kernel_rfl)
 rw[if_neg c2] at h;replace c2:=eqf c2
 obtain rfl:=osi h
 exact Tri.of (x:=X71) mixed aFP (u1++[dt,dt,dt,dt,.rows (List.map aC x2)]) ([⟨(aX aC (l:=x2) (n:=x2.length) rfl)⟩,⟨(bP aC (Nat.le_refl x2.length):0+x2.length≤(List.map aC x2).length)⟩,⟨rT⟩,⟨(nT c2)⟩,⟨(nT c2)⟩,⟨(nT c2)⟩]++w2) (by kernel_rfl)
end Go.Ws

namespace Go.Ws
open Go.Proofs
set_option linter.unusedSimpArgs false
set_option linter.unusedVariables false
set_option maxRecDepth 1000000
set_option maxHeartbeats 4000000
noncomputable def X39:Ctx:=⟨Tryz.f39,[],true⟩
noncomputable def L39_0:Code:=at_ Tryz.f39 [1,0,1,4,5]
def S39_0 (x1:aM) (x2:Int) (dJ:Int):St:=⟨mkT 20 [(1,(.int .u8 x2)),(7,(.sl 2 (List.map aC x1))),(8,(.int .i64 (nI x1.length))),(9,(.int .i64 dJ))],[]⟩
def aNX:St:=⟨mkT 20 [],[]⟩
def O39_0 (x1:aM) (x2:Int) (y:(Sum (Unit) (Int))):GX:=match y with
 | .inl y=>.st (.exit 0) (aNX)
 | .inr y=>.fin (.int .i64 y) []
theorem t8 (x1:aM) (x2:Int) (y:(Sum (Unit) (Int))):∀(k:Nat) (dJ:Int),gJ k x1 x2 dJ=some y→LT Tryz.prog X39 L39_0 (S39_0 x1 x2 dJ) (O39_0 x1 x2 y)
 | 0,dJ,h=>by cases h
 | k+1,dJ,h=>by
  rw[gJ] at h
  by_cases cL0:ltI dJ (nI x1.length)=true
  · rw[if_pos cL0] at h
    by_cases cL1:inI dJ x1.length=true
    · rw[if_pos cL1] at h
      obtain⟨qE,eL2,h⟩:=bsm h
      let u1:List Ans:=[dt,.n x1.length,.row [(.int .u8 qE.1),(.int .i64 qE.2)]]
      let w2:List Prf:=[⟨(bX (e:=aC) eL2 2 0 2 (by decide))⟩,⟨cL1⟩,⟨(aN aC x1)⟩,⟨cL0⟩]
      by_cases cL3:eqI qE.1 x2=true
      · rw[if_pos cL3] at h
        obtain rfl:=osi h
        show LT _ _ _ _ (.fin (.int .i64 qE.2) [])
        exact LT.done mixed (hs:=⟨[],[],false,[],[]⟩) (es:=none) (u1++[dt]) ([⟨cL3⟩]++w2) (by kernel_rfl) (fun s h=>by cases h)
      rw[if_neg cL3] at h;replace cL3:=eqf cL3
      exact LT.next mixed (hs:=⟨[(1,[]),(7,[]),(8,[]),(9,[])],[],false,[],[]⟩) (es:=none) (u1++[df]) ([⟨cL3⟩]++w2) (by kernel_rfl) (t8 x1 x2 y k (aH .i64 dJ 1) h)
    rw[if_neg cL1] at h;replace cL1:=eqf cL1
    cases h
  rw[if_neg cL0] at h;replace cL0:=eqf cL0
  obtain rfl:=osi h
  show LT _ _ _ _ (.st (.exit 0) (aNX))
  exact LT.done mixed (hs:=⟨[],[],false,[],[]⟩) (es:=(some ⟨[],[],false,[],[]⟩)) [df] [⟨cL0⟩] (by kernel_rfl) (fun s h=>by cases h)
theorem aD8 (k:Nat) (x1:aM) (x2:Int) (r:Int) (h:qR k x1 x2=some r):Tri Tryz.prog 39 [(.sl 2 (List.map aC x1)),(.int .u8 x2)] [] (.int .i64 r) []:=by
 unfold qR at h
 let u3:List Ans:=[.n x1.length,.norm 2 ⟨[(1,[]),(7,[]),(8,[]),(9,[])],[],false,[],[]⟩]
 obtain⟨x3,e0,h⟩:=bsm h
 cases x3 with
 | inl x4 =>
  simp only[Sum.elim_inl] at h
  obtain rfl:=osi h
  exact Tri.of (x:=X39) mixed aTB (u3++[.out (.st .normal (aNX))]) [⟨(LT.block (t8 x1 x2 _ k 0 e0))⟩,⟨(aN aC x1)⟩] (by kernel_rfl)
 | inr x4 =>
  simp only[Sum.elim_inr] at h
  obtain rfl:=osi h
  exact Tri.of (x:=X39) mixed aTB (u3++[.out (.fin (.int .i64 x4) [])]) [⟨(LT.blockFin (id:=0) (t8 x1 x2 _ k 0 e0))⟩,⟨(aN aC x1)⟩] (by kernel_rfl)
end Go.Ws

namespace Go.Ws
open Go.Proofs
set_option linter.unusedSimpArgs false
set_option linter.unusedVariables false
set_option maxRecDepth 1000000
set_option maxHeartbeats 4000000
noncomputable def X88_1:Ctx:=⟨Tryz.f88,[],true⟩
theorem qX (k:Nat) (x1:Int) (x2:aM) (x3:Bool) (x4:Int) (r:Int × aM × Bool × Int) (h:iV k x1 x2 x3 x4=some r):Tri Tryz.prog 88 [(.agg [(.int .i64 x1),(.sl 2 (List.map aC x2)),(.bool x3),(.int .i64 x4)])] [] (.agg [(.int .i64 r.1),(.sl 2 (List.map aC r.2.1)),(.bool r.2.2.1),(.int .i64 r.2.2.2)]) []:=by
 unfold iV at h
 obtain⟨x5,e0,h⟩:=bsm h
 obtain rfl:=osi h
 exact Tri.of (x:=X88_1) mixed aS3 [.call ⟨true,[]⟩ (.ref 2 0 0 0 x2.length .virt) [(.arr 2 (List.map aC x2) 0 0 false)],.rows (List.map aC x2)] [⟨(aX aC (l:=x2) (n:=x2.length) rfl)⟩,⟨(bP aC (Nat.le_refl x2.length):0+x2.length≤(List.map aC x2).length)⟩,⟨(kK k x2 _ e0)⟩] (by kernel_rfl)
end Go.Ws

namespace Go.Ws
open Go.Proofs
set_option linter.unusedSimpArgs false
set_option linter.unusedVariables false
set_option maxRecDepth 1000000
set_option maxHeartbeats 4000000
noncomputable def X72:Ctx:=⟨Tryz.f72,[],true⟩
theorem aNC (k:Nat) (x1:Int) (x2:aM) (x3:Bool) (x4:Int) (x5:Bool) (r:Int × aM × Bool × Int × Int) (h:v8 k x1 x2 x3 x4 x5=some r):Tri Tryz.prog 72 [(.agg [(.int .i64 x1),(.sl 2 (List.map aC x2)),(.bool x3),(.int .i64 x4)]),(.bool x5)] [] (.tup [(.agg [(.int .i64 r.1),(.sl 2 (List.map aC r.2.1)),(.bool r.2.2.1),(.int .i64 r.2.2.2.1)]),(.int .i64 r.2.2.2.2)]) []:=by
 unfold v8 at h
 obtain⟨x6,e0,h⟩:=bsm h
 obtain⟨x7,e1,h⟩:=bsm h
 let u1:List Ans:=[.call ⟨true,[]⟩ (.agg [(.int .i64 x6.1),(.sl 2 (List.map aC x6.2.1)),(.bool x6.2.2.1),(.int .i64 x6.2.2.2)]) [],.call ⟨true,[]⟩ (.bool x7) []]
 let w2:List Prf:=[⟨(uC k x6.1 x6.2.1 x6.2.2.1 x6.2.2.2 _ e1)⟩,⟨(qX k x1 x2 x3 x4 _ e0)⟩]
 by_cases c2:x7=true
 · rw[if_pos c2] at h
   by_cases c3:eqI x6.1 0=true
   · rw[if_pos c3] at h
     by_cases c4:x5=true
     · rw[if_pos c4] at h
       obtain rfl:=osi h
       exact Tri.of (x:=X72) mixed aI0 (u1++[df,df,dt]) ([⟨c4⟩,⟨(nF c3)⟩,⟨(nF c2)⟩]++w2) (by kernel_rfl)
     rw[if_neg c4] at h;replace c4:=eqf c4
     obtain rfl:=osi h
     exact Tri.of (x:=X72) mixed aI0 (u1++[df,df,df]) ([⟨c4⟩,⟨(nF c3)⟩,⟨(nF c2)⟩]++w2) (by kernel_rfl)
   rw[if_neg c3] at h;replace c3:=eqf c3
   obtain rfl:=osi h
   exact Tri.of (x:=X72) mixed aI0 (u1++[df,dt]) ([⟨(nT c3)⟩,⟨(nF c2)⟩]++w2) (by kernel_rfl)
 rw[if_neg c2] at h;replace c2:=eqf c2
 obtain rfl:=osi h
 exact Tri.of (x:=X72) mixed aI0 (u1++[dt]) ([⟨(nT c2)⟩]++w2) (by kernel_rfl)
end Go.Ws

namespace Go.Ws
open Go.Proofs
set_option linter.unusedSimpArgs false
set_option linter.unusedVariables false
set_option maxRecDepth 1000000
set_option maxHeartbeats 4000000
noncomputable def X94_1001:Ctx:=⟨Tryz.f94,[],false⟩
theorem yO (k:Nat) (x1:aM) (r:Unit) (h:iB k x1=some r):Tri Tryz.prog 94 [(.inl 2 (List.map aC x1))] [] (.ref 2 0 0 0 x1.length .virt) [(.arr 2 (List.map aC x1) 0 0 false)]:=by
 unfold iB at h
 by_cases c0:bT (x1.length*16)=true
 · rw[if_pos c0] at h
   obtain rfl:=osi h
   exact Tri.of (x:=X94_1001) mixed aT0 [df,.n x1.length,.norm 0 ⟨[(2,[])],[⟨.tmp 2,[],some 2⟩],false,[],[]⟩,.n x1.length,.rows (List.map aC x1)] [⟨(dF aC (l:=x1) (n:=x1.length) rfl)⟩,⟨(rfl:x1.length=x1.length)⟩,⟨(zle x1.length)⟩,⟨c0⟩,⟨(aN aC x1)⟩,⟨rF⟩] (by kernel_rfl)
 rw[if_neg c0] at h;replace c0:=eqf c0
 cases h
end Go.Ws

namespace Go.Ws
open Go.Proofs
set_option linter.unusedSimpArgs false
set_option linter.unusedVariables false
set_option maxRecDepth 1000000
set_option maxHeartbeats 4000000
noncomputable def X94_1002:Ctx:=⟨Tryz.f94,[],false⟩
theorem y9:Tri Tryz.prog 94 [.nils] [] (.ref 2 0 0 0 0 .virt) [(.arr 2 (List.map aC []) 0 0 false)]:=by
 obtain⟨r,h⟩:∃r,n8=r:=⟨_,rfl⟩
 try rw[h]
 unfold n8 at h
 obtain rfl:=h
 exact Tri.of (x:=X94_1002) mixed aT0 [dt,.norm 0 ⟨[(2,[])],[⟨.tmp 2,[],some 2⟩],false,[],[]⟩,.n 0,.rows (List.map aC [])] [⟨(dF aC (l:=[]) (n:=0) rfl)⟩,⟨(rfl:0=0)⟩,⟨(zle 0)⟩,⟨rT⟩] (by kernel_rfl)
end Go.Ws

namespace Go.Ws
open Go.Proofs
set_option linter.unusedSimpArgs false
set_option linter.unusedVariables false
set_option maxRecDepth 1000000
set_option maxHeartbeats 4000000
theorem aEV (k:Nat) (x1:aM) (r:Unit) (h:m8 k x1=some r):Tri Tryz.prog 94 [(.sl 2 (List.map aC x1))] [] (.ref 2 0 0 0 x1.length .virt) [(.arr 2 (List.map aC x1) 0 0 false)]:=by
 refine Tri.slOf (yO k x1 r h) fun h0=>?_
 have hx:x1=[]:=by simpa using h0
 subst hx
 exact y9
end Go.Ws

namespace Go.Ws
open Go.Proofs
set_option linter.unusedSimpArgs false
set_option linter.unusedVariables false
set_option maxRecDepth 1000000
set_option maxHeartbeats 4000000
noncomputable def X95:Ctx:=⟨Tryz.f95,[],true⟩
noncomputable def L95_0:Code:=at_ Tryz.f95 [1,0,1,4,5]
def S95_0 (x1:aM) (bU:Int):St:=⟨mkT 36 [(0,(.sl 2 (List.map aC x1))),(5,(.sl 2 (List.map aC x1))),(6,(.int .i64 (nI x1.length))),(7,(.int .i64 bU))],[]⟩
def aNE:St:=⟨mkT 36 [],[]⟩
def O95_0 (x1:aM) (y:(Sum (Unit) (Bool))):GX:=match y with
 | .inl y=>.st (.exit 0) (aNE)
 | .inr y=>.fin (.bool y) []
theorem l9 (x1:aM) (y:(Sum (Unit) (Bool))):∀(k:Nat) (bU:Int),dS k x1 bU=some y→LT Tryz.prog X95 L95_0 (S95_0 x1 bU) (O95_0 x1 y)
 | 0,bU,h=>by cases h
 | k+1,bU,h=>by
  rw[dS] at h
  by_cases cL0:ltI bU (nI x1.length)=true
  · rw[if_pos cL0] at h
    by_cases cL1:inI bU x1.length=true
    · rw[if_pos cL1] at h
      obtain⟨lW,eL2,h⟩:=bsm h
      let u1:List Ans:=[dt,.n x1.length,.row [(.int .u8 lW.1),(.int .i64 lW.2)]]
      let w2:List Prf:=[⟨(bX (e:=aC) eL2 2 0 2 (by decide))⟩,⟨cL1⟩,⟨(aN aC x1)⟩,⟨cL0⟩]
      by_cases cL3:ltI lW.1 64=true
      · rw[if_pos cL3] at h
        let w4:List Prf:=[⟨(nF cL3)⟩,⟨(nF cL3)⟩,⟨(nF cL3)⟩,⟨(nF cL3)⟩]++w2
        by_cases cL4:eqI lW.2 0=true
        · rw[if_pos cL4] at h
          obtain rfl:=osi h
          show LT _ _ _ _ (.fin (.bool false) [])
          exact LT.done mixed (hs:=⟨[],[],false,[],[]⟩) (es:=none) (u1++[df,df,df,df,dt,dt,dt,dt,dt,dt]) ([⟨rT⟩,⟨cL4⟩,⟨cL4⟩,⟨cL4⟩,⟨cL4⟩,⟨cL4⟩]++w4) (by kernel_rfl) (fun s h=>by cases h)
        rw[if_neg cL4] at h;replace cL4:=eqf cL4
        by_cases cL5:ltI 0 bU=true
        · rw[if_pos cL5] at h
          by_cases cL6:inI (vS .i64 bU 1) x1.length=true
          · rw[if_pos cL6] at h
            obtain⟨zK,eL7,h⟩:=bsm h
            let u7:List Ans:=u1++[df,df,df,df,df,df,df,dt,dt,dt,dt,.n x1.length,dt,dt,.row [(.int .u8 zK.1)],dt,dt,dt,df,dt,df]
            let w8:List Prf:=[⟨cL4⟩,⟨cL5⟩,⟨cL4⟩,⟨cL5⟩,⟨cL5⟩,⟨cL5⟩,⟨(bX (e:=aC) eL7 2 0 1 (by decide))⟩,⟨cL5⟩,⟨cL5⟩,⟨cL6⟩,⟨(aN aC x1)⟩,⟨cL5⟩,⟨cL5⟩,⟨cL5⟩,⟨cL5⟩,⟨cL4⟩,⟨cL4⟩,⟨cL4⟩]++w4
            by_cases cL8:ltI zK.1 lW.1=true
            · rw[if_pos cL8] at h
              exact LT.next mixed (hs:=⟨[(0,[]),(5,[]),(6,[]),(7,[])],[],false,[],[]⟩) (es:=none) (u7++[df]) ([⟨(nF cL8)⟩]++w8) (by kernel_rfl) (l9 x1 y k (aH .i64 bU 1) h)
            rw[if_neg cL8] at h;replace cL8:=eqf cL8
            obtain rfl:=osi h
            show LT _ _ _ _ (.fin (.bool false) [])
            exact LT.done mixed (hs:=⟨[],[],false,[],[]⟩) (es:=none) (u7++[dt]) ([⟨(nT cL8)⟩]++w8) (by kernel_rfl) (fun s h=>by cases h)
          rw[if_neg cL6] at h;replace cL6:=eqf cL6
          cases h
        rw[if_neg cL5] at h;replace cL5:=eqf cL5
        exact LT.next mixed (hs:=⟨[(0,[]),(5,[]),(6,[]),(7,[])],[],false,[],[]⟩) (es:=none) (u1++[df,df,df,df,df,df,df,df,df,df,df,df,df,df,df,df,df,df,df,df]) ([⟨rF⟩,⟨cL4⟩,⟨cL5⟩,⟨cL4⟩,⟨cL5⟩,⟨cL5⟩,⟨cL5⟩,⟨cL5⟩,⟨cL5⟩,⟨cL5⟩,⟨cL5⟩,⟨cL5⟩,⟨cL5⟩,⟨cL4⟩,⟨cL4⟩,⟨cL4⟩]++w4) (by kernel_rfl) (l9 x1 y k (aH .i64 bU 1) h)
      rw[if_neg cL3] at h;replace cL3:=eqf cL3
      obtain rfl:=osi h
      show LT _ _ _ _ (.fin (.bool false) [])
      exact LT.done mixed (hs:=⟨[],[],false,[],[]⟩) (es:=none) (u1++[dt,dt,dt,dt,dt,dt,dt,dt,dt,dt]) ([⟨rT⟩,⟨rT⟩,⟨rT⟩,⟨rT⟩,⟨rT⟩,⟨rT⟩,⟨(nT cL3)⟩,⟨(nT cL3)⟩,⟨(nT cL3)⟩,⟨(nT cL3)⟩]++w2) (by kernel_rfl) (fun s h=>by cases h)
    rw[if_neg cL1] at h;replace cL1:=eqf cL1
    cases h
  rw[if_neg cL0] at h;replace cL0:=eqf cL0
  obtain rfl:=osi h
  show LT _ _ _ _ (.st (.exit 0) (aNE))
  exact LT.done mixed (hs:=⟨[],[],false,[],[]⟩) (es:=(some ⟨[],[],false,[],[]⟩)) [df] [⟨cL0⟩] (by kernel_rfl) (fun s h=>by cases h)
theorem aIK (k:Nat) (x1:aM) (r:Bool) (h:o5 k x1=some r):Tri Tryz.prog 95 [(.sl 2 (List.map aC x1))] [] (.bool r) []:=by
 unfold o5 at h
 let u9:List Ans:=[.n x1.length,.norm 2 ⟨[(0,[]),(5,[]),(6,[]),(7,[])],[],false,[],[]⟩]
 obtain⟨x2,e0,h⟩:=bsm h
 cases x2 with
 | inl x3 =>
  simp only[Sum.elim_inl] at h
  obtain rfl:=osi h
  exact Tri.of (x:=X95) mixed aTS (u9++[.out (.st .normal (aNE))]) [⟨(LT.block (l9 x1 _ k 0 e0))⟩,⟨(aN aC x1)⟩] (by kernel_rfl)
 | inr x3 =>
  simp only[Sum.elim_inr] at h
  obtain rfl:=osi h
  exact Tri.of (x:=X95) mixed aTS (u9++[.out (.fin (.bool x3) [])]) [⟨(LT.blockFin (id:=0) (l9 x1 _ k 0 e0))⟩,⟨(aN aC x1)⟩] (by kernel_rfl)
end Go.Ws

namespace Go.Ws
open Go.Proofs
set_option linter.unusedSimpArgs false
set_option linter.unusedVariables false
set_option maxRecDepth 1000000
set_option maxHeartbeats 4000000
noncomputable def X93:Ctx:=⟨Tryz.f93,[],false⟩
theorem aIO (x1:Int) (x2:Int):Tri Tryz.prog 93 [(.agg [(.int .u8 x1),(.int .i64 x2)])] [] (.bool (!ltI x1 64)) []:=by
 obtain⟨r,h⟩:∃r,aAG x1 x2=r:=⟨_,rfl⟩
 try rw[h]
 unfold aAG at h
 obtain rfl:=h
 exact Tri.of (x:=X93) mixed facts93 [.norm 0 ⟨[(2,[])],[],false,[],[]⟩] [] (by kernel_rfl)
end Go.Ws
