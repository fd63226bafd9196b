/-
  Walks, merged.
  Conditions: none.
-/
import Derived.Test.YtipeekdnpocclaaZPre
import Derived.Test.YtipeekdnpocclaaZPure
import Derived.Test.YtipeekdnpocclaaZIns72
import Derived.Test.YtipeekdnpocclaaZDel45
import Derived.Test.YtipeekdnpocclaaZIns44
import Derived.Test.YtipeekdnpocclaaZOppI
import Derived.Test.YtipeekdnpocclaaZAgr
set_option linter.unusedVariables false
set_option linter.unusedSimpArgs false
namespace Go.Ws
open Go.Proofs
set_option linter.unusedSimpArgs false
set_option linter.unusedVariables false
set_option maxRecDepth 1000000
set_option maxHeartbeats 4000000
noncomputable def X26:Ctx:=⟨Try.f26,[],true⟩
theorem aJO:Tri Try.prog 26 [] [] (.sl 4 (List.map aC (aQ))) []:=by
 obtain⟨r,h⟩:∃r,aQ=r:=⟨_,rfl⟩
 try rw[h]
 unfold aQ at h
 obtain rfl:=h
 exact Tri.of (x:=X26) aF facts26 [.rows (List.map aC [(1,1,0,0),(3,1,0,5),(4,1,0,1),(5,1,0,0),(6,1,0,2)])] [⟨(aV aC (l:=[(1,1,0,0),(3,1,0,5),(4,1,0,1),(5,1,0,0),(6,1,0,2)]) (n:=5) rfl)⟩,⟨(bV aC (Nat.le_refl 5):0+5≤(List.map aC [(1,1,0,0),(3,1,0,5),(4,1,0,1),(5,1,0,0),(6,1,0,2)]).length)⟩] (by kernel_rfl)
end Go.Ws

namespace Go.Ws
open Go.Proofs
set_option linter.unusedSimpArgs false
set_option linter.unusedVariables false
set_option maxRecDepth 1000000
set_option maxHeartbeats 4000000
noncomputable def X20:Ctx:=⟨Try.f20,[],false⟩
theorem aRG:Tri Try.prog 20 [] [] (.hp 0 0) [(.row [.nils,.nils,(.mp 1),.nils]),(.map (dW .i64 (fun y=>AV.agg (aK y)) ([]:Ty2)) ([]:Ty2).length)]:=by
 obtain⟨r,h⟩:∃r,aLA=r:=⟨_,rfl⟩
 try rw[h]
 unfold aLA at h
 obtain rfl:=h
 exact Tri.of (x:=X20) aF facts20 [.norm 0 ⟨[(0,[])],[⟨.tmp 0,[],none⟩,⟨.cell 0 2,[],none⟩],false,[],[]⟩] [] (by kernel_rfl)
end Go.Ws

namespace Go.Ws
open Go.Proofs
set_option linter.unusedSimpArgs false
set_option linter.unusedVariables false
set_option maxRecDepth 1000000
set_option maxHeartbeats 4000000
noncomputable def X67_1001:Ctx:=⟨Try.f67,[],false⟩
theorem aD2 (k:Nat) (x1:Ty8) (r:Unit) (h:lF k x1=some r):Tri Try.prog 67 [(.inl 3 (List.map aA x1))] [] (.ref 3 0 0 0 x1.length .virt) [(.arr 3 (List.map aA x1) 0 0 false)]:=by
 unfold lF at h
 by_cases c0:bC (x1.length*24)=true
 · rw[if_pos c0] at h
   obtain rfl:=osi h
   exact Tri.of (x:=X67_1001) aF aVK [df,.n x1.length,.norm 0 ⟨[(2,[])],[⟨.tmp 2,[],some 3⟩],false,[],[]⟩,.n x1.length,.rows (List.map aA x1)] [⟨(bK aA (l:=x1) (n:=x1.length) rfl)⟩,⟨(rfl:x1.length=x1.length)⟩,⟨(zle x1.length)⟩,⟨c0⟩,⟨(aJ aA x1)⟩,⟨rF⟩] (by kernel_rfl)
 rw[if_neg c0] at h;replace c0:=eqf c0
 cases h
end Go.Ws

namespace Go.Ws
open Go.Proofs
set_option linter.unusedSimpArgs false
set_option linter.unusedVariables false
set_option maxRecDepth 1000000
set_option maxHeartbeats 4000000
noncomputable def X67_1002:Ctx:=⟨Try.f67,[],false⟩
theorem aC9:Tri Try.prog 67 [.nils] [] (.ref 3 0 0 0 0 .virt) [(.arr 3 (List.map aA []) 0 0 false)]:=by
 obtain⟨r,h⟩:∃r,uJ=r:=⟨_,rfl⟩
 try rw[h]
 unfold uJ at h
 obtain rfl:=h
 exact Tri.of (x:=X67_1002) aF aVK [dt,.norm 0 ⟨[(2,[])],[⟨.tmp 2,[],some 3⟩],false,[],[]⟩,.n 0,.rows (List.map aA [])] [⟨(bK aA (l:=[]) (n:=0) rfl)⟩,⟨(rfl:0=0)⟩,⟨(zle 0)⟩,⟨rT⟩] (by kernel_rfl)
end Go.Ws

namespace Go.Ws
open Go.Proofs
set_option linter.unusedSimpArgs false
set_option linter.unusedVariables false
set_option maxRecDepth 1000000
set_option maxHeartbeats 4000000
theorem aCY (k:Nat) (x1:Ty8) (r:Unit) (h:q9 k x1=some r):Tri Try.prog 67 [(.sl 3 (List.map aA x1))] [] (.ref 3 0 0 0 x1.length .virt) [(.arr 3 (List.map aA x1) 0 0 false)]:=by
 refine Tri.slOf (aD2 k x1 r h) fun h0=>?_
 have hx:x1=[]:=by simpa using h0
 subst hx
 exact aC9
end Go.Ws

namespace Go.Ws
open Go.Proofs
set_option linter.unusedSimpArgs false
set_option linter.unusedVariables false
set_option maxRecDepth 1000000
set_option maxHeartbeats 4000000
noncomputable def X69:Ctx:=⟨Try.f69,[],true⟩
theorem aJB (x1:Int) (x2:Int):Tri Try.prog 69 [(.int .i64 x1),(.int .u8 x2)] [] (.bool (jR x1 x2)) []:=by
 obtain⟨r,h⟩:∃r,jR x1 x2=r:=⟨_,rfl⟩
 try rw[h]
 unfold jR at h
 by_cases c0:ltI x2 64=true
 · rw[if_pos c0] at h
   by_cases c1:ltI x1 0=true
   · rw[if_pos c1] at h
     obtain rfl:=h
     exact Tri.of (x:=X69) aF aQP [dt,dt,dt,df,df,df] [⟨(nF c1)⟩,⟨(nF c1)⟩,⟨(nF c1)⟩,⟨c0⟩,⟨c0⟩,⟨c0⟩] (by kernel_rfl)
   rw[if_neg c1] at h;replace c1:=eqf c1
   obtain rfl:=h
   exact Tri.of (x:=X69) aF aQP [dt,dt,dt,dt,dt,dt] [⟨(nT c1)⟩,⟨(nT c1)⟩,⟨(nT c1)⟩,⟨c0⟩,⟨c0⟩,⟨c0⟩] (by kernel_rfl)
 rw[if_neg c0] at h;replace c0:=eqf c0
 obtain rfl:=h
 exact Tri.of (x:=X69) aF aQP [df,df,df,df,df,df] [⟨rF⟩,⟨rF⟩,⟨rF⟩,⟨c0⟩,⟨c0⟩,⟨c0⟩] (by kernel_rfl)
end Go.Ws

namespace Go.Ws
open Go.Proofs
set_option linter.unusedSimpArgs false
set_option linter.unusedVariables false
set_option maxRecDepth 1000000
set_option maxHeartbeats 4000000
noncomputable def X65:Ctx:=⟨Try.f65,[],true⟩
theorem aHJ (x1:Int):Tri Try.prog 65 [(.int .u8 x1)] [] (.bool (jS x1)) []:=by
 obtain⟨r,h⟩:∃r,jS x1=r:=⟨_,rfl⟩
 try rw[h]
 unfold jS at h
 obtain rfl:=h
 exact Tri.of (x:=X65) aF facts65 [] [] (by kernel_rfl)
end Go.Ws

namespace Go.Ws
open Go.Proofs
set_option linter.unusedSimpArgs false
set_option linter.unusedVariables false
set_option maxRecDepth 1000000
set_option maxHeartbeats 4000000
noncomputable def X53:Ctx:=⟨Try.f53,[],true⟩
theorem aD4 (x1:Int) (x2:Int):Tri Try.prog 53 [(.int .u8 x1),(.int .u8 x2)] [] (.int .i64 (bT x1 x2)) []:=by
 obtain⟨r,h⟩:∃r,bT x1 x2=r:=⟨_,rfl⟩
 try rw[h]
 unfold bT at h
 let u1:List Ans:=[.call ⟨true,[]⟩ (.bool (jS x1)) [],.call ⟨true,[]⟩ (.bool (jS x2)) []]
 let w2:List Prf:=[⟨(aHJ x2)⟩,⟨(aHJ x1)⟩]
 by_cases c0:(jS x1)=true
 · rw[if_pos c0] at h
   by_cases c1:(jS x2)=true
   · rw[if_pos c1] at h
     obtain rfl:=h
     exact Tri.of (x:=X53) aF aER (u1++[dt,dt]) ([⟨c1⟩,⟨c0⟩]++w2) (by kernel_rfl)
   rw[if_neg c1] at h;replace c1:=eqf c1
   obtain rfl:=h
   exact Tri.of (x:=X53) aF aER (u1++[dt,df]) ([⟨c1⟩,⟨c0⟩]++w2) (by kernel_rfl)
 rw[if_neg c0] at h;replace c0:=eqf c0
 by_cases c1:(jS x2)=true
 · rw[if_pos c1] at h
   obtain rfl:=h
   exact Tri.of (x:=X53) aF aER (u1++[df,dt]) ([⟨c1⟩,⟨c0⟩]++w2) (by kernel_rfl)
 rw[if_neg c1] at h;replace c1:=eqf c1
 by_cases c2:ltI x1 x2=true
 · rw[if_pos c2] at h
   obtain rfl:=h
   exact Tri.of (x:=X53) aF aER (u1++[df,df,dt]) ([⟨c2⟩,⟨c1⟩,⟨c0⟩]++w2) (by kernel_rfl)
 rw[if_neg c2] at h;replace c2:=eqf c2
 by_cases c3:ltI x2 x1=true
 · rw[if_pos c3] at h
   obtain rfl:=h
   exact Tri.of (x:=X53) aF aER (u1++[df,df,df,dt]) ([⟨c3⟩,⟨c2⟩,⟨c1⟩,⟨c0⟩]++w2) (by kernel_rfl)
 rw[if_neg c3] at h;replace c3:=eqf c3
 obtain rfl:=h
 exact Tri.of (x:=X53) aF aER (u1++[df,df,df,df]) ([⟨c3⟩,⟨c2⟩,⟨c1⟩,⟨c0⟩]++w2) (by kernel_rfl)
end Go.Ws

namespace Go.Ws
open Go.Proofs
set_option linter.unusedSimpArgs false
set_option linter.unusedVariables false
set_option maxRecDepth 1000000
set_option maxHeartbeats 4000000
noncomputable def X100:Ctx:=⟨Try.f100,[],true⟩
theorem aAS (x1:Int):Tri Try.prog 100 [(.int .i64 x1)] [] (.bool (gD x1)) []:=by
 obtain⟨r,h⟩:∃r,gD x1=r:=⟨_,rfl⟩
 try rw[h]
 unfold gD at h
 obtain rfl:=h
 exact Tri.of (x:=X100) aF facts100 [] [] (by kernel_rfl)
end Go.Ws

namespace Go.Ws
open Go.Proofs
set_option linter.unusedSimpArgs false
set_option linter.unusedVariables false
set_option maxRecDepth 1000000
set_option maxHeartbeats 4000000
noncomputable def X88:Ctx:=⟨Try.f88,[],true⟩
theorem aGR (x1:Int) (x2:Int):Tri Try.prog 88 [(.int .i64 x1),(.int .i64 x2)] [] (.int .i64 (eW x1 x2)) []:=by
 obtain⟨r,h⟩:∃r,eW x1 x2=r:=⟨_,rfl⟩
 try rw[h]
 unfold eW at h
 let u1:List Ans:=[.call ⟨true,[]⟩ (.bool (gD x1)) [],.call ⟨true,[]⟩ (.bool (gD x2)) []]
 let w2:List Prf:=[⟨(aAS x2)⟩,⟨(aAS x1)⟩]
 by_cases c0:(gD x1)=true
 · rw[if_pos c0] at h
   by_cases c1:(gD x2)=true
   · rw[if_pos c1] at h
     obtain rfl:=h
     exact Tri.of (x:=X88) aF aEV (u1++[dt,dt]) ([⟨c1⟩,⟨c0⟩]++w2) (by kernel_rfl)
   rw[if_neg c1] at h;replace c1:=eqf c1
   obtain rfl:=h
   exact Tri.of (x:=X88) aF aEV (u1++[dt,df]) ([⟨c1⟩,⟨c0⟩]++w2) (by kernel_rfl)
 rw[if_neg c0] at h;replace c0:=eqf c0
 by_cases c1:(gD x2)=true
 · rw[if_pos c1] at h
   obtain rfl:=h
   exact Tri.of (x:=X88) aF aEV (u1++[df,dt]) ([⟨c1⟩,⟨c0⟩]++w2) (by kernel_rfl)
 rw[if_neg c1] at h;replace c1:=eqf c1
 by_cases c2:ltI x1 x2=true
 · rw[if_pos c2] at h
   obtain rfl:=h
   exact Tri.of (x:=X88) aF aEV (u1++[df,df,dt]) ([⟨c2⟩,⟨c1⟩,⟨c0⟩]++w2) (by kernel_rfl)
 rw[if_neg c2] at h;replace c2:=eqf c2
 by_cases c3:ltI x2 x1=true
 · rw[if_pos c3] at h
   obtain rfl:=h
   exact Tri.of (x:=X88) aF aEV (u1++[df,df,df,dt]) ([⟨c3⟩,⟨c2⟩,⟨c1⟩,⟨c0⟩]++w2) (by kernel_rfl)
 rw[if_neg c3] at h;replace c3:=eqf c3
 obtain rfl:=h
 exact Tri.of (x:=X88) aF aEV (u1++[df,df,df,df]) ([⟨c3⟩,⟨c2⟩,⟨c1⟩,⟨c0⟩]++w2) (by kernel_rfl)
end Go.Ws

namespace Go.Ws
open Go.Proofs
set_option linter.unusedSimpArgs false
set_option linter.unusedVariables false
set_option maxRecDepth 1000000
set_option maxHeartbeats 4000000
noncomputable def X87:Ctx:=⟨Try.f87,[],true⟩
noncomputable def L87_0:Code:=at_ Try.f87 [1,1,0,1,4,5]
def S87_0 (x1:List Int) (eF:Int):St:=⟨mkT 18 [(3,(.int .i64 0)),(6,(.sl 1 (List.map bW x1))),(7,(.int .i64 (nI x1.length))),(8,(.int .i64 eF))],[]⟩
def aPZ:St:=⟨mkT 18 [(3,(.int .i64 0))],[]⟩
def O87_0 (x1:List Int) (y:(Sum (Unit) (Int))):GX:=match y with
 | .inl y=>.st (.exit 0) (aPZ)
 | .inr y=>.fin (.int .i64 y) []
theorem aCJ (x1:List Int) (y:(Sum (Unit) (Int))):∀(k:Nat) (eF:Int),mS k x1 eF=some y→LT Try.prog X87 L87_0 (S87_0 x1 eF) (O87_0 x1 y)
 | 0,eF,h=>by cases h
 | k+1,eF,h=>by
  rw[mS] at h
  by_cases cL0:ltI eF (nI x1.length)=true
  · rw[if_pos cL0] at h
    by_cases cL1:inI eF x1.length=true
    · rw[if_pos cL1] at h
      obtain⟨uN,eL2,h⟩:=bsm h
      let u1:List Ans:=[dt,.n x1.length,.row [(.int .i64 uN)]]
      let w2:List Prf:=[⟨(aN (e:=bW) eL2 1 0 1 (by decide))⟩,⟨cL1⟩,⟨(aJ bW x1)⟩,⟨cL0⟩]
      by_cases cL3:eqI uN 0=true
      · rw[if_pos cL3] at h
        exact LT.next aF (hs:=⟨[(3,[]),(6,[]),(7,[]),(8,[])],[],false,[],[]⟩) (es:=none) (u1++[df]) ([⟨(nF cL3)⟩]++w2) (by kernel_rfl) (aCJ x1 y k (aL .i64 eF 1) h)
      rw[if_neg cL3] at h;replace cL3:=eqf cL3
      obtain rfl:=osi h
      show LT _ _ _ _ (.fin (.int .i64 uN) [])
      exact LT.done aF (hs:=⟨[],[],false,[],[]⟩) (es:=none) (u1++[dt]) ([⟨(nT cL3)⟩]++w2) (by kernel_rfl) (fun s h=>by cases h)
    rw[if_neg cL1] at h;replace cL1:=eqf cL1
    cases h
  rw[if_neg cL0] at h;replace cL0:=eqf cL0
  obtain rfl:=osi h
  show LT _ _ _ _ (.st (.exit 0) (aPZ))
  exact LT.done aF (hs:=⟨[],[],false,[],[]⟩) (es:=(some ⟨[(3,[])],[],false,[],[]⟩)) [df] [⟨cL0⟩] (by kernel_rfl) (fun s h=>by cases h)
theorem aXX (k:Nat) (x1:List Int) (r:Int) (h:aII k x1=some r):Tri Try.prog 87 [(.sl 1 (List.map bW x1))] [] (.int .i64 r) []:=by
 unfold aII at h
 let u3:List Ans:=[.n x1.length,.norm 2 ⟨[(3,[]),(6,[]),(7,[]),(8,[])],[],false,[],[]⟩]
 obtain⟨x2,e0,h⟩:=bsm h
 cases x2 with
 | inl x3 =>
  simp only[Sum.elim_inl] at h
  obtain rfl:=osi h
  exact Tri.of (x:=X87) aF aWP (u3++[.out (.st .normal (aPZ))]) [⟨(LT.block (aCJ x1 _ k 0 e0))⟩,⟨(aJ bW x1)⟩] (by kernel_rfl)
 | inr x3 =>
  simp only[Sum.elim_inr] at h
  obtain rfl:=osi h
  exact Tri.of (x:=X87) aF aWP (u3++[.out (.fin (.int .i64 x3) [])]) [⟨(LT.blockFin (id:=0) (aCJ x1 _ k 0 e0))⟩,⟨(aJ bW x1)⟩] (by kernel_rfl)
end Go.Ws

namespace Go.Ws
open Go.Proofs
set_option linter.unusedSimpArgs false
set_option linter.unusedVariables false
set_option maxRecDepth 1000000
set_option maxHeartbeats 4000000
noncomputable def X71:Ctx:=⟨Try.f71,[],true⟩
theorem aAE (k:Nat) (x1:Int) (x2:Int) (x3:Bool) (x4:Int) (x5:Int) (x6:Bool) (r:Int) (h:qL k x1 x2 x3 x4 x5 x6=some r):Tri Try.prog 71 [(.agg [(.int .u8 x1),(.int .i64 x2),(.bool x3)]),(.agg [(.int .u8 x4),(.int .i64 x5),(.bool x6)])] [] (.int .i64 r) []:=by
 unfold qL at h
 obtain⟨x7,e0,h⟩:=bsm h
 obtain rfl:=osi h
 exact Tri.of (x:=X71) aF facts71 [.call ⟨true,[]⟩ (.int .i64 (bT x1 x4)) [],.call ⟨true,[]⟩ (.int .i64 (eW x2 x5)) [],.call ⟨true,[]⟩ (.int .i64 x7) [],.rows (List.map bW [(bT x1 x4),(eW x2 x5)])] [⟨(aXX k [(bT x1 x4),(eW x2 x5)] _ e0)⟩,⟨(aV bW (l:=[(bT x1 x4),(eW x2 x5)]) (n:=2) rfl)⟩,⟨(bV bW (Nat.le_refl 2):0+2≤(List.map bW [(bT x1 x4),(eW x2 x5)]).length)⟩,⟨(aGR x2 x5)⟩,⟨(aD4 x1 x4)⟩] (by kernel_rfl)
end Go.Ws

namespace Go.Ws
open Go.Proofs
set_option linter.unusedSimpArgs false
set_option linter.unusedVariables false
set_option maxRecDepth 1000000
set_option maxHeartbeats 4000000
noncomputable def X68:Ctx:=⟨Try.f68,[],true⟩
noncomputable def L68_0:Code:=at_ Try.f68 [1,0,1,4,5]
def S68_0 (x1:Ty8) (bY:Int):St:=⟨mkT 46 [(0,(.sl 3 (List.map aA x1))),(6,(.sl 3 (List.map aA x1))),(7,(.int .i64 (nI x1.length))),(8,(.int .i64 bY))],[]⟩
def aPL:St:=⟨mkT 46 [],[]⟩
def O68_0 (x1:Ty8) (y:qG):GX:=match y with
 | .inl y=>.st (.exit 0) (aPL)
 | .inr y=>.fin (.bool y) []
theorem oI (x1:Ty8) (y:qG):∀(k:Nat) (bY:Int),gC k x1 bY=some y→LT Try.prog X68 L68_0 (S68_0 x1 bY) (O68_0 x1 y)
 | 0,bY,h=>by cases h
 | k+1,bY,h=>by
  rw[gC] at h
  by_cases cL0:ltI bY (nI x1.length)=true
  · rw[if_pos cL0] at h
    by_cases cL1:inI bY x1.length=true
    · rw[if_pos cL1] at h
      obtain⟨eY,eL2,h⟩:=bsm h
      let u1:List Ans:=[dt,.n x1.length,.row [(.int .u8 eY.1),(.int .i64 eY.2.1),(.bool eY.2.2)],.call ⟨true,[]⟩ (.bool (jR eY.2.1 eY.1)) []]
      let w2:List Prf:=[⟨(aJB eY.2.1 eY.1)⟩,⟨(aN (e:=aA) eL2 3 0 3 (by decide))⟩,⟨cL1⟩,⟨(aJ aA x1)⟩,⟨cL0⟩]
      by_cases cL3:(jR eY.2.1 eY.1)=true
      · rw[if_pos cL3] at h
        by_cases cL4:eqI bY 0=true
        · rw[if_pos cL4] at h
          exact LT.next aF (hs:=⟨[(0,[]),(6,[]),(7,[]),(8,[])],[],false,[],[]⟩) (es:=none) (u1++[df,dt]) ([⟨cL4⟩,⟨(nF cL3)⟩]++w2) (by kernel_rfl) (oI x1 y k (aL .i64 bY 1) h)
        rw[if_neg cL4] at h;replace cL4:=eqf cL4
        by_cases cL5:inI (qF .i64 bY 1) x1.length=true
        · rw[if_pos cL5] at h
          obtain⟨jG,eL6,h⟩:=bsm h
          obtain⟨aBO,eL7,h⟩:=bsm h
          let u5:List Ans:=u1++[df,df,.n x1.length,.row [(.int .u8 jG.1),(.int .i64 jG.2.1),(.bool jG.2.2)],.call ⟨true,[]⟩ (.int .i64 aBO) []]
          let w6:List Prf:=[⟨(aAE k jG.1 jG.2.1 jG.2.2 eY.1 eY.2.1 eY.2.2 _ eL7)⟩,⟨(aN (e:=aA) eL6 3 0 3 (by decide))⟩,⟨cL5⟩,⟨(aJ aA x1)⟩,⟨cL4⟩,⟨(nF cL3)⟩]++w2
          by_cases cL8:ltI aBO 0=true
          · rw[if_pos cL8] at h
            let w8:List Prf:=[⟨(nF cL8)⟩,⟨(nF cL8)⟩,⟨(nF cL8)⟩,⟨(nF cL8)⟩,⟨(nF cL8)⟩,⟨(nF cL8)⟩]++w6
            by_cases cL9:eqI jG.1 eY.1=true
            · rw[if_pos cL9] at h
              let u9:List Ans:=u5++[df,df,df,df,df,df,dt,dt,dt]
              by_cases cL10:jG.2.2=true
              · rw[if_pos cL10] at h
                obtain rfl:=osi h
                show LT _ _ _ _ (.fin (.bool false) [])
                exact LT.done aF (hs:=⟨[],[],false,[],[]⟩) (es:=none) (u9++[dt,dt,dt,dt,df,dt,df,dt]) ([⟨rT⟩,⟨(nF cL8)⟩,⟨cL9⟩,⟨(nF cL8)⟩,⟨cL10⟩,⟨cL9⟩,⟨cL10⟩,⟨cL10⟩,⟨cL9⟩,⟨cL9⟩,⟨cL9⟩]++w8) (by kernel_rfl) (fun s h=>by cases h)
              rw[if_neg cL10] at h;replace cL10:=eqf cL10
              let w12:List Prf:=[⟨(nF cL8)⟩,⟨cL9⟩,⟨(nF cL8)⟩,⟨cL10⟩,⟨cL9⟩,⟨cL10⟩,⟨cL10⟩,⟨cL9⟩,⟨cL9⟩,⟨cL9⟩]++w8
              by_cases cL11:eY.2.2=true
              · rw[if_pos cL11] at h
                obtain rfl:=osi h
                show LT _ _ _ _ (.fin (.bool false) [])
                exact LT.done aF (hs:=⟨[],[],false,[],[]⟩) (es:=none) (u9++[df,df,dt,df,df,dt,df,dt]) ([⟨cL11⟩]++w12) (by kernel_rfl) (fun s h=>by cases h)
              rw[if_neg cL11] at h;replace cL11:=eqf cL11
              exact LT.next aF (hs:=⟨[(0,[]),(6,[]),(7,[]),(8,[])],[],false,[],[]⟩) (es:=none) (u9++[df,df,dt,df,df,dt,df,df]) ([⟨cL11⟩]++w12) (by kernel_rfl) (oI x1 y k (aL .i64 bY 1) h)
            rw[if_neg cL9] at h;replace cL9:=eqf cL9
            exact LT.next aF (hs:=⟨[(0,[]),(6,[]),(7,[]),(8,[])],[],false,[],[]⟩) (es:=none) (u5++[df,df,df,df,df,df,df,df,df,df,df,df,df,df]) ([⟨rF⟩,⟨(nF cL8)⟩,⟨cL9⟩,⟨(nF cL8)⟩,⟨cL9⟩,⟨cL9⟩,⟨cL9⟩,⟨cL9⟩]++w8) (by kernel_rfl) (oI x1 y k (aL .i64 bY 1) h)
          rw[if_neg cL8] at h;replace cL8:=eqf cL8
          obtain rfl:=osi h
          show LT _ _ _ _ (.fin (.bool false) [])
          exact LT.done aF (hs:=⟨[],[],false,[],[]⟩) (es:=none) (u5++[dt,dt,dt,dt,dt,dt,dt,dt,dt]) ([⟨rT⟩,⟨(nT cL8)⟩,⟨(nT cL8)⟩,⟨(nT cL8)⟩,⟨(nT cL8)⟩,⟨(nT cL8)⟩,⟨(nT cL8)⟩,⟨(nT cL8)⟩,⟨(nT cL8)⟩]++w6) (by kernel_rfl) (fun s h=>by cases h)
        rw[if_neg cL5] at h;replace cL5:=eqf cL5
        cases h
      rw[if_neg cL3] at h;replace cL3:=eqf cL3
      obtain rfl:=osi h
      show LT _ _ _ _ (.fin (.bool false) [])
      exact LT.done aF (hs:=⟨[],[],false,[],[]⟩) (es:=none) (u1++[dt]) ([⟨(nT cL3)⟩]++w2) (by kernel_rfl) (fun s h=>by cases h)
    rw[if_neg cL1] at h;replace cL1:=eqf cL1
    cases h
  rw[if_neg cL0] at h;replace cL0:=eqf cL0
  obtain rfl:=osi h
  show LT _ _ _ _ (.st (.exit 0) (aPL))
  exact LT.done aF (hs:=⟨[],[],false,[],[]⟩) (es:=(some ⟨[],[],false,[],[]⟩)) [df] [⟨cL0⟩] (by kernel_rfl) (fun s h=>by cases h)
theorem aML (k:Nat) (x1:Ty8) (r:Bool) (h:uV k x1=some r):Tri Try.prog 68 [(.sl 3 (List.map aA x1))] [] (.bool r) []:=by
 unfold uV at h
 let u13:List Ans:=[.n x1.length,.norm 2 ⟨[(0,[]),(6,[]),(7,[]),(8,[])],[],false,[],[]⟩]
 obtain⟨x2,e0,h⟩:=bsm h
 cases x2 with
 | inl x3 =>
  simp only[Sum.elim_inl] at h
  obtain rfl:=osi h
  exact Tri.of (x:=X68) aF aWH (u13++[.out (.st .normal (aPL))]) [⟨(LT.block (oI x1 _ k 0 e0))⟩,⟨(aJ aA x1)⟩] (by kernel_rfl)
 | inr x3 =>
  simp only[Sum.elim_inr] at h
  obtain rfl:=osi h
  exact Tri.of (x:=X68) aF aWH (u13++[.out (.fin (.bool x3) [])]) [⟨(LT.blockFin (id:=0) (oI x1 _ k 0 e0))⟩,⟨(aJ aA x1)⟩] (by kernel_rfl)
end Go.Ws

namespace Go.Ws
open Go.Proofs
set_option linter.unusedSimpArgs false
set_option linter.unusedVariables false
set_option maxRecDepth 1000000
set_option maxHeartbeats 4000000
noncomputable def X70:Ctx:=⟨Try.f70,[],true⟩
noncomputable def L70_0:Code:=at_ Try.f70 [1,1,1,0,4,5]
def S70_0 (x1:Ty8) (x2:Int) (x3:Int) (x4:Bool) (cK:Int) (cY:Int):St:=⟨mkT 49 [(0,(.sl 3 (List.map aA x1))),(2,(.fn 71 [])),(4,(.hp 0 0)),(8,(.int .i64 (nI x1.length))),(9,(.int .i64 cK)),(10,(.int .i64 cY))],[(.row [(.int .u8 x2),(.int .i64 x3),(.bool x4)])]⟩
def aON (x1:Ty8) (x2:Int) (x3:Int) (x4:Bool) (v70002_1:Int):St:=⟨mkT 49 [(0,(.sl 3 (List.map aA x1))),(2,(.fn 71 [])),(4,(.hp 0 0)),(8,(.int .i64 (nI x1.length))),(9,(.int .i64 v70002_1))],[(.row [(.int .u8 x2),(.int .i64 x3),(.bool x4)])]⟩
def O70_0 (x1:Ty8) (x2:Int) (x3:Int) (x4:Bool) (y:(Int)):GX:=.st (.exit 0) (aON x1 x2 x3 x4 y)
theorem kU (x1:Ty8) (x2:Int) (x3:Int) (x4:Bool) (y:(Int)):∀(k:Nat) (cK:Int) (cY:Int),bI k x1 x2 x3 x4 cK cY=some y→LT Try.prog X70 L70_0 (S70_0 x1 x2 x3 x4 cK cY) (O70_0 x1 x2 x3 x4 y)
 | 0,cK,cY,h=>by cases h
 | k+1,cK,cY,h=>by
  rw[bI] at h
  by_cases cL0:ltI cK cY=true
  · rw[if_pos cL0] at h
    by_cases cL1:inI (conv .i64 (wS .u64 (conv .u64 (aL .i64 cK cY)) 1)) x1.length=true
    · rw[if_pos cL1] at h
      obtain⟨nD,eL2,h⟩:=bsm h
      obtain⟨aBP,eL3,h⟩:=bsm h
      let u1:List Ans:=[dt,.n x1.length,.row [(.int .u8 nD.1),(.int .i64 nD.2.1),(.bool nD.2.2)],.call ⟨true,[]⟩ (.int .i64 aBP) []]
      let w2:List Prf:=[⟨(aAE k nD.1 nD.2.1 nD.2.2 x2 x3 x4 _ eL3)⟩,⟨(aN (e:=aA) eL2 3 0 3 (by decide))⟩,⟨cL1⟩,⟨(aJ aA x1)⟩,⟨cL0⟩]
      by_cases cL4:ltI aBP 0=true
      · rw[if_pos cL4] at h
        exact LT.next aF (hs:=⟨[(0,[]),(2,[]),(4,[]),(8,[]),(9,[]),(10,[])],[⟨.tmp 4,[],none⟩],false,[],[]⟩) (es:=none) (u1++[dt]) ([⟨cL4⟩]++w2) (by kernel_rfl) (kU x1 x2 x3 x4 y k (aL .i64 (conv .i64 (wS .u64 (conv .u64 (aL .i64 cK cY)) 1)) 1) cY h)
      rw[if_neg cL4] at h;replace cL4:=eqf cL4
      exact LT.next aF (hs:=⟨[(0,[]),(2,[]),(4,[]),(8,[]),(9,[]),(10,[])],[⟨.tmp 4,[],none⟩],false,[],[]⟩) (es:=none) (u1++[df]) ([⟨cL4⟩]++w2) (by kernel_rfl) (kU x1 x2 x3 x4 y k cK (conv .i64 (wS .u64 (conv .u64 (aL .i64 cK cY)) 1)) h)
    rw[if_neg cL1] at h;replace cL1:=eqf cL1
    cases h
  rw[if_neg cL0] at h;replace cL0:=eqf cL0
  obtain rfl:=osi h
  show LT _ _ _ _ (.st (.exit 0) (aON x1 x2 x3 x4 cK))
  exact LT.done aF (hs:=⟨[],[],false,[],[]⟩) (es:=(some ⟨[(0,[]),(2,[]),(4,[]),(8,[]),(9,[])],[⟨.tmp 4,[],none⟩],false,[],[]⟩)) [df] [⟨cL0⟩] (by kernel_rfl) (fun s h=>by cases h)
theorem zD (k:Nat) (x1:Ty8) (x2:Int) (x3:Int) (x4:Bool) (r:Int × Bool) (h:hI k x1 x2 x3 x4=some r):Tri Try.prog 70 [(.sl 3 (List.map aA x1)),(.agg [(.int .u8 x2),(.int .i64 x3),(.bool x4)]),(.fn 71 [])] [] (.tup [(.int .i64 r.1),(.bool r.2)]) []:=by
 unfold hI at h
 obtain⟨x6,e0,h⟩:=bsm h
 let u3:List Ans:=[.n x1.length,.norm 2 ⟨[(0,[]),(2,[]),(4,[]),(8,[]),(9,[]),(10,[])],[⟨.tmp 4,[],none⟩],false,[],[]⟩,.out (.st .normal (aON x1 x2 x3 x4 x6))]
 let w4:List Prf:=[⟨(LT.block (kU x1 x2 x3 x4 _ k 0 (nI x1.length) e0))⟩,⟨(aJ aA x1)⟩]
 by_cases c2:ltI x6 (nI x1.length)=true
 · rw[if_pos c2] at h
   by_cases c3:inI x6 x1.length=true
   · rw[if_pos c3] at h
     obtain⟨x7,e4,h⟩:=bsm h
     obtain⟨x8,e5,h⟩:=bsm h
     obtain rfl:=osi h
     exact Tri.of (x:=X70) aF aWQ (u3++[dt,dt,dt,dt,.n x1.length,dt,.row [(.int .u8 x7.1),(.int .i64 x7.2.1),(.bool x7.2.2)],dt,dt,.call ⟨true,[]⟩ (.int .i64 x8) [],dt,dt]) ([⟨c2⟩,⟨c2⟩,⟨(aAE k x7.1 x7.2.1 x7.2.2 x2 x3 x4 _ e5)⟩,⟨c2⟩,⟨c2⟩,⟨(aN (e:=aA) e4 3 0 3 (by decide))⟩,⟨c2⟩,⟨c3⟩,⟨(aJ aA x1)⟩,⟨c2⟩,⟨c2⟩,⟨c2⟩,⟨c2⟩]++w4) (by kernel_rfl)
   rw[if_neg c3] at h;replace c3:=eqf c3
   cases h
 rw[if_neg c2] at h;replace c2:=eqf c2
 obtain rfl:=osi h
 exact Tri.of (x:=X70) aF aWQ (u3++[df,df,df,df,df,df,df,df,df]) ([⟨c2⟩,⟨c2⟩,⟨c2⟩,⟨c2⟩,⟨c2⟩,⟨c2⟩,⟨c2⟩,⟨c2⟩,⟨c2⟩]++w4) (by kernel_rfl)
end Go.Ws

namespace Go.Ws
open Go.Proofs
set_option linter.unusedSimpArgs false
set_option linter.unusedVariables false
set_option maxRecDepth 1000000
set_option maxHeartbeats 4000000
theorem aIG (k:Nat) (x1:Int) (x2:Ty8) (x3:Ty8) (r:Ty8) (h:rR k x1 x2 x3=some r):Tri Try.prog 72 [(.ref 3 0 0 0 x2.length .virt),(.int .i64 x1),(.ref 3 1 0 0 x3.length .full)] [(.arr 3 (List.map aA x2) 0 0 false),(.arr 3 (List.map aA x3) 0 0 false)] (.ref 3 0 1 0 r.length .full) [(.arr 3 (List.map aA r) 1 1 false),(.arr 3 (List.map aA x3) 0 0 false)]:=ins_ok72 _ h rfl
end Go.Ws

namespace Go.Ws
open Go.Proofs
set_option linter.unusedSimpArgs false
set_option linter.unusedVariables false
set_option maxRecDepth 1000000
set_option maxHeartbeats 4000000
noncomputable def X56:Ctx:=⟨Try.f56,[],true⟩
noncomputable def L56_0:Code:=at_ Try.f56 [1,1,1,0,1,4,5]
def S56_0 (x1:Ty8) (x2:Int) (x3:Int) (x4:Bool) (cZ:Int):St:=⟨mkT 82 [(0,(.ref 3 0 0 0 x1.length .virt)),(1,(.int .i64 x2)),(2,(.int .u8 x3)),(3,(.bool x4)),(27,(.ref 3 0 0 0 x1.length .virt)),(28,(.int .i64 (nI x1.length))),(29,(.int .i64 cZ))],[(.arr 3 (List.map aA x1) 0 0 false)]⟩
def aQ3 (x1:Ty8) (x2:Int) (x3:Int) (x4:Bool):St:=⟨mkT 82 [(0,(.ref 3 0 0 0 x1.length .virt)),(1,(.int .i64 x2)),(2,(.int .u8 x3)),(3,(.bool x4))],[(.arr 3 (List.map aA x1) 0 0 false)]⟩
def O56_0 (x1:Ty8) (x2:Int) (x3:Int) (x4:Bool) (y:(Sum (Unit) (Ty8 × Int))):GX:=match y with
 | .inl y=>.st (.exit 0) (aQ3 x1 x2 x3 x4)
 | .inr y=>.fin (.tup [(.sl 3 (List.map aA y.1)),(.int .i64 y.2)]) []
def A56_0:Ans:=.norm 2 ⟨[(0,[]),(1,[]),(2,[]),(3,[]),(27,[]),(28,[]),(29,[])],[⟨.tmp 0,[],none⟩],false,[],[]⟩
theorem pQ (x1:Ty8) (x2:Int) (x3:Int) (x4:Bool) (y:(Sum (Unit) (Ty8 × Int))):∀(k:Nat) (cZ:Int),gW k x1 x2 x3 x4 cZ=some y→LT Try.prog X56 L56_0 (S56_0 x1 x2 x3 x4 cZ) (O56_0 x1 x2 x3 x4 y)
 | 0,cZ,h=>by cases h
 | k+1,cZ,h=>by
  rw[gW] at h
  by_cases cL0:ltI cZ (nI x1.length)=true
  · rw[if_pos cL0] at h
    by_cases cL1:inI cZ x1.length=true
    · rw[if_pos cL1] at h
      obtain⟨k9,eL2,h⟩:=bsm h
      let w2:List Prf:=[⟨(aN (e:=aA) eL2 3 0 3 (by decide))⟩,⟨cL1⟩,⟨cL0⟩]
      by_cases cL3:eqI k9.1 x3=true
      · rw[if_pos cL3] at h
        let u3:List Ans:=[dt,.row [(.int .u8 k9.1),(.int .i64 k9.2.1),(.bool k9.2.2)],dt,dt,dt,dt,dt]
        let w4:List Prf:=[⟨cL3⟩,⟨cL3⟩,⟨cL3⟩,⟨cL3⟩,⟨cL3⟩]++w2
        by_cases cL4:eqI k9.2.1 x2=true
        · rw[if_pos cL4] at h
          exact LT.next aF (hs:=⟨[(0,[]),(1,[]),(2,[]),(3,[]),(27,[]),(28,[]),(29,[])],[⟨.tmp 0,[],none⟩],false,[],[]⟩) (es:=none) (u3++[df,df,df,df,df]) ([⟨rF⟩,⟨(nF cL4)⟩,⟨(nF cL4)⟩,⟨(nF cL4)⟩,⟨(nF cL4)⟩]++w4) (by kernel_rfl) (pQ x1 x2 x3 x4 y k (aL .i64 cZ 1) h)
        rw[if_neg cL4] at h;replace cL4:=eqf cL4
        by_cases cL5:x4=true
        · rw[if_pos cL5] at h
          obtain rfl:=osi h
          show LT _ _ _ _ (.fin (.tup [(.sl 3 (List.map aA ((x1,9).1))),(.int .i64 ((x1,9).2))]) [])
          exact LT.done aF (hs:=⟨[],[],false,[],[]⟩) (es:=none) (u3++[dt,dt,dt,dt,dt,dt,dt,dt,.rows (List.map aA x1)]) ([⟨(aV aA (l:=x1) (n:=x1.length) rfl)⟩,⟨(bV aA (Nat.le_refl x1.length):0+x1.length≤(List.map aA x1).length)⟩,⟨rT⟩,⟨(nT cL4)⟩,⟨cL5⟩,⟨(nT cL4)⟩,⟨cL5⟩,⟨cL5⟩,⟨(nT cL4)⟩,⟨(nT cL4)⟩]++w4) (by kernel_rfl) (fun s h=>by cases h)
        rw[if_neg cL5] at h;replace cL5:=eqf cL5
        let w8:List Prf:=[⟨(nT cL4)⟩,⟨cL5⟩,⟨(nT cL4)⟩,⟨cL5⟩,⟨cL5⟩,⟨(nT cL4)⟩,⟨(nT cL4)⟩]++w4
        by_cases cL6:k9.2.2=true
        · rw[if_pos cL6] at h
          obtain rfl:=osi h
          show LT _ _ _ _ (.fin (.tup [(.sl 3 (List.map aA ((x1,9).1))),(.int .i64 ((x1,9).2))]) [])
          exact LT.done aF (hs:=⟨[],[],false,[],[]⟩) (es:=none) (u3++[dt,dt,df,df,dt,df,dt,dt,.rows (List.map aA x1)]) ([⟨(aV aA (l:=x1) (n:=x1.length) rfl)⟩,⟨(bV aA (Nat.le_refl x1.length):0+x1.length≤(List.map aA x1).length)⟩,⟨cL6⟩]++w8) (by kernel_rfl) (fun s h=>by cases h)
        rw[if_neg cL6] at h;replace cL6:=eqf cL6
        exact LT.next aF (hs:=⟨[(0,[]),(1,[]),(2,[]),(3,[]),(27,[]),(28,[]),(29,[])],[⟨.tmp 0,[],none⟩],false,[],[]⟩) (es:=none) (u3++[dt,dt,df,df,dt,df,dt,df]) ([⟨cL6⟩]++w8) (by kernel_rfl) (pQ x1 x2 x3 x4 y k (aL .i64 cZ 1) h)
      rw[if_neg cL3] at h;replace cL3:=eqf cL3
      exact LT.next aF (hs:=⟨[(0,[]),(1,[]),(2,[]),(3,[]),(27,[]),(28,[]),(29,[])],[⟨.tmp 0,[],none⟩],false,[],[]⟩) (es:=none) [dt,.row [(.int .u8 k9.1),(.int .i64 k9.2.1),(.bool k9.2.2)],df,df,df,df,df,df,df,df,df,df] ([⟨rF⟩,⟨rF⟩,⟨rF⟩,⟨rF⟩,⟨rF⟩,⟨cL3⟩,⟨cL3⟩,⟨cL3⟩,⟨cL3⟩,⟨cL3⟩]++w2) (by kernel_rfl) (pQ x1 x2 x3 x4 y k (aL .i64 cZ 1) h)
    rw[if_neg cL1] at h;replace cL1:=eqf cL1
    cases h
  rw[if_neg cL0] at h;replace cL0:=eqf cL0
  obtain rfl:=osi h
  show LT _ _ _ _ (.st (.exit 0) (aQ3 x1 x2 x3 x4))
  exact LT.done aF (hs:=⟨[],[],false,[],[]⟩) (es:=(some ⟨[(0,[]),(1,[]),(2,[]),(3,[])],[⟨.tmp 0,[],none⟩],false,[],[]⟩)) [df] [⟨cL0⟩] (by kernel_rfl) (fun s h=>by cases h)
theorem aOL (k:Nat) (x1:Ty8) (x2:Int) (x3:Int) (x4:Bool) (r:Ty8 × Int) (h:xW k x1 x2 x3 x4=some r):Tri Try.prog 56 [(.sl 3 (List.map aA x1)),(.int .i64 x2),(.int .u8 x3),(.bool x4)] [] (.tup [(.sl 3 (List.map aA r.1)),(.int .i64 r.2)]) []:=by
 unfold xW at h
 obtain⟨x5,e0,h⟩:=bsm h
 obtain⟨x6,e1,h⟩:=bsm h
 let u9:List Ans:=[.call ⟨true,[]⟩ (.ref 3 0 0 0 x1.length .virt) [(.arr 3 (List.map aA x1) 0 0 false)],.call ⟨true,[]⟩ (.bool x6) [],.rows (List.map aA x1)]
 let w10:List Prf:=[⟨(aML k x1 _ e1)⟩,⟨(aV aA (l:=x1) (n:=x1.length) rfl)⟩,⟨(bV aA (Nat.le_refl x1.length):0+x1.length≤(List.map aA x1).length)⟩,⟨(aCY k x1 _ e0)⟩]
 by_cases c2:x6=true
 · rw[if_pos c2] at h
   let u11:List Ans:=u9++[df,df,df,.call ⟨true,[]⟩ (.bool (jR x2 x3)) [],df,df]
   let w12:List Prf:=[⟨(nF c2)⟩,⟨(nF c2)⟩,⟨(aJB x2 x3)⟩,⟨(nF c2)⟩,⟨(nF c2)⟩,⟨(nF c2)⟩]++w10
   by_cases c3:(jR x2 x3)=true
   · rw[if_pos c3] at h
     obtain⟨x7,e4,h⟩:=bsm h
     cases x7 with
     | inl x8 =>
      simp only[Sum.elim_inl] at h
      obtain⟨x9,e6,h⟩:=bsm h
      let u15:List Ans:=u11++[df,A56_0,.out (.st .normal (aQ3 x1 x2 x3 x4)),.call ⟨true,[]⟩ (.tup [(.int .i64 x9.1),(.bool x9.2)]) [],.rows (List.map aA x1)]
      let w16:List Prf:=[⟨(zD k x1 x3 x2 x4 _ e6)⟩,⟨(aV aA (l:=x1) (n:=x1.length) rfl)⟩,⟨(bV aA (Nat.le_refl x1.length):0+x1.length≤(List.map aA x1).length)⟩,⟨(LT.block (pQ x1 x2 x3 x4 _ k 0 e4))⟩,⟨(nF c3)⟩]++w12
      by_cases c7:x9.2=true
      · rw[if_pos c7] at h
        by_cases c8:inI x9.1 x1.length=true
        · rw[if_pos c8] at h
          obtain⟨x10,e9,h⟩:=bsm h
          let w18:List Prf:=[⟨(aN (e:=aA) e9 3 2 1 (by decide))⟩,⟨c8⟩,⟨(nF c7)⟩]++w16
          by_cases c10:x10.2.2=true
          · rw[if_pos c10] at h
            obtain rfl:=osi h
            exact Tri.of (x:=X56) aF aEQ (u15++[df,.row [(.bool x10.2.2)],dt,dt,.rows (List.map aA (List.set x1 (tN x9.1) (x10.1,x10.2.1,true))),.rows (List.map aA (List.set x1 (tN x9.1) (x10.1,x10.2.1,true)))]) ([⟨(aV aA (l:=(List.set x1 (tN x9.1) (x10.1,x10.2.1,true))) (n:=x1.length) (by simp:x1.length=List.length (α:=Int × Int × Bool) (List.set x1 (tN x9.1) (x10.1,x10.2.1,true))))⟩,⟨(bV aA (Nat.le_of_eq (by simp:x1.length=List.length (α:=Int × Int × Bool) (List.set x1 (tN x9.1) (x10.1,x10.2.1,true)))))⟩,⟨(xU (e:=aA) e9 2 [(.bool true)] (x10.1,x10.2.1,true) rfl)⟩,⟨c8⟩,⟨c10⟩,⟨c10⟩]++w18) (by kernel_rfl)
          rw[if_neg c10] at h;replace c10:=eqf c10
          obtain rfl:=osi h
          exact Tri.of (x:=X56) aF aEQ (u15++[df,.row [(.bool x10.2.2)],df,df,.rows (List.map aA (List.set x1 (tN x9.1) (x10.1,x10.2.1,x4))),.rows (List.map aA (List.set x1 (tN x9.1) (x10.1,x10.2.1,x4)))]) ([⟨(aV aA (l:=(List.set x1 (tN x9.1) (x10.1,x10.2.1,x4))) (n:=x1.length) (by simp:x1.length=List.length (α:=Int × Int × Bool) (List.set x1 (tN x9.1) (x10.1,x10.2.1,x4))))⟩,⟨(bV aA (Nat.le_of_eq (by simp:x1.length=List.length (α:=Int × Int × Bool) (List.set x1 (tN x9.1) (x10.1,x10.2.1,x4)))))⟩,⟨(xU (e:=aA) e9 2 [(.bool x4)] (x10.1,x10.2.1,x4) rfl)⟩,⟨c8⟩,⟨c10⟩,⟨c10⟩]++w18) (by kernel_rfl)
        rw[if_neg c8] at h;replace c8:=eqf c8
        cases h
      rw[if_neg c7] at h;replace c7:=eqf c7
      obtain⟨x10,e8,h⟩:=bsm h
      obtain rfl:=osi h
      exact Tri.of (x:=X56) aF aEQ (u15++[dt,.call ⟨false,[]⟩ (.ref 3 0 1 0 x10.length .full) [(.arr 3 (List.map aA x10) 1 1 false),(.arr 3 (List.map aA [(x3,x2,x4)]) 0 0 false)],.rows (List.map aA x10)]) ([⟨(aV aA (l:=x10) (n:=x10.length) rfl)⟩,⟨(bV aA (Nat.le_refl x10.length):0+x10.length≤(List.map aA x10).length)⟩,⟨(aIG k x9.1 x1 [(x3,x2,x4)] _ e8)⟩,⟨(nT c7)⟩]++w16) (by kernel_rfl)
     | inr x8 =>
      simp only[Sum.elim_inr] at h
      obtain rfl:=osi h
      exact Tri.of (x:=X56) aF aEQ (u11++[df,A56_0,.out (.fin (.tup [(.sl 3 (List.map aA x8.1)),(.int .i64 x8.2)]) [])]) ([⟨(LT.blockFin (id:=0) (pQ x1 x2 x3 x4 _ k 0 e4))⟩,⟨(nF c3)⟩]++w12) (by kernel_rfl)
   rw[if_neg c3] at h;replace c3:=eqf c3
   obtain rfl:=osi h
   exact Tri.of (x:=X56) aF aEQ (u11++[dt,.rows (List.map aA x1)]) ([⟨(aV aA (l:=x1) (n:=x1.length) rfl)⟩,⟨(bV aA (Nat.le_refl x1.length):0+x1.length≤(List.map aA x1).length)⟩,⟨(nT c3)⟩]++w12) (by kernel_rfl)
 rw[if_neg c2] at h;replace c2:=eqf c2
 obtain rfl:=osi h
 exact Tri.of (x:=X56) aF aEQ (u9++[dt,dt,dt,dt,dt,dt,.rows (List.map aA x1)]) ([⟨(aV aA (l:=x1) (n:=x1.length) rfl)⟩,⟨(bV aA (Nat.le_refl x1.length):0+x1.length≤(List.map aA x1).length)⟩,⟨rT⟩,⟨(nT c2)⟩,⟨(nT c2)⟩,⟨(nT c2)⟩,⟨(nT c2)⟩,⟨(nT c2)⟩]++w10) (by kernel_rfl)
end Go.Ws

namespace Go.Ws
open Go.Proofs
set_option linter.unusedSimpArgs false
set_option linter.unusedVariables false
set_option maxRecDepth 1000000
set_option maxHeartbeats 4000000
noncomputable def X36_1001:Ctx:=⟨Try.f36,[],false⟩
theorem aBB (k:Nat) (x1:aI) (r:Unit) (h:jB k x1=some r):Tri Try.prog 36 [(.inl 2 (List.map aB x1))] [] (.ref 2 0 0 0 x1.length .virt) [(.arr 2 (List.map aB x1) 0 0 false)]:=by
 unfold jB at h
 by_cases c0:bC (x1.length*16)=true
 · rw[if_pos c0] at h
   obtain rfl:=osi h
   exact Tri.of (x:=X36_1001) aF aV0 [df,.n x1.length,.norm 0 ⟨[(2,[])],[⟨.tmp 2,[],some 2⟩],false,[],[]⟩,.n x1.length,.rows (List.map aB x1)] [⟨(bK aB (l:=x1) (n:=x1.length) rfl)⟩,⟨(rfl:x1.length=x1.length)⟩,⟨(zle x1.length)⟩,⟨c0⟩,⟨(aJ aB x1)⟩,⟨rF⟩] (by kernel_rfl)
 rw[if_neg c0] at h;replace c0:=eqf c0
 cases h
end Go.Ws

namespace Go.Ws
open Go.Proofs
set_option linter.unusedSimpArgs false
set_option linter.unusedVariables false
set_option maxRecDepth 1000000
set_option maxHeartbeats 4000000
noncomputable def X36_1002:Ctx:=⟨Try.f36,[],false⟩
theorem aBC:Tri Try.prog 36 [.nils] [] (.ref 2 0 0 0 0 .virt) [(.arr 2 (List.map aB []) 0 0 false)]:=by
 obtain⟨r,h⟩:∃r,qR=r:=⟨_,rfl⟩
 try rw[h]
 unfold qR at h
 obtain rfl:=h
 exact Tri.of (x:=X36_1002) aF aV0 [dt,.norm 0 ⟨[(2,[])],[⟨.tmp 2,[],some 2⟩],false,[],[]⟩,.n 0,.rows (List.map aB [])] [⟨(bK aB (l:=[]) (n:=0) rfl)⟩,⟨(rfl:0=0)⟩,⟨(zle 0)⟩,⟨rT⟩] (by kernel_rfl)
end Go.Ws

namespace Go.Ws
open Go.Proofs
set_option linter.unusedSimpArgs false
set_option linter.unusedVariables false
set_option maxRecDepth 1000000
set_option maxHeartbeats 4000000
theorem mL (k:Nat) (x1:aI) (r:Unit) (h:iZ k x1=some r):Tri Try.prog 36 [(.sl 2 (List.map aB x1))] [] (.ref 2 0 0 0 x1.length .virt) [(.arr 2 (List.map aB x1) 0 0 false)]:=by
 refine Tri.slOf (aBB k x1 r h) fun h0=>?_
 have hx:x1=[]:=by simpa using h0
 subst hx
 exact aBC
end Go.Ws

namespace Go.Ws
open Go.Proofs
set_option linter.unusedSimpArgs false
set_option linter.unusedVariables false
set_option maxRecDepth 1000000
set_option maxHeartbeats 4000000
noncomputable def X73:Ctx:=⟨Try.f73,[],false⟩
theorem aIR (k:Nat) (x1:Int) (x2:aI) (x3:Bool) (x4:Int) (r:Unit) (h:pZ k x1 x2 x3 x4=some r):Tri Try.prog 73 [(.agg [(.int .i64 x1),(.sl 2 (List.map aB x2)),(.bool x3),(.int .i64 x4)])] [] (.agg [(.int .i64 x1),(.ref 2 0 0 0 x2.length .virt),(.bool x3),(.int .i64 x4)]) [(.arr 2 (List.map aB x2) 0 0 false)]:=by
 unfold pZ at h
 obtain⟨x5,e0,h⟩:=bsm h
 obtain rfl:=osi h
 exact Tri.of (x:=X73) aF aV1 [.call ⟨true,[]⟩ (.ref 2 0 0 0 x2.length .virt) [(.arr 2 (List.map aB x2) 0 0 false)],.norm 0 ⟨[(2,[])],[⟨.tmp 2,[],none⟩,⟨.cell 0 1,[],none⟩],false,[],[]⟩] [⟨(mL k x2 _ e0)⟩] (by kernel_rfl)
end Go.Ws

namespace Go.Ws
open Go.Proofs
set_option linter.unusedSimpArgs false
set_option linter.unusedVariables false
set_option maxRecDepth 1000000
set_option maxHeartbeats 4000000
noncomputable def X75:Ctx:=⟨Try.f75,[],true⟩
theorem aHY (x1:Int) (x2:Int):Tri Try.prog 75 [(.agg [(.int .u8 x1),(.int .i64 x2)])] [] (.bool (jV x1 x2)) []:=by
 obtain⟨r,h⟩:∃r,jV x1 x2=r:=⟨_,rfl⟩
 try rw[h]
 unfold jV at h
 obtain rfl:=h
 exact Tri.of (x:=X75) aF facts75 [] [] (by kernel_rfl)
end Go.Ws

namespace Go.Ws
open Go.Proofs
set_option linter.unusedSimpArgs false
set_option linter.unusedVariables false
set_option maxRecDepth 1000000
set_option maxHeartbeats 4000000
noncomputable def X50:Ctx:=⟨Try.f50,[],true⟩
noncomputable def L50_0:Code:=at_ Try.f50 [1,0,1,4,5]
def S50_0 (x1:aI) (dK:Int):St:=⟨mkT 19 [(0,(.sl 2 (List.map aB x1))),(1,(.fn 75 [])),(7,(.int .i64 (nI x1.length))),(8,(.int .i64 dK))],[]⟩
def aO0:St:=⟨mkT 19 [],[]⟩
def O50_0 (x1:aI) (y:(Sum (Unit) (Int))):GX:=match y with
 | .inl y=>.st (.exit 0) (aO0)
 | .inr y=>.fin (.int .i64 y) []
theorem pB (x1:aI) (y:(Sum (Unit) (Int))):∀(k:Nat) (dK:Int),dH k x1 dK=some y→LT Try.prog X50 L50_0 (S50_0 x1 dK) (O50_0 x1 y)
 | 0,dK,h=>by cases h
 | k+1,dK,h=>by
  rw[dH] at h
  by_cases cL0:ltI dK (nI x1.length)=true
  · rw[if_pos cL0] at h
    by_cases cL1:inI dK x1.length=true
    · rw[if_pos cL1] at h
      obtain⟨nE,eL2,h⟩:=bsm h
      let u1:List Ans:=[dt,.n x1.length,.row [(.int .u8 nE.1),(.int .i64 nE.2)],.call ⟨true,[]⟩ (.bool (jV nE.1 nE.2)) []]
      let w2:List Prf:=[⟨(aHY nE.1 nE.2)⟩,⟨(aN (e:=aB) eL2 2 0 2 (by decide))⟩,⟨cL1⟩,⟨(aJ aB x1)⟩,⟨cL0⟩]
      by_cases cL3:(jV nE.1 nE.2)=true
      · rw[if_pos cL3] at h
        obtain rfl:=osi h
        show LT _ _ _ _ (.fin (.int .i64 dK) [])
        exact LT.done aF (hs:=⟨[],[],false,[],[]⟩) (es:=none) (u1++[dt]) ([⟨cL3⟩]++w2) (by kernel_rfl) (fun s h=>by cases h)
      rw[if_neg cL3] at h;replace cL3:=eqf cL3
      exact LT.next aF (hs:=⟨[(0,[]),(1,[]),(7,[]),(8,[])],[],false,[],[]⟩) (es:=none) (u1++[df]) ([⟨cL3⟩]++w2) (by kernel_rfl) (pB x1 y k (aL .i64 dK 1) h)
    rw[if_neg cL1] at h;replace cL1:=eqf cL1
    cases h
  rw[if_neg cL0] at h;replace cL0:=eqf cL0
  obtain rfl:=osi h
  show LT _ _ _ _ (.st (.exit 0) (aO0))
  exact LT.done aF (hs:=⟨[],[],false,[],[]⟩) (es:=(some ⟨[],[],false,[],[]⟩)) [df] [⟨cL0⟩] (by kernel_rfl) (fun s h=>by cases h)
theorem aE9 (k:Nat) (x1:aI) (r:Int) (h:l8 k x1=some r):Tri Try.prog 50 [(.sl 2 (List.map aB x1)),(.fn 75 [])] [] (.int .i64 r) []:=by
 unfold l8 at h
 let u3:List Ans:=[.n x1.length,.norm 2 ⟨[(0,[]),(1,[]),(7,[]),(8,[])],[],false,[],[]⟩]
 obtain⟨x2,e0,h⟩:=bsm h
 cases x2 with
 | inl x3 =>
  simp only[Sum.elim_inl] at h
  obtain rfl:=osi h
  exact Tri.of (x:=X50) aF aJ4 (u3++[.out (.st .normal (aO0))]) [⟨(LT.block (pB x1 _ k 0 e0))⟩,⟨(aJ aB x1)⟩] (by kernel_rfl)
 | inr x3 =>
  simp only[Sum.elim_inr] at h
  obtain rfl:=osi h
  exact Tri.of (x:=X50) aF aJ4 (u3++[.out (.fin (.int .i64 x3) [])]) [⟨(LT.blockFin (id:=0) (pB x1 _ k 0 e0))⟩,⟨(aJ aB x1)⟩] (by kernel_rfl)
end Go.Ws

namespace Go.Ws
open Go.Proofs
set_option linter.unusedSimpArgs false
set_option linter.unusedVariables false
set_option maxRecDepth 1000000
set_option maxHeartbeats 4000000
noncomputable def X42:Ctx:=⟨Try.f42,[],true⟩
theorem aCG (k:Nat) (x1:aI) (r:Bool) (h:jW k x1=some r):Tri Try.prog 42 [(.sl 2 (List.map aB x1)),(.fn 75 [])] [] (.bool r) []:=by
 unfold jW at h
 obtain⟨x2,e0,h⟩:=bsm h
 obtain rfl:=osi h
 exact Tri.of (x:=X42) aF aVC [.call ⟨true,[]⟩ (.int .i64 x2) []] [⟨(aE9 k x1 _ e0)⟩] (by kernel_rfl)
end Go.Ws

namespace Go.Ws
open Go.Proofs
set_option linter.unusedSimpArgs false
set_option linter.unusedVariables false
set_option maxRecDepth 1000000
set_option maxHeartbeats 4000000
noncomputable def X74:Ctx:=⟨Try.f74,[],true⟩
theorem vQ (k:Nat) (x1:Int) (x2:aI) (x3:Bool) (x4:Int) (r:Bool) (h:oZ k x1 x2 x3 x4=some r):Tri Try.prog 74 [(.agg [(.int .i64 x1),(.sl 2 (List.map aB x2)),(.bool x3),(.int .i64 x4)])] [] (.bool r) []:=by
 unfold oZ at h
 by_cases c0:ltI x1 0=true
 · rw[if_pos c0] at h
   obtain rfl:=osi h
   exact Tri.of (x:=X74) aF sN [dt,dt,dt,dt,dt,dt,dt,dt,dt,dt,dt,dt,dt,dt] [⟨rT⟩,⟨rT⟩,⟨rT⟩,⟨rT⟩,⟨rT⟩,⟨rT⟩,⟨rT⟩,⟨rT⟩,⟨rT⟩,⟨rT⟩,⟨c0⟩,⟨c0⟩,⟨c0⟩,⟨c0⟩] (by kernel_rfl)
 rw[if_neg c0] at h;replace c0:=eqf c0
 by_cases c1:ltI 3 x1=true
 · rw[if_pos c1] at h
   obtain rfl:=osi h
   exact Tri.of (x:=X74) aF sN [df,df,df,df,dt,dt,dt,dt,dt,dt,dt,dt,dt,dt] [⟨rT⟩,⟨rT⟩,⟨rT⟩,⟨rT⟩,⟨rT⟩,⟨c1⟩,⟨c1⟩,⟨c1⟩,⟨c1⟩,⟨c1⟩,⟨c0⟩,⟨c0⟩,⟨c0⟩,⟨c0⟩] (by kernel_rfl)
 rw[if_neg c1] at h;replace c1:=eqf c1
 let u3:List Ans:=[df,df,df,df,df,df,df,.n x2.length,df,df]
 let w4:List Prf:=[⟨c1⟩,⟨c1⟩,⟨(aJ aB x2)⟩,⟨c1⟩,⟨c1⟩,⟨c1⟩,⟨c0⟩,⟨c0⟩,⟨c0⟩,⟨c0⟩]
 by_cases c2:ltI 50 (nI x2.length)=true
 · rw[if_pos c2] at h
   obtain rfl:=osi h
   exact Tri.of (x:=X74) aF sN (u3++[dt,dt,dt,dt,dt]) ([⟨rT⟩,⟨c2⟩,⟨c2⟩,⟨c2⟩,⟨c2⟩]++w4) (by kernel_rfl)
 rw[if_neg c2] at h;replace c2:=eqf c2
 obtain⟨x5,e3,h⟩:=bsm h
 let u5:List Ans:=u3++[df,df,df,.call ⟨true,[]⟩ (.bool x5) [],df]
 let w6:List Prf:=[⟨c2⟩,⟨(aCG k x2 _ e3)⟩,⟨c2⟩,⟨c2⟩,⟨c2⟩]++w4
 by_cases c4:x5=true
 · rw[if_pos c4] at h
   obtain rfl:=osi h
   exact Tri.of (x:=X74) aF sN (u5++[dt]) ([⟨c4⟩]++w6) (by kernel_rfl)
 rw[if_neg c4] at h;replace c4:=eqf c4
 by_cases c5:eqI x4 1=true
 · rw[if_pos c5] at h
   by_cases c6:eqI x1 3=true
   · rw[if_pos c6] at h
     obtain rfl:=osi h
     exact Tri.of (x:=X74) aF sN (u5++[df,dt,dt,dt,dt,dt]) ([⟨c6⟩,⟨c5⟩,⟨c5⟩,⟨c5⟩,⟨c5⟩,⟨c4⟩]++w6) (by kernel_rfl)
   rw[if_neg c6] at h;replace c6:=eqf c6
   let w12:List Prf:=[⟨c6⟩,⟨c5⟩,⟨c5⟩,⟨c5⟩,⟨c5⟩,⟨c4⟩]++w6
   by_cases c7:eqI x4 0=true
   · rw[if_pos c7] at h
     let u13:List Ans:=u5++[df,dt,dt,dt,dt,df,dt,dt,dt,dt]
     by_cases c8:x3=true
     · rw[if_pos c8] at h
       obtain rfl:=osi h
       exact Tri.of (x:=X74) aF sN (u13++[df,df,df,dt,df,dt]) ([⟨c7⟩,⟨(nF c8)⟩,⟨c7⟩,⟨(nF c8)⟩,⟨(nF c8)⟩,⟨(nF c8)⟩,⟨c7⟩,⟨c7⟩,⟨c7⟩,⟨c7⟩]++w12) (by kernel_rfl)
     rw[if_neg c8] at h;replace c8:=eqf c8
     obtain rfl:=osi h
     exact Tri.of (x:=X74) aF sN (u13++[dt,dt,dt,dt,dt,dt]) ([⟨c7⟩,⟨(nT c8)⟩,⟨c7⟩,⟨(nT c8)⟩,⟨(nT c8)⟩,⟨(nT c8)⟩,⟨c7⟩,⟨c7⟩,⟨c7⟩,⟨c7⟩]++w12) (by kernel_rfl)
   rw[if_neg c7] at h;replace c7:=eqf c7
   obtain rfl:=osi h
   exact Tri.of (x:=X74) aF sN (u5++[df,dt,dt,dt,dt,df,df,df,df,df,df,df]) ([⟨c7⟩,⟨c7⟩,⟨c7⟩,⟨c7⟩,⟨c7⟩,⟨c7⟩]++w12) (by kernel_rfl)
 rw[if_neg c5] at h;replace c5:=eqf c5
 by_cases c6:eqI x1 3=true
 · rw[if_pos c6] at h
   obtain rfl:=osi h
   exact Tri.of (x:=X74) aF sN (u5++[df,df,df,df,df,dt]) ([⟨c6⟩,⟨c5⟩,⟨c5⟩,⟨c5⟩,⟨c5⟩,⟨c4⟩]++w6) (by kernel_rfl)
 rw[if_neg c6] at h;replace c6:=eqf c6
 let w18:List Prf:=[⟨c6⟩,⟨c5⟩,⟨c5⟩,⟨c5⟩,⟨c5⟩,⟨c4⟩]++w6
 by_cases c7:eqI x4 0=true
 · rw[if_pos c7] at h
   let u19:List Ans:=u5++[df,df,df,df,df,df,dt,dt,dt,dt]
   by_cases c8:x3=true
   · rw[if_pos c8] at h
     obtain rfl:=osi h
     exact Tri.of (x:=X74) aF sN (u19++[df,df,df,dt,df,dt]) ([⟨c7⟩,⟨(nF c8)⟩,⟨c7⟩,⟨(nF c8)⟩,⟨(nF c8)⟩,⟨(nF c8)⟩,⟨c7⟩,⟨c7⟩,⟨c7⟩,⟨c7⟩]++w18) (by kernel_rfl)
   rw[if_neg c8] at h;replace c8:=eqf c8
   obtain rfl:=osi h
   exact Tri.of (x:=X74) aF sN (u19++[dt,dt,dt,dt,dt,dt]) ([⟨c7⟩,⟨(nT c8)⟩,⟨c7⟩,⟨(nT c8)⟩,⟨(nT c8)⟩,⟨(nT c8)⟩,⟨c7⟩,⟨c7⟩,⟨c7⟩,⟨c7⟩]++w18) (by kernel_rfl)
 rw[if_neg c7] at h;replace c7:=eqf c7
 obtain rfl:=osi h
 exact Tri.of (x:=X74) aF sN (u5++[df,df,df,df,df,df,df,df,df,df,df,df]) ([⟨c7⟩,⟨c7⟩,⟨c7⟩,⟨c7⟩,⟨c7⟩,⟨c7⟩]++w18) (by kernel_rfl)
end Go.Ws

namespace Go.Ws
open Go.Proofs
set_option linter.unusedSimpArgs false
set_option linter.unusedVariables false
set_option maxRecDepth 1000000
set_option maxHeartbeats 4000000
noncomputable def X57:Ctx:=⟨Try.f57,[],true⟩
theorem aQ9 (k:Nat) (x1:Int) (x2:aI) (x3:Bool) (x4:Int) (x5:Int) (x6:Int) (r:Int × aI × Bool × Int × Int) (h:aBK k x1 x2 x3 x4 x5 x6=some r):Tri Try.prog 57 [(.agg [(.int .i64 x1),(.sl 2 (List.map aB x2)),(.bool x3),(.int .i64 x4)]),(.agg [(.int .u8 x5),(.int .i64 x6)])] [] (.tup [(.agg [(.int .i64 r.1),(.sl 2 (List.map aB r.2.1)),(.bool r.2.2.1),(.int .i64 r.2.2.2.1)]),(.int .i64 r.2.2.2.2)]) []:=by
 unfold aBK at h
 obtain⟨x7,e0,h⟩:=bsm h
 obtain⟨x8,e1,h⟩:=bsm h
 let u1:List Ans:=[.call ⟨true,[]⟩ (.agg [(.int .i64 x1),(.ref 2 0 0 0 x2.length .virt),(.bool x3),(.int .i64 x4)]) [(.arr 2 (List.map aB x2) 0 0 false)],.call ⟨true,[]⟩ (.bool x8) [],.rows (List.map aB x2)]
 let w2:List Prf:=[⟨(vQ k x1 x2 x3 x4 _ e1)⟩,⟨(aV aB (l:=x2) (n:=x2.length) rfl)⟩,⟨(bV aB (Nat.le_refl x2.length):0+x2.length≤(List.map aB x2).length)⟩,⟨(aIR k x1 x2 x3 x4 _ e0)⟩]
 by_cases c2:x8=true
 · rw[if_pos c2] at h
   let u3:List Ans:=u1++[df,df,.call ⟨true,[]⟩ (.bool (jV x5 x6)) [],df]
   let w4:List Prf:=[⟨(nF c2)⟩,⟨(aHY x5 x6)⟩,⟨(nF c2)⟩,⟨(nF c2)⟩]++w2
   by_cases c3:(jV x5 x6)=true
   · rw[if_pos c3] at h
     obtain rfl:=osi h
     exact Tri.of (x:=X57) aF aGC (u3++[dt,.rows (List.map aB x2)]) ([⟨(aV aB (l:=x2) (n:=x2.length) rfl)⟩,⟨(bV aB (Nat.le_refl x2.length):0+x2.length≤(List.map aB x2).length)⟩,⟨c3⟩]++w4) (by kernel_rfl)
   rw[if_neg c3] at h;replace c3:=eqf c3
   by_cases c4:eqI x1 0=true
   · rw[if_pos c4] at h
     by_cases c5:ltI (nI x2.length) 50=true
     · rw[if_pos c5] at h
       by_cases c6:bC (((x2++[(x5,x6)]).length)*16)=true
       · rw[if_pos c6] at h
         obtain rfl:=osi h
         exact Tri.of (x:=X57) aF aGC (u3++[df,df,df,.rows (List.map aB [(x5,x6)]),.n ((x2++[(x5,x6)]).length),.n x2.length,dt,.rows (List.map aB (x2++[(x5,x6)])),.rows (List.map aB (x2++[(x5,x6)]))]) ([⟨(aV aB (l:=(x2++[(x5,x6)])) (n:=((x2++[(x5,x6)]).length)) rfl)⟩,⟨(bV aB (Nat.le_refl ((x2++[(x5,x6)]).length)):0+(x2++[(x5,x6)]).length≤(List.map aB (x2++[(x5,x6)])).length)⟩,⟨(hU aB x2 [(x5,x6)])⟩,⟨(fO x2.length)⟩,⟨(aJ aB x2)⟩,⟨c6⟩,⟨(by simp only[wl,List.length_map,List.map_nil,List.map_cons]<;>omega:x2.length+(List.map aB [(x5,x6)]).length=(x2++[(x5,x6)]).length)⟩,⟨(aV aB (l:=[(x5,x6)]) (n:=1) rfl)⟩,⟨(bV aB (Nat.le_refl 1):0+1≤(List.map aB [(x5,x6)]).length)⟩,⟨(nF c5)⟩,⟨(nF c4)⟩,⟨c3⟩]++w4) (by kernel_rfl)
       rw[if_neg c6] at h;replace c6:=eqf c6
       cases h
     rw[if_neg c5] at h;replace c5:=eqf c5
     obtain rfl:=osi h
     exact Tri.of (x:=X57) aF aGC (u3++[df,df,dt,.rows (List.map aB x2)]) ([⟨(aV aB (l:=x2) (n:=x2.length) rfl)⟩,⟨(bV aB (Nat.le_refl x2.length):0+x2.length≤(List.map aB x2).length)⟩,⟨(nT c5)⟩,⟨(nF c4)⟩,⟨c3⟩]++w4) (by kernel_rfl)
   rw[if_neg c4] at h;replace c4:=eqf c4
   obtain rfl:=osi h
   exact Tri.of (x:=X57) aF aGC (u3++[df,dt,.rows (List.map aB x2)]) ([⟨(aV aB (l:=x2) (n:=x2.length) rfl)⟩,⟨(bV aB (Nat.le_refl x2.length):0+x2.length≤(List.map aB x2).length)⟩,⟨(nT c4)⟩,⟨c3⟩]++w4) (by kernel_rfl)
 rw[if_neg c2] at h;replace c2:=eqf c2
 obtain rfl:=osi h
 exact Tri.of (x:=X57) aF aGC (u1++[dt,dt,dt,dt,.rows (List.map aB x2)]) ([⟨(aV aB (l:=x2) (n:=x2.length) rfl)⟩,⟨(bV aB (Nat.le_refl x2.length):0+x2.length≤(List.map aB x2).length)⟩,⟨rT⟩,⟨(nT c2)⟩,⟨(nT c2)⟩,⟨(nT c2)⟩]++w2) (by kernel_rfl)
end Go.Ws

namespace Go.Ws
open Go.Proofs
set_option linter.unusedSimpArgs false
set_option linter.unusedVariables false
set_option maxRecDepth 1000000
set_option maxHeartbeats 4000000
noncomputable def X37:Ctx:=⟨Try.f37,[],true⟩
noncomputable def L37_0:Code:=at_ Try.f37 [1,0,1,4,5]
def S37_0 (x1:aI) (x2:Int) (eG:Int):St:=⟨mkT 20 [(1,(.int .u8 x2)),(7,(.sl 2 (List.map aB x1))),(8,(.int .i64 (nI x1.length))),(9,(.int .i64 eG))],[]⟩
def aQE:St:=⟨mkT 20 [],[]⟩
def O37_0 (x1:aI) (x2:Int) (y:(Sum (Unit) (Int))):GX:=match y with
 | .inl y=>.st (.exit 0) (aQE)
 | .inr y=>.fin (.int .i64 y) []
theorem vC (x1:aI) (x2:Int) (y:(Sum (Unit) (Int))):∀(k:Nat) (eG:Int),iF k x1 x2 eG=some y→LT Try.prog X37 L37_0 (S37_0 x1 x2 eG) (O37_0 x1 x2 y)
 | 0,eG,h=>by cases h
 | k+1,eG,h=>by
  rw[iF] at h
  by_cases cL0:ltI eG (nI x1.length)=true
  · rw[if_pos cL0] at h
    by_cases cL1:inI eG x1.length=true
    · rw[if_pos cL1] at h
      obtain⟨sA,eL2,h⟩:=bsm h
      let u1:List Ans:=[dt,.n x1.length,.row [(.int .u8 sA.1),(.int .i64 sA.2)]]
      let w2:List Prf:=[⟨(aN (e:=aB) eL2 2 0 2 (by decide))⟩,⟨cL1⟩,⟨(aJ aB x1)⟩,⟨cL0⟩]
      by_cases cL3:eqI sA.1 x2=true
      · rw[if_pos cL3] at h
        obtain rfl:=osi h
        show LT _ _ _ _ (.fin (.int .i64 sA.2) [])
        exact LT.done aF (hs:=⟨[],[],false,[],[]⟩) (es:=none) (u1++[dt]) ([⟨cL3⟩]++w2) (by kernel_rfl) (fun s h=>by cases h)
      rw[if_neg cL3] at h;replace cL3:=eqf cL3
      exact LT.next aF (hs:=⟨[(1,[]),(7,[]),(8,[]),(9,[])],[],false,[],[]⟩) (es:=none) (u1++[df]) ([⟨cL3⟩]++w2) (by kernel_rfl) (vC x1 x2 y k (aL .i64 eG 1) h)
    rw[if_neg cL1] at h;replace cL1:=eqf cL1
    cases h
  rw[if_neg cL0] at h;replace cL0:=eqf cL0
  obtain rfl:=osi h
  show LT _ _ _ _ (.st (.exit 0) (aQE))
  exact LT.done aF (hs:=⟨[],[],false,[],[]⟩) (es:=(some ⟨[],[],false,[],[]⟩)) [df] [⟨cL0⟩] (by kernel_rfl) (fun s h=>by cases h)
theorem aMT (k:Nat) (x1:aI) (x2:Int) (r:Int) (h:uW k x1 x2=some r):Tri Try.prog 37 [(.sl 2 (List.map aB x1)),(.int .u8 x2)] [] (.int .i64 r) []:=by
 unfold uW at h
 let u3:List Ans:=[.n x1.length,.norm 2 ⟨[(1,[]),(7,[]),(8,[]),(9,[])],[],false,[],[]⟩]
 obtain⟨x3,e0,h⟩:=bsm h
 cases x3 with
 | inl x4 =>
  simp only[Sum.elim_inl] at h
  obtain rfl:=osi h
  exact Tri.of (x:=X37) aF aVU (u3++[.out (.st .normal (aQE))]) [⟨(LT.block (vC x1 x2 _ k 0 e0))⟩,⟨(aJ aB x1)⟩] (by kernel_rfl)
 | inr x4 =>
  simp only[Sum.elim_inr] at h
  obtain rfl:=osi h
  exact Tri.of (x:=X37) aF aVU (u3++[.out (.fin (.int .i64 x4) [])]) [⟨(LT.blockFin (id:=0) (vC x1 x2 _ k 0 e0))⟩,⟨(aJ aB x1)⟩] (by kernel_rfl)
end Go.Ws

namespace Go.Ws
open Go.Proofs
set_option linter.unusedSimpArgs false
set_option linter.unusedVariables false
set_option maxRecDepth 1000000
set_option maxHeartbeats 4000000
noncomputable def X73_1:Ctx:=⟨Try.f73,[],true⟩
theorem sR (k:Nat) (x1:Int) (x2:aI) (x3:Bool) (x4:Int) (r:Int × aI × Bool × Int) (h:jY k x1 x2 x3 x4=some r):Tri Try.prog 73 [(.agg [(.int .i64 x1),(.sl 2 (List.map aB x2)),(.bool x3),(.int .i64 x4)])] [] (.agg [(.int .i64 r.1),(.sl 2 (List.map aB r.2.1)),(.bool r.2.2.1),(.int .i64 r.2.2.2)]) []:=by
 unfold jY at h
 obtain⟨x5,e0,h⟩:=bsm h
 obtain rfl:=osi h
 exact Tri.of (x:=X73_1) aF aV1 [.call ⟨true,[]⟩ (.ref 2 0 0 0 x2.length .virt) [(.arr 2 (List.map aB x2) 0 0 false)],.rows (List.map aB x2)] [⟨(aV aB (l:=x2) (n:=x2.length) rfl)⟩,⟨(bV aB (Nat.le_refl x2.length):0+x2.length≤(List.map aB x2).length)⟩,⟨(mL k x2 _ e0)⟩] (by kernel_rfl)
end Go.Ws

namespace Go.Ws
open Go.Proofs
set_option linter.unusedSimpArgs false
set_option linter.unusedVariables false
set_option maxRecDepth 1000000
set_option maxHeartbeats 4000000
noncomputable def X58:Ctx:=⟨Try.f58,[],true⟩
theorem aQA (k:Nat) (x1:Int) (x2:aI) (x3:Bool) (x4:Int) (x5:Bool) (r:Int × aI × Bool × Int × Int) (h:xY k x1 x2 x3 x4 x5=some r):Tri Try.prog 58 [(.agg [(.int .i64 x1),(.sl 2 (List.map aB x2)),(.bool x3),(.int .i64 x4)]),(.bool x5)] [] (.tup [(.agg [(.int .i64 r.1),(.sl 2 (List.map aB r.2.1)),(.bool r.2.2.1),(.int .i64 r.2.2.2.1)]),(.int .i64 r.2.2.2.2)]) []:=by
 unfold xY at h
 obtain⟨x6,e0,h⟩:=bsm h
 obtain⟨x7,e1,h⟩:=bsm h
 let u1:List Ans:=[.call ⟨true,[]⟩ (.agg [(.int .i64 x6.1),(.sl 2 (List.map aB x6.2.1)),(.bool x6.2.2.1),(.int .i64 x6.2.2.2)]) [],.call ⟨true,[]⟩ (.bool x7) []]
 let w2:List Prf:=[⟨(vQ k x6.1 x6.2.1 x6.2.2.1 x6.2.2.2 _ e1)⟩,⟨(sR k x1 x2 x3 x4 _ e0)⟩]
 by_cases c2:x7=true
 · rw[if_pos c2] at h
   by_cases c3:eqI x6.1 0=true
   · rw[if_pos c3] at h
     by_cases c4:x5=true
     · rw[if_pos c4] at h
       obtain rfl:=osi h
       exact Tri.of (x:=X58) aF aJ8 (u1++[df,df,dt]) ([⟨c4⟩,⟨(nF c3)⟩,⟨(nF c2)⟩]++w2) (by kernel_rfl)
     rw[if_neg c4] at h;replace c4:=eqf c4
     obtain rfl:=osi h
     exact Tri.of (x:=X58) aF aJ8 (u1++[df,df,df]) ([⟨c4⟩,⟨(nF c3)⟩,⟨(nF c2)⟩]++w2) (by kernel_rfl)
   rw[if_neg c3] at h;replace c3:=eqf c3
   obtain rfl:=osi h
   exact Tri.of (x:=X58) aF aJ8 (u1++[df,dt]) ([⟨(nT c3)⟩,⟨(nF c2)⟩]++w2) (by kernel_rfl)
 rw[if_neg c2] at h;replace c2:=eqf c2
 obtain rfl:=osi h
 exact Tri.of (x:=X58) aF aJ8 (u1++[dt]) ([⟨(nT c2)⟩]++w2) (by kernel_rfl)
end Go.Ws

namespace Go.Ws
open Go.Proofs
set_option linter.unusedSimpArgs false
set_option linter.unusedVariables false
set_option maxRecDepth 1000000
set_option maxHeartbeats 4000000
noncomputable def X40_1001:Ctx:=⟨Try.f40,[],false⟩
theorem aBE (k:Nat) (x1:aI) (r:Unit) (h:jC k x1=some r):Tri Try.prog 40 [(.inl 2 (List.map aB x1))] [] (.ref 2 0 0 0 x1.length .virt) [(.arr 2 (List.map aB x1) 0 0 false)]:=by
 unfold jC at h
 by_cases c0:bC (x1.length*16)=true
 · rw[if_pos c0] at h
   obtain rfl:=osi h
   exact Tri.of (x:=X40_1001) aF aVV [df,.n x1.length,.norm 0 ⟨[(2,[])],[⟨.tmp 2,[],some 2⟩],false,[],[]⟩,.n x1.length,.rows (List.map aB x1)] [⟨(bK aB (l:=x1) (n:=x1.length) rfl)⟩,⟨(rfl:x1.length=x1.length)⟩,⟨(zle x1.length)⟩,⟨c0⟩,⟨(aJ aB x1)⟩,⟨rF⟩] (by kernel_rfl)
 rw[if_neg c0] at h;replace c0:=eqf c0
 cases h
end Go.Ws

namespace Go.Ws
open Go.Proofs
set_option linter.unusedSimpArgs false
set_option linter.unusedVariables false
set_option maxRecDepth 1000000
set_option maxHeartbeats 4000000
noncomputable def X40_1002:Ctx:=⟨Try.f40,[],false⟩
theorem aAM:Tri Try.prog 40 [.nils] [] (.ref 2 0 0 0 0 .virt) [(.arr 2 (List.map aB []) 0 0 false)]:=by
 obtain⟨r,h⟩:∃r,qJ=r:=⟨_,rfl⟩
 try rw[h]
 unfold qJ at h
 obtain rfl:=h
 exact Tri.of (x:=X40_1002) aF aVV [dt,.norm 0 ⟨[(2,[])],[⟨.tmp 2,[],some 2⟩],false,[],[]⟩,.n 0,.rows (List.map aB [])] [⟨(bK aB (l:=[]) (n:=0) rfl)⟩,⟨(rfl:0=0)⟩,⟨(zle 0)⟩,⟨rT⟩] (by kernel_rfl)
end Go.Ws

namespace Go.Ws
open Go.Proofs
set_option linter.unusedSimpArgs false
set_option linter.unusedVariables false
set_option maxRecDepth 1000000
set_option maxHeartbeats 4000000
theorem aFR (k:Nat) (x1:aI) (r:Unit) (h:pP k x1=some r):Tri Try.prog 40 [(.sl 2 (List.map aB x1))] [] (.ref 2 0 0 0 x1.length .virt) [(.arr 2 (List.map aB x1) 0 0 false)]:=by
 refine Tri.slOf (aBE k x1 r h) fun h0=>?_
 have hx:x1=[]:=by simpa using h0
 subst hx
 exact aAM
end Go.Ws

namespace Go.Ws
open Go.Proofs
set_option linter.unusedSimpArgs false
set_option linter.unusedVariables false
set_option maxRecDepth 1000000
set_option maxHeartbeats 4000000
noncomputable def X41:Ctx:=⟨Try.f41,[],true⟩
noncomputable def L41_0:Code:=at_ Try.f41 [1,0,1,4,5]
def S41_0 (x1:aI) (cC:Int):St:=⟨mkT 36 [(0,(.sl 2 (List.map aB x1))),(5,(.sl 2 (List.map aB x1))),(6,(.int .i64 (nI x1.length))),(7,(.int .i64 cC))],[]⟩
def aQ5:St:=⟨mkT 36 [],[]⟩
def O41_0 (x1:aI) (y:qG):GX:=match y with
 | .inl y=>.st (.exit 0) (aQ5)
 | .inr y=>.fin (.bool y) []
theorem pE (x1:aI) (y:qG):∀(k:Nat) (cC:Int),fD k x1 cC=some y→LT Try.prog X41 L41_0 (S41_0 x1 cC) (O41_0 x1 y)
 | 0,cC,h=>by cases h
 | k+1,cC,h=>by
  rw[fD] at h
  by_cases cL0:ltI cC (nI x1.length)=true
  · rw[if_pos cL0] at h
    by_cases cL1:inI cC x1.length=true
    · rw[if_pos cL1] at h
      obtain⟨oR,eL2,h⟩:=bsm h
      let u1:List Ans:=[dt,.n x1.length,.row [(.int .u8 oR.1),(.int .i64 oR.2)]]
      let w2:List Prf:=[⟨(aN (e:=aB) eL2 2 0 2 (by decide))⟩,⟨cL1⟩,⟨(aJ aB x1)⟩,⟨cL0⟩]
      by_cases cL3:ltI oR.1 64=true
      · rw[if_pos cL3] at h
        let w4:List Prf:=[⟨(nF cL3)⟩,⟨(nF cL3)⟩,⟨(nF cL3)⟩,⟨(nF cL3)⟩]++w2
        by_cases cL4:eqI oR.2 0=true
        · rw[if_pos cL4] at h
          obtain rfl:=osi h
          show LT _ _ _ _ (.fin (.bool false) [])
          exact LT.done aF (hs:=⟨[],[],false,[],[]⟩) (es:=none) (u1++[df,df,df,df,dt,dt,dt,dt,dt,dt]) ([⟨rT⟩,⟨cL4⟩,⟨cL4⟩,⟨cL4⟩,⟨cL4⟩,⟨cL4⟩]++w4) (by kernel_rfl) (fun s h=>by cases h)
        rw[if_neg cL4] at h;replace cL4:=eqf cL4
        by_cases cL5:ltI 0 cC=true
        · rw[if_pos cL5] at h
          by_cases cL6:inI (qF .i64 cC 1) x1.length=true
          · rw[if_pos cL6] at h
            obtain⟨aBQ,eL7,h⟩:=bsm h
            let u7:List Ans:=u1++[df,df,df,df,df,df,df,dt,dt,dt,dt,.n x1.length,dt,dt,.row [(.int .u8 aBQ.1)],dt,dt,dt,df,dt,df]
            let w8:List Prf:=[⟨cL4⟩,⟨cL5⟩,⟨cL4⟩,⟨cL5⟩,⟨cL5⟩,⟨cL5⟩,⟨(aN (e:=aB) eL7 2 0 1 (by decide))⟩,⟨cL5⟩,⟨cL5⟩,⟨cL6⟩,⟨(aJ aB x1)⟩,⟨cL5⟩,⟨cL5⟩,⟨cL5⟩,⟨cL5⟩,⟨cL4⟩,⟨cL4⟩,⟨cL4⟩]++w4
            by_cases cL8:ltI aBQ.1 oR.1=true
            · rw[if_pos cL8] at h
              exact LT.next aF (hs:=⟨[(0,[]),(5,[]),(6,[]),(7,[])],[],false,[],[]⟩) (es:=none) (u7++[df]) ([⟨(nF cL8)⟩]++w8) (by kernel_rfl) (pE x1 y k (aL .i64 cC 1) h)
            rw[if_neg cL8] at h;replace cL8:=eqf cL8
            obtain rfl:=osi h
            show LT _ _ _ _ (.fin (.bool false) [])
            exact LT.done aF (hs:=⟨[],[],false,[],[]⟩) (es:=none) (u7++[dt]) ([⟨(nT cL8)⟩]++w8) (by kernel_rfl) (fun s h=>by cases h)
          rw[if_neg cL6] at h;replace cL6:=eqf cL6
          cases h
        rw[if_neg cL5] at h;replace cL5:=eqf cL5
        exact LT.next aF (hs:=⟨[(0,[]),(5,[]),(6,[]),(7,[])],[],false,[],[]⟩) (es:=none) (u1++[df,df,df,df,df,df,df,df,df,df,df,df,df,df,df,df,df,df,df,df]) ([⟨rF⟩,⟨cL4⟩,⟨cL5⟩,⟨cL4⟩,⟨cL5⟩,⟨cL5⟩,⟨cL5⟩,⟨cL5⟩,⟨cL5⟩,⟨cL5⟩,⟨cL5⟩,⟨cL5⟩,⟨cL5⟩,⟨cL4⟩,⟨cL4⟩,⟨cL4⟩]++w4) (by kernel_rfl) (pE x1 y k (aL .i64 cC 1) h)
      rw[if_neg cL3] at h;replace cL3:=eqf cL3
      obtain rfl:=osi h
      show LT _ _ _ _ (.fin (.bool false) [])
      exact LT.done aF (hs:=⟨[],[],false,[],[]⟩) (es:=none) (u1++[dt,dt,dt,dt,dt,dt,dt,dt,dt,dt]) ([⟨rT⟩,⟨rT⟩,⟨rT⟩,⟨rT⟩,⟨rT⟩,⟨rT⟩,⟨(nT cL3)⟩,⟨(nT cL3)⟩,⟨(nT cL3)⟩,⟨(nT cL3)⟩]++w2) (by kernel_rfl) (fun s h=>by cases h)
    rw[if_neg cL1] at h;replace cL1:=eqf cL1
    cases h
  rw[if_neg cL0] at h;replace cL0:=eqf cL0
  obtain rfl:=osi h
  show LT _ _ _ _ (.st (.exit 0) (aQ5))
  exact LT.done aF (hs:=⟨[],[],false,[],[]⟩) (es:=(some ⟨[],[],false,[],[]⟩)) [df] [⟨cL0⟩] (by kernel_rfl) (fun s h=>by cases h)
theorem aJT (k:Nat) (x1:aI) (r:Bool) (h:rB k x1=some r):Tri Try.prog 41 [(.sl 2 (List.map aB x1))] [] (.bool r) []:=by
 unfold rB at h
 let u9:List Ans:=[.n x1.length,.norm 2 ⟨[(0,[]),(5,[]),(6,[]),(7,[])],[],false,[],[]⟩]
 obtain⟨x2,e0,h⟩:=bsm h
 cases x2 with
 | inl x3 =>
  simp only[Sum.elim_inl] at h
  obtain rfl:=osi h
  exact Tri.of (x:=X41) aF aWN (u9++[.out (.st .normal (aQ5))]) [⟨(LT.block (pE x1 _ k 0 e0))⟩,⟨(aJ aB x1)⟩] (by kernel_rfl)
 | inr x3 =>
  simp only[Sum.elim_inr] at h
  obtain rfl:=osi h
  exact Tri.of (x:=X41) aF aWN (u9++[.out (.fin (.bool x3) [])]) [⟨(LT.blockFin (id:=0) (pE x1 _ k 0 e0))⟩,⟨(aJ aB x1)⟩] (by kernel_rfl)
end Go.Ws

namespace Go.Ws
open Go.Proofs
set_option linter.unusedSimpArgs false
set_option linter.unusedVariables false
set_option maxRecDepth 1000000
set_option maxHeartbeats 4000000
noncomputable def X39:Ctx:=⟨Try.f39,[],false⟩
theorem aJK (x1:Int) (x2:Int):Tri Try.prog 39 [(.agg [(.int .u8 x1),(.int .i64 x2)])] [] (.bool (!ltI x1 64)) []:=by
 obtain⟨r,h⟩:∃r,aB1 x1 x2=r:=⟨_,rfl⟩
 try rw[h]
 unfold aB1 at h
 obtain rfl:=h
 exact Tri.of (x:=X39) aF facts39 [.norm 0 ⟨[(2,[])],[],false,[],[]⟩] [] (by kernel_rfl)
end Go.Ws

namespace Go.Ws
open Go.Proofs
set_option linter.unusedSimpArgs false
set_option linter.unusedVariables false
set_option maxRecDepth 1000000
set_option maxHeartbeats 4000000
noncomputable def X50_1:Ctx:=⟨Try.f50,[],true⟩
noncomputable def L50_1_0:Code:=at_ Try.f50 [1,0,1,4,5]
def S50_1_0 (x1:aI) (cL:Int):St:=⟨mkT 19 [(0,(.sl 2 (List.map aB x1))),(1,(.fn 39 [])),(7,(.int .i64 (nI x1.length))),(8,(.int .i64 cL))],[]⟩
def aH9:St:=⟨mkT 19 [],[]⟩
def O50_1_0 (x1:aI) (y:(Sum (Unit) (Int))):GX:=match y with
 | .inl y=>.st (.exit 0) (aH9)
 | .inr y=>.fin (.int .i64 y) []
theorem nP (x1:aI) (y:(Sum (Unit) (Int))):∀(k:Nat) (cL:Int),cS k x1 cL=some y→LT Try.prog X50_1 L50_1_0 (S50_1_0 x1 cL) (O50_1_0 x1 y)
 | 0,cL,h=>by cases h
 | k+1,cL,h=>by
  rw[cS] at h
  by_cases cL0:ltI cL (nI x1.length)=true
  · rw[if_pos cL0] at h
    by_cases cL1:inI cL x1.length=true
    · rw[if_pos cL1] at h
      obtain⟨p8,eL2,h⟩:=bsm h
      let u1:List Ans:=[dt,.n x1.length,.row [(.int .u8 p8.1),(.int .i64 p8.2)],.call ⟨false,[]⟩ (.bool (!ltI p8.1 64)) []]
      let w2:List Prf:=[⟨(aJK p8.1 p8.2)⟩,⟨(aN (e:=aB) eL2 2 0 2 (by decide))⟩,⟨cL1⟩,⟨(aJ aB x1)⟩,⟨cL0⟩]
      by_cases cL3:ltI p8.1 64=true
      · rw[if_pos cL3] at h
        exact LT.next aF (hs:=⟨[(0,[]),(1,[]),(7,[]),(8,[])],[],false,[],[]⟩) (es:=none) (u1++[df]) ([⟨(nF cL3)⟩]++w2) (by kernel_rfl) (nP x1 y k (aL .i64 cL 1) h)
      rw[if_neg cL3] at h;replace cL3:=eqf cL3
      obtain rfl:=osi h
      show LT _ _ _ _ (.fin (.int .i64 cL) [])
      exact LT.done aF (hs:=⟨[],[],false,[],[]⟩) (es:=none) (u1++[dt]) ([⟨(nT cL3)⟩]++w2) (by kernel_rfl) (fun s h=>by cases h)
    rw[if_neg cL1] at h;replace cL1:=eqf cL1
    cases h
  rw[if_neg cL0] at h;replace cL0:=eqf cL0
  obtain rfl:=osi h
  show LT _ _ _ _ (.st (.exit 0) (aH9))
  exact LT.done aF (hs:=⟨[],[],false,[],[]⟩) (es:=(some ⟨[],[],false,[],[]⟩)) [df] [⟨cL0⟩] (by kernel_rfl) (fun s h=>by cases h)
theorem aC7 (k:Nat) (x1:aI) (r:Int) (h:kC k x1=some r):Tri Try.prog 50 [(.sl 2 (List.map aB x1)),(.fn 39 [])] [] (.int .i64 r) []:=by
 unfold kC at h
 let u3:List Ans:=[.n x1.length,.norm 2 ⟨[(0,[]),(1,[]),(7,[]),(8,[])],[],false,[],[]⟩]
 obtain⟨x2,e0,h⟩:=bsm h
 cases x2 with
 | inl x3 =>
  simp only[Sum.elim_inl] at h
  obtain rfl:=osi h
  exact Tri.of (x:=X50_1) aF aJ4 (u3++[.out (.st .normal (aH9))]) [⟨(LT.block (nP x1 _ k 0 e0))⟩,⟨(aJ aB x1)⟩] (by kernel_rfl)
 | inr x3 =>
  simp only[Sum.elim_inr] at h
  obtain rfl:=osi h
  exact Tri.of (x:=X50_1) aF aJ4 (u3++[.out (.fin (.int .i64 x3) [])]) [⟨(LT.blockFin (id:=0) (nP x1 _ k 0 e0))⟩,⟨(aJ aB x1)⟩] (by kernel_rfl)
end Go.Ws

namespace Go.Ws
open Go.Proofs
set_option linter.unusedSimpArgs false
set_option linter.unusedVariables false
set_option maxRecDepth 1000000
set_option maxHeartbeats 4000000
noncomputable def X42_1:Ctx:=⟨Try.f42,[],true⟩
theorem aAG (k:Nat) (x1:aI) (r:Bool) (h:iT k x1=some r):Tri Try.prog 42 [(.sl 2 (List.map aB x1)),(.fn 39 [])] [] (.bool r) []:=by
 unfold iT at h
 obtain⟨x2,e0,h⟩:=bsm h
 obtain rfl:=osi h
 exact Tri.of (x:=X42_1) aF aVC [.call ⟨true,[]⟩ (.int .i64 x2) []] [⟨(aC7 k x1 _ e0)⟩] (by kernel_rfl)
end Go.Ws

namespace Go.Ws
open Go.Proofs
set_option linter.unusedSimpArgs false
set_option linter.unusedVariables false
set_option maxRecDepth 1000000
set_option maxHeartbeats 4000000
noncomputable def X52:Ctx:=⟨Try.f52,[],false⟩
theorem aBA (x1:Int) (x2:Int) (x3:Int):Tri Try.prog 52 [(.agg [(.int .u8 x1),(.int .i64 x2)]),(.int .u8 x3)] [] (.int .i64 (bT x1 x3)) []:=by
 obtain⟨r,h⟩:∃r,aAF x1 x2 x3=r:=⟨_,rfl⟩
 try rw[h]
 unfold aAF at h
 obtain rfl:=h
 exact Tri.of (x:=X52) aF facts52 [.call ⟨true,[]⟩ (.int .i64 (bT x1 x3)) [],.norm 0 ⟨[(4,[])],[],false,[],[]⟩] [⟨(aD4 x1 x3)⟩] (by kernel_rfl)
end Go.Ws

namespace Go.Ws
open Go.Proofs
set_option linter.unusedSimpArgs false
set_option linter.unusedVariables false
set_option maxRecDepth 1000000
set_option maxHeartbeats 4000000
noncomputable def X51:Ctx:=⟨Try.f51,[],true⟩
noncomputable def L51_0:Code:=at_ Try.f51 [1,1,1,0,4,5]
def S51_0 (x1:aI) (x2:Int) (cM:Int) (dA:Int):St:=⟨mkT 49 [(0,(.sl 2 (List.map aB x1))),(1,(.int .u8 x2)),(2,(.fn 52 [])),(8,(.int .i64 (nI x1.length))),(9,(.int .i64 cM)),(10,(.int .i64 dA))],[]⟩
def aQK (x1:aI) (x2:Int) (v51002_1:Int):St:=⟨mkT 49 [(0,(.sl 2 (List.map aB x1))),(1,(.int .u8 x2)),(2,(.fn 52 [])),(8,(.int .i64 (nI x1.length))),(9,(.int .i64 v51002_1))],[]⟩
def O51_0 (x1:aI) (x2:Int) (y:(Int)):GX:=.st (.exit 0) (aQK x1 x2 y)
theorem jN (x1:aI) (x2:Int) (y:(Int)):∀(k:Nat) (cM:Int) (dA:Int),aZ k x1 x2 cM dA=some y→LT Try.prog X51 L51_0 (S51_0 x1 x2 cM dA) (O51_0 x1 x2 y)
 | 0,cM,dA,h=>by cases h
 | k+1,cM,dA,h=>by
  rw[aZ] at h
  by_cases cL0:ltI cM dA=true
  · rw[if_pos cL0] at h
    by_cases cL1:inI (conv .i64 (wS .u64 (conv .u64 (aL .i64 cM dA)) 1)) x1.length=true
    · rw[if_pos cL1] at h
      obtain⟨sB,eL2,h⟩:=bsm h
      let u1:List Ans:=[dt,.n x1.length,.row [(.int .u8 sB.1),(.int .i64 sB.2)],.call ⟨false,[]⟩ (.int .i64 (bT sB.1 x2)) []]
      let w2:List Prf:=[⟨(aBA sB.1 sB.2 x2)⟩,⟨(aN (e:=aB) eL2 2 0 2 (by decide))⟩,⟨cL1⟩,⟨(aJ aB x1)⟩,⟨cL0⟩]
      by_cases cL3:ltI (bT sB.1 x2) 0=true
      · rw[if_pos cL3] at h
        exact LT.next aF (hs:=⟨[(0,[]),(1,[]),(2,[]),(8,[]),(9,[]),(10,[])],[],false,[],[]⟩) (es:=none) (u1++[dt]) ([⟨cL3⟩]++w2) (by kernel_rfl) (jN x1 x2 y k (aL .i64 (conv .i64 (wS .u64 (conv .u64 (aL .i64 cM dA)) 1)) 1) dA h)
      rw[if_neg cL3] at h;replace cL3:=eqf cL3
      exact LT.next aF (hs:=⟨[(0,[]),(1,[]),(2,[]),(8,[]),(9,[]),(10,[])],[],false,[],[]⟩) (es:=none) (u1++[df]) ([⟨cL3⟩]++w2) (by kernel_rfl) (jN x1 x2 y k cM (conv .i64 (wS .u64 (conv .u64 (aL .i64 cM dA)) 1)) h)
    rw[if_neg cL1] at h;replace cL1:=eqf cL1
    cases h
  rw[if_neg cL0] at h;replace cL0:=eqf cL0
  obtain rfl:=osi h
  show LT _ _ _ _ (.st (.exit 0) (aQK x1 x2 cM))
  exact LT.done aF (hs:=⟨[],[],false,[],[]⟩) (es:=(some ⟨[(0,[]),(1,[]),(2,[]),(8,[]),(9,[])],[],false,[],[]⟩)) [df] [⟨cL0⟩] (by kernel_rfl) (fun s h=>by cases h)
theorem v8 (k:Nat) (x1:aI) (x2:Int) (r:Int × Bool) (h:fZ k x1 x2=some r):Tri Try.prog 51 [(.sl 2 (List.map aB x1)),(.int .u8 x2),(.fn 52 [])] [] (.tup [(.int .i64 r.1),(.bool r.2)]) []:=by
 unfold fZ at h
 obtain⟨x4,e0,h⟩:=bsm h
 let u3:List Ans:=[.n x1.length,.norm 2 ⟨[(0,[]),(1,[]),(2,[]),(8,[]),(9,[]),(10,[])],[],false,[],[]⟩,.out (.st .normal (aQK x1 x2 x4))]
 let w4:List Prf:=[⟨(LT.block (jN x1 x2 _ k 0 (nI x1.length) e0))⟩,⟨(aJ aB x1)⟩]
 by_cases c2:ltI x4 (nI x1.length)=true
 · rw[if_pos c2] at h
   by_cases c3:inI x4 x1.length=true
   · rw[if_pos c3] at h
     obtain⟨x5,e4,h⟩:=bsm h
     obtain rfl:=osi h
     exact Tri.of (x:=X51) aF aU9 (u3++[dt,dt,dt,dt,.n x1.length,dt,.row [(.int .u8 x5.1),(.int .i64 x5.2)],dt,dt,.call ⟨false,[]⟩ (.int .i64 (bT x5.1 x2)) [],dt,dt]) ([⟨c2⟩,⟨c2⟩,⟨(aBA x5.1 x5.2 x2)⟩,⟨c2⟩,⟨c2⟩,⟨(aN (e:=aB) e4 2 0 2 (by decide))⟩,⟨c2⟩,⟨c3⟩,⟨(aJ aB x1)⟩,⟨c2⟩,⟨c2⟩,⟨c2⟩,⟨c2⟩]++w4) (by kernel_rfl)
   rw[if_neg c3] at h;replace c3:=eqf c3
   cases h
 rw[if_neg c2] at h;replace c2:=eqf c2
 obtain rfl:=osi h
 exact Tri.of (x:=X51) aF aU9 (u3++[df,df,df,df,df,df,df,df,df]) ([⟨c2⟩,⟨c2⟩,⟨c2⟩,⟨c2⟩,⟨c2⟩,⟨c2⟩,⟨c2⟩,⟨c2⟩,⟨c2⟩]++w4) (by kernel_rfl)
end Go.Ws

namespace Go.Ws
open Go.Proofs
set_option linter.unusedSimpArgs false
set_option linter.unusedVariables false
set_option maxRecDepth 1000000
set_option maxHeartbeats 4000000
noncomputable def X43:Ctx:=⟨Try.f43,[],true⟩
theorem aLQ (k:Nat) (x1:aI) (x2:Int) (r:Int × Bool) (h:s6 k x1 x2=some r):Tri Try.prog 43 [(.sl 2 (List.map aB x1)),(.int .u8 x2)] [] (.tup [(.int .i64 r.1),(.bool r.2)]) []:=by
 unfold s6 at h
 obtain⟨x3,e0,h⟩:=bsm h
 obtain rfl:=osi h
 exact Tri.of (x:=X43) aF facts43 [.call ⟨true,[]⟩ (.tup [(.int .i64 x3.1),(.bool x3.2)]) []] [⟨(v8 k x1 x2 _ e0)⟩] (by kernel_rfl)
end Go.Ws

namespace Go.Ws
open Go.Proofs
set_option linter.unusedSimpArgs false
set_option linter.unusedVariables false
set_option maxRecDepth 1000000
set_option maxHeartbeats 4000000
theorem aIQ (k:Nat) (x1:Int) (x2:Int) (x3:aI) (r:aI) (h:rQ k x1 x2 x3=some r):Tri Try.prog 45 [(.ref 2 0 0 0 x3.length .virt),(.int .i64 x1),(.int .i64 x2)] [(.arr 2 (List.map aB x3) 0 0 false)] (.ref 2 0 1 0 r.length .full) [(.arr 2 (List.map aB r) 1 1 false)]:=aSH _ h
end Go.Ws

namespace Go.Ws
open Go.Proofs
set_option linter.unusedSimpArgs false
set_option linter.unusedVariables false
set_option maxRecDepth 1000000
set_option maxHeartbeats 4000000
theorem aFA (k:Nat) (x1:Int) (x2:aI) (x3:aI) (r:aI) (h:oO k x1 x2 x3=some r):Tri Try.prog 44 [(.ref 2 0 0 0 x2.length .virt),(.int .i64 x1),(.ref 2 1 0 0 x3.length .full)] [(.arr 2 (List.map aB x2) 0 0 false),(.arr 2 (List.map aB x3) 0 0 false)] (.ref 2 0 1 0 r.length .full) [(.arr 2 (List.map aB r) 1 1 false),(.arr 2 (List.map aB x3) 0 0 false)]:=ins_ok44 _ h rfl
end Go.Ws

namespace Go.Ws
open Go.Proofs
set_option linter.unusedSimpArgs false
set_option linter.unusedVariables false
set_option maxRecDepth 1000000
set_option maxHeartbeats 4000000
theorem aFU (k:Nat) (x1:Int) (x2:Int) (x3:aI) (r:aI) (h:pO k x1 x2 x3=some r):Tri Try.prog 45 [(.ref 2 0 1 0 x3.length .full),(.int .i64 x1),(.int .i64 x2)] [(.arr 2 (List.map aB x3) 1 1 false)] (.ref 2 0 2 0 r.length .full) [(.arr 2 (List.map aB r) 2 2 false)]:=aSH _ h
end Go.Ws

namespace Go.Ws
open Go.Proofs
set_option linter.unusedSimpArgs false
set_option linter.unusedVariables false
set_option maxRecDepth 1000000
set_option maxHeartbeats 4000000
noncomputable def X30:Ctx:=⟨Try.f30,[],true⟩
noncomputable def L30_0:Code:=at_ Try.f30 [1,1,1,1,0,1,4,5]
def S30_0 (x2:aI) (cN:Int) (bA:aI):St:=⟨mkT 67 [(0,(.ref 2 0 0 0 bA.length .virt)),(22,(.sl 2 (List.map aB x2))),(23,(.int .i64 (nI x2.length))),(24,(.int .i64 cN))],[(.arr 2 (List.map aB bA) 0 0 false)]⟩
def aO2 (aTB:aI):St:=⟨mkT 67 [(0,(.ref 2 0 0 0 aTB.length .virt))],[(.arr 2 (List.map aB aTB) 0 0 false)]⟩
def O30_0 (x2:aI) (y:(aI)):GX:=.st (.exit 0) (aO2 y)
theorem oH (x2:aI) (y:(aI)):∀(k:Nat) (cN:Int) (bA:aI),fM k x2 cN bA=some y→LT Try.prog X30 L30_0 (S30_0 x2 cN bA) (O30_0 x2 y)
 | 0,cN,bA,h=>by cases h
 | k+1,cN,bA,h=>by
  rw[fM] at h
  by_cases cL0:ltI cN (nI x2.length)=true
  · rw[if_pos cL0] at h
    by_cases cL1:inI cN x2.length=true
    · rw[if_pos cL1] at h
      obtain⟨b7,eL2,h⟩:=bsm h
      obtain⟨aW,eL3,h⟩:=bsm h
      let u1:List Ans:=[dt,.n x2.length,.row [(.int .u8 b7.1),(.int .i64 b7.2)],.call ⟨true,[]⟩ (.tup [(.int .i64 aW.1),(.bool aW.2)]) [],.rows (List.map aB bA)]
      let w2:List Prf:=[⟨(aLQ k bA b7.1 _ eL3)⟩,⟨(aV aB (l:=bA) (n:=bA.length) rfl)⟩,⟨(bV aB (Nat.le_refl bA.length):0+bA.length≤(List.map aB bA).length)⟩,⟨(aN (e:=aB) eL2 2 0 2 (by decide))⟩,⟨cL1⟩,⟨(aJ aB x2)⟩,⟨cL0⟩]
      by_cases cL4:aW.2=true
      · rw[if_pos cL4] at h
        by_cases cL5:inI aW.1 bA.length=true
        · rw[if_pos cL5] at h
          obtain⟨aX,eL6,h⟩:=bsm h
          obtain⟨cD,eL7,h⟩:=bsm h
          let u3:List Ans:=u1++[df,.row [(.int .i64 aX.2)],.rows (List.map aB (List.set bA (tN aW.1) (aX.1,aL .i64 aX.2 b7.2))),.row [(.int .i64 cD.2)]]
          let w4:List Prf:=[⟨(aN (e:=aB) eL7 2 1 1 (by decide))⟩,⟨cL5⟩,⟨(xU (e:=aB) eL6 1 [(.int .i64 (aL .i64 aX.2 b7.2))] (aX.1,aL .i64 aX.2 b7.2) rfl)⟩,⟨cL5⟩,⟨(aN (e:=aB) eL6 2 1 1 (by decide))⟩,⟨cL5⟩,⟨(nF cL4)⟩]++w2
          by_cases cL8:eqI cD.2 0=true
          · rw[if_pos cL8] at h
            obtain⟨iX,eL9,h⟩:=bsm h
            exact LT.next aF (hs:=⟨[(0,[]),(22,[]),(23,[]),(24,[])],[⟨.tmp 0,[],some 2⟩],false,[],[]⟩) (es:=none) (u3++[dt,.call ⟨false,[]⟩ (.ref 2 0 1 0 iX.length .full) [(.arr 2 (List.map aB iX) 1 1 false)],.n iX.length,.rows (List.map aB iX)]) ([⟨(bK aB (l:=iX) (n:=iX.length) rfl)⟩,⟨(rfl:iX.length=iX.length)⟩,⟨(zle iX.length)⟩,⟨(by have hh:=(aIQ k aW.1 (aL .i64 aW.1 1) (List.set bA (tN aW.1) (aX.1,aL .i64 aX.2 b7.2)) _ eL9);simp only[List.length_set] at hh;exact hh)⟩,⟨cL8⟩]++w4) (by kernel_rfl) (oH x2 y k (aL .i64 cN 1) iX h)
          rw[if_neg cL8] at h;replace cL8:=eqf cL8
          exact LT.next aF (hs:=⟨[(0,[]),(22,[]),(23,[]),(24,[])],[⟨.tmp 0,[],some 2⟩],false,[],[]⟩) (es:=none) (u3++[df,.n ((List.set bA (tN aW.1) (aX.1,aL .i64 aX.2 b7.2)).length),.rows (List.map aB (List.set bA (tN aW.1) (aX.1,aL .i64 aX.2 b7.2)))]) ([⟨(bK aB (l:=(List.set bA (tN aW.1) (aX.1,aL .i64 aX.2 b7.2))) (n:=bA.length) (by simp:bA.length=(List.set bA (tN aW.1) (aX.1,aL .i64 aX.2 b7.2)).length))⟩,⟨((by simp:bA.length=List.length (α:=Int × Int) (List.set bA (tN aW.1) (aX.1,aL .i64 aX.2 b7.2))):bA.length=(List.set bA (tN aW.1) (aX.1,aL .i64 aX.2 b7.2)).length)⟩,⟨(zle bA.length)⟩,⟨cL8⟩]++w4) (by kernel_rfl) (oH x2 y k (aL .i64 cN 1) (List.set bA (tN aW.1) (aX.1,aL .i64 aX.2 b7.2)) h)
        rw[if_neg cL5] at h;replace cL5:=eqf cL5
        cases h
      rw[if_neg cL4] at h;replace cL4:=eqf cL4
      obtain⟨aX,eL5,h⟩:=bsm h
      by_cases cL6:inI aW.1 aX.length=true
      · rw[if_pos cL6] at h
        obtain⟨cD,eL7,h⟩:=bsm h
        obtain⟨iX,eL8,h⟩:=bsm h
        let u5:List Ans:=u1++[dt,.call ⟨false,[]⟩ (.ref 2 0 1 0 aX.length .full) [(.arr 2 (List.map aB aX) 1 1 false),(.arr 2 (List.map aB [(b7.1,0)]) 0 0 false)],.row [(.int .i64 cD.2)],.rows (List.map aB (List.set aX (tN aW.1) (cD.1,aL .i64 cD.2 b7.2))),.row [(.int .i64 iX.2)]]
        let w6:List Prf:=[⟨(aN (e:=aB) eL8 2 1 1 (by decide))⟩,⟨cL6⟩,⟨(xU (e:=aB) eL7 1 [(.int .i64 (aL .i64 cD.2 b7.2))] (cD.1,aL .i64 cD.2 b7.2) rfl)⟩,⟨cL6⟩,⟨(aN (e:=aB) eL7 2 1 1 (by decide))⟩,⟨cL6⟩,⟨(aFA k aW.1 bA [(b7.1,0)] _ eL5)⟩,⟨(nT cL4)⟩]++w2
        by_cases cL9:eqI iX.2 0=true
        · rw[if_pos cL9] at h
          obtain⟨nG,eL10,h⟩:=bsm h
          exact LT.next aF (hs:=⟨[(0,[]),(22,[]),(23,[]),(24,[])],[⟨.tmp 0,[],some 2⟩],false,[],[]⟩) (es:=none) (u5++[dt,.call ⟨false,[]⟩ (.ref 2 0 2 0 nG.length .full) [(.arr 2 (List.map aB nG) 2 2 false)],.n nG.length,.rows (List.map aB nG)]) ([⟨(bK aB (l:=nG) (n:=nG.length) rfl)⟩,⟨(rfl:nG.length=nG.length)⟩,⟨(zle nG.length)⟩,⟨(by have hh:=(aFU k aW.1 (aL .i64 aW.1 1) (List.set aX (tN aW.1) (cD.1,aL .i64 cD.2 b7.2)) _ eL10);simp only[List.length_set] at hh;exact hh)⟩,⟨cL9⟩]++w6) (by kernel_rfl) (oH x2 y k (aL .i64 cN 1) nG h)
        rw[if_neg cL9] at h;replace cL9:=eqf cL9
        exact LT.next aF (hs:=⟨[(0,[]),(22,[]),(23,[]),(24,[])],[⟨.tmp 0,[],some 2⟩],false,[],[]⟩) (es:=none) (u5++[df,.n ((List.set aX (tN aW.1) (cD.1,aL .i64 cD.2 b7.2)).length),.rows (List.map aB (List.set aX (tN aW.1) (cD.1,aL .i64 cD.2 b7.2)))]) ([⟨(bK aB (l:=(List.set aX (tN aW.1) (cD.1,aL .i64 cD.2 b7.2))) (n:=aX.length) (by simp:aX.length=(List.set aX (tN aW.1) (cD.1,aL .i64 cD.2 b7.2)).length))⟩,⟨((by simp:aX.length=List.length (α:=Int × Int) (List.set aX (tN aW.1) (cD.1,aL .i64 cD.2 b7.2))):aX.length=(List.set aX (tN aW.1) (cD.1,aL .i64 cD.2 b7.2)).length)⟩,⟨(zle aX.length)⟩,⟨cL9⟩]++w6) (by kernel_rfl) (oH x2 y k (aL .i64 cN 1) (List.set aX (tN aW.1) (cD.1,aL .i64 cD.2 b7.2)) h)
      rw[if_neg cL6] at h;replace cL6:=eqf cL6
      cases h
    rw[if_neg cL1] at h;replace cL1:=eqf cL1
    cases h
  rw[if_neg cL0] at h;replace cL0:=eqf cL0
  obtain rfl:=osi h
  show LT _ _ _ _ (.st (.exit 0) (aO2 bA))
  exact LT.done aF (hs:=⟨[],[],false,[],[]⟩) (es:=(some ⟨[(0,[])],[⟨.tmp 0,[],none⟩],false,[],[]⟩)) [df] [⟨cL0⟩] (by kernel_rfl) (fun s h=>by cases h)
theorem rX (k:Nat) (x1:aI) (x2:aI) (r:aI × Int) (h:nR k x1 x2=some r):Tri Try.prog 30 [(.sl 2 (List.map aB x1)),(.sl 2 (List.map aB x2))] [] (.tup [(.sl 2 (List.map aB r.1)),(.int .i64 r.2)]) []:=by
 unfold nR at h
 obtain⟨x3,e0,h⟩:=bsm h
 obtain⟨x4,e1,h⟩:=bsm h
 let u7:List Ans:=[.call ⟨true,[]⟩ (.ref 2 0 0 0 x1.length .virt) [(.arr 2 (List.map aB x1) 0 0 false)],.call ⟨true,[]⟩ (.bool x4) [],.rows (List.map aB x1)]
 let w8:List Prf:=[⟨(aJT k x1 _ e1)⟩,⟨(aV aB (l:=x1) (n:=x1.length) rfl)⟩,⟨(bV aB (Nat.le_refl x1.length):0+x1.length≤(List.map aB x1).length)⟩,⟨(aFR k x1 _ e0)⟩]
 by_cases c2:x4=true
 · rw[if_pos c2] at h
   obtain⟨x5,e3,h⟩:=bsm h
   let u9:List Ans:=u7++[df,df,df,.call ⟨true,[]⟩ (.bool x5) [],df]
   let w10:List Prf:=[⟨(nF c2)⟩,⟨(aAG k x2 _ e3)⟩,⟨(nF c2)⟩,⟨(nF c2)⟩,⟨(nF c2)⟩]++w8
   by_cases c4:x5=true
   · rw[if_pos c4] at h
     obtain rfl:=osi h
     exact Tri.of (x:=X30) aF aPG (u9++[dt,.rows (List.map aB x1)]) ([⟨(aV aB (l:=x1) (n:=x1.length) rfl)⟩,⟨(bV aB (Nat.le_refl x1.length):0+x1.length≤(List.map aB x1).length)⟩,⟨c4⟩]++w10) (by kernel_rfl)
   rw[if_neg c4] at h;replace c4:=eqf c4
   obtain⟨x7,e5,h⟩:=bsm h
   obtain rfl:=osi h
   exact Tri.of (x:=X30) aF aPG (u9++[df,.n x2.length,.norm 2 ⟨[(0,[]),(22,[]),(23,[]),(24,[])],[⟨.tmp 0,[],some 2⟩],false,[],[]⟩,.n x1.length,.rows (List.map aB x1),.out (.st .normal (aO2 x7)),.rows (List.map aB x7)]) ([⟨(aV aB (l:=x7) (n:=x7.length) rfl)⟩,⟨(bV aB (Nat.le_refl x7.length):0+x7.length≤(List.map aB x7).length)⟩,⟨(LT.block (oH x2 _ k 0 x1 e5))⟩,⟨(bK aB (l:=x1) (n:=x1.length) rfl)⟩,⟨(rfl:x1.length=x1.length)⟩,⟨(zle x1.length)⟩,⟨(aJ aB x2)⟩,⟨c4⟩]++w10) (by kernel_rfl)
 rw[if_neg c2] at h;replace c2:=eqf c2
 obtain rfl:=osi h
 exact Tri.of (x:=X30) aF aPG (u7++[dt,dt,dt,dt,dt,.rows (List.map aB x1)]) ([⟨(aV aB (l:=x1) (n:=x1.length) rfl)⟩,⟨(bV aB (Nat.le_refl x1.length):0+x1.length≤(List.map aB x1).length)⟩,⟨rT⟩,⟨(nT c2)⟩,⟨(nT c2)⟩,⟨(nT c2)⟩,⟨(nT c2)⟩]++w8) (by kernel_rfl)
end Go.Ws

namespace Go.Ws
open Go.Proofs
set_option linter.unusedSimpArgs false
set_option linter.unusedVariables false
set_option maxRecDepth 1000000
set_option maxHeartbeats 4000000
noncomputable def X78 (x4:Int):Ctx:=⟨Try.f78,[(.row [(.int .i64 x4)])],false⟩
theorem aD1 (x1:Int) (x2:Int) (x3:Bool) (x4:Int):Tri Try.prog 78 [(.agg [(.int .u8 x1),(.int .i64 x2),(.bool x3)]),(.hp 0 0)] [(.row [(.int .i64 x4)])] (.bool (eqI x2 x4)) [(.row [(.int .i64 x4)])]:=by
 obtain⟨r,h⟩:∃r,aC8 x1 x2 x3 x4=r:=⟨_,rfl⟩
 try rw[h]
 unfold aC8 at h
 obtain rfl:=h
 exact Tri.of (x:=(X78 x4)) aF facts78 [.norm 0 ⟨[(3,[])],[],false,[],[]⟩] [] (by kernel_rfl)
end Go.Ws

namespace Go.Ws
open Go.Proofs
set_option linter.unusedSimpArgs false
set_option linter.unusedVariables false
set_option maxRecDepth 1000000
set_option maxHeartbeats 4000000
noncomputable def X92 (x1:Ty8) (x2:Int):Ctx:=⟨Try.f92,[(.arr 3 (List.map aA x1) 0 0 false),(.row [(.int .i64 x2)])],false⟩
noncomputable def L92_0:Code:=at_ Try.f92 [1,0,1,4,5]
def S92_0 (x1:Ty8) (x2:Int) (dL:Int):St:=⟨mkT 19 [(0,(.ref 3 0 0 0 x1.length .virt)),(1,(.fn 78 [(.hp 1 0)])),(7,(.int .i64 (nI x1.length))),(8,(.int .i64 dL))],[(.arr 3 (List.map aA x1) 0 0 false),(.row [(.int .i64 x2)])]⟩
def aP4 (x1:Ty8) (x2:Int):St:=⟨mkT 19 [],[(.arr 3 (List.map aA x1) 0 0 false),(.row [(.int .i64 x2)])]⟩
def O92_0 (x1:Ty8) (x2:Int) (y:(Sum (Unit) (Int))):GX:=match y with
 | .inl y=>.st (.exit 0) (aP4 x1 x2)
 | .inr y=>.fin (.int .i64 y) [(.arr 3 (List.map aA x1) 0 0 false),(.row [(.int .i64 x2)])]
theorem mP (x1:Ty8) (x2:Int) (y:(Sum (Unit) (Int))):∀(k:Nat) (dL:Int),cF k x1 x2 dL=some y→LT Try.prog (X92 x1 x2) L92_0 (S92_0 x1 x2 dL) (O92_0 x1 x2 y)
 | 0,dL,h=>by cases h
 | k+1,dL,h=>by
  rw[cF] at h
  by_cases cL0:ltI dL (nI x1.length)=true
  · rw[if_pos cL0] at h
    by_cases cL1:inI dL x1.length=true
    · rw[if_pos cL1] at h
      obtain⟨pW,eL2,h⟩:=bsm h
      let u1:List Ans:=[dt,.row [(.int .u8 pW.1),(.int .i64 pW.2.1),(.bool pW.2.2)],.call ⟨false,[]⟩ (.bool (eqI pW.2.1 x2)) [(.row [(.int .i64 x2)])]]
      let w2:List Prf:=[⟨(aD1 pW.1 pW.2.1 pW.2.2 x2)⟩,⟨(aN (e:=aA) eL2 3 0 3 (by decide))⟩,⟨cL1⟩,⟨cL0⟩]
      by_cases cL3:eqI pW.2.1 x2=true
      · rw[if_pos cL3] at h
        obtain rfl:=osi h
        show LT _ _ _ _ (.fin (.int .i64 dL) [(.arr 3 (List.map aA x1) 0 0 false),(.row [(.int .i64 x2)])])
        exact LT.done aF (hs:=⟨[],[],false,[],[]⟩) (es:=none) (u1++[dt,.norm 0 ⟨[(4,[])],[],false,[],[]⟩]) ([⟨cL3⟩]++w2) (by kernel_rfl) (fun s h=>by cases h)
      rw[if_neg cL3] at h;replace cL3:=eqf cL3
      exact LT.next aF (hs:=⟨[(0,[]),(1,[]),(7,[]),(8,[])],[],false,[],[]⟩) (es:=none) (u1++[df]) ([⟨cL3⟩]++w2) (by kernel_rfl) (mP x1 x2 y k (aL .i64 dL 1) h)
    rw[if_neg cL1] at h;replace cL1:=eqf cL1
    cases h
  rw[if_neg cL0] at h;replace cL0:=eqf cL0
  obtain rfl:=osi h
  show LT _ _ _ _ (.st (.exit 0) (aP4 x1 x2))
  exact LT.done aF (hs:=⟨[],[],false,[],[]⟩) (es:=(some ⟨[],[],false,[],[]⟩)) [df] [⟨cL0⟩] (by kernel_rfl) (fun s h=>by cases h)
theorem aCR (k:Nat) (x1:Ty8) (x2:Int) (r:Int) (h:jU k x1 x2=some r):Tri Try.prog 92 [(.ref 3 0 0 0 x1.length .virt),(.fn 78 [(.hp 1 0)])] [(.arr 3 (List.map aA x1) 0 0 false),(.row [(.int .i64 x2)])] (.int .i64 r) [(.arr 3 (List.map aA x1) 0 0 false),(.row [(.int .i64 x2)])]:=by
 unfold jU at h
 obtain⟨x3,e0,h⟩:=bsm h
 cases x3 with
 | inl x4 =>
  simp only[Sum.elim_inl] at h
  obtain rfl:=osi h
  exact Tri.of (x:=(X92 x1 x2)) aF aVF [.norm 2 ⟨[(0,[]),(1,[]),(7,[]),(8,[])],[],false,[],[]⟩,.out (.st .normal (aP4 x1 x2)),.norm 0 ⟨[(4,[])],[],false,[],[]⟩] [⟨(LT.block (mP x1 x2 _ k 0 e0))⟩] (by kernel_rfl)
 | inr x4 =>
  simp only[Sum.elim_inr] at h
  obtain rfl:=osi h
  exact Tri.of (x:=(X92 x1 x2)) aF aVF [.norm 2 ⟨[(0,[]),(1,[]),(7,[]),(8,[])],[],false,[],[]⟩,.out (.fin (.int .i64 x4) [(.arr 3 (List.map aA x1) 0 0 false),(.row [(.int .i64 x2)])])] [⟨(LT.blockFin (id:=0) (mP x1 x2 _ k 0 e0))⟩] (by kernel_rfl)
end Go.Ws

namespace Go.Ws
open Go.Proofs
set_option linter.unusedSimpArgs false
set_option linter.unusedVariables false
set_option maxRecDepth 1000000
set_option maxHeartbeats 4000000
noncomputable def X77 (x1:Ty8) (x2:Int):Ctx:=⟨Try.f77,[(.arr 3 (List.map aA x1) 0 0 false),(.row [(.int .i64 x2)])],false⟩
noncomputable def L77_0:Code:=at_ Try.f77 [1,1,1,0,1,4,5]
def S77_0 (x1:Ty8) (x2:Int) (dM:Int) (cT:Int) (dN:Ty8):St:=⟨mkT 42 [(0,(.ref 3 0 0 0 x1.length .virt)),(1,(.fn 78 [(.hp 1 0)])),(5,(.int .i64 cT)),(6,(.int .i64 dM))],[(.arr 3 (List.map aA dN) 0 0 false),(.row [(.int .i64 x2)])]⟩
def aO4 (x1:Ty8) (x2:Int) (v77002_1:Int) (v77002_2:Ty8):St:=⟨mkT 42 [(0,(.ref 3 0 0 0 x1.length .virt)),(5,(.int .i64 v77002_1))],[(.arr 3 (List.map aA v77002_2) 0 0 false),(.row [(.int .i64 x2)])]⟩
def O77_0 (x1:Ty8) (x2:Int) (y:(Int × Ty8)):GX:=.st (.exit 0) (aO4 x1 x2 y.1 y.2)
theorem oP (x1:Ty8) (x2:Int) (y:(Int × Ty8)):∀(k:Nat) (dM:Int) (cT:Int) (dN:Ty8),cJ k x1 x2 dM cT dN=some y→LT Try.prog (X77 x1 x2) L77_0 (S77_0 x1 x2 dM cT dN) (O77_0 x1 x2 y)
 | 0,dM,cT,dN,h=>by cases h
 | k+1,dM,cT,dN,h=>by
  rw[cJ] at h
  by_cases cL0:ltI dM (nI x1.length)=true
  · rw[if_pos cL0] at h
    by_cases cL1:inI dM x1.length=true
    · rw[if_pos cL1] at h
      obtain⟨jH,eL2,h⟩:=bsm h
      let u1:List Ans:=[dt,.row [(.int .u8 jH.1),(.int .i64 jH.2.1),(.bool jH.2.2)],.call ⟨false,[]⟩ (.bool (eqI jH.2.1 x2)) [(.row [(.int .i64 x2)])]]
      let w2:List Prf:=[⟨(aD1 jH.1 jH.2.1 jH.2.2 x2)⟩,⟨(aN (e:=aA) eL2 3 0 3 (by decide))⟩,⟨cL1⟩,⟨cL0⟩]
      by_cases cL3:eqI jH.2.1 x2=true
      · rw[if_pos cL3] at h
        exact LT.next aF (hs:=⟨[(0,[]),(1,[]),(5,[]),(6,[])],[],false,[],[]⟩) (es:=none) (u1++[df]) ([⟨(nF cL3)⟩]++w2) (by kernel_rfl) (oP x1 x2 y k (aL .i64 dM 1) cT dN h)
      rw[if_neg cL3] at h;replace cL3:=eqf cL3
      by_cases cL4:inI cT x1.length=true
      · rw[if_pos cL4] at h
        obtain⟨aS4,eL5,h⟩:=bsm h
        exact LT.next aF (hs:=⟨[(0,[]),(1,[]),(5,[]),(6,[])],[],false,[],[]⟩) (es:=none) (u1++[dt,.rows (List.map aA (List.set dN (tN cT) jH))]) ([⟨(xU (e:=aA) eL5 0 [(.int .u8 jH.1),(.int .i64 jH.2.1),(.bool jH.2.2)] jH rfl)⟩,⟨cL4⟩,⟨(nT cL3)⟩]++w2) (by kernel_rfl) (oP x1 x2 y k (aL .i64 dM 1) (aL .i64 cT 1) (List.set dN (tN cT) jH) h)
      rw[if_neg cL4] at h;replace cL4:=eqf cL4
      cases h
    rw[if_neg cL1] at h;replace cL1:=eqf cL1
    cases h
  rw[if_neg cL0] at h;replace cL0:=eqf cL0
  obtain rfl:=osi h
  show LT _ _ _ _ (.st (.exit 0) (aO4 x1 x2 cT dN))
  exact LT.done aF (hs:=⟨[],[],false,[],[]⟩) (es:=(some ⟨[(0,[]),(5,[])],[],false,[],[]⟩)) [df] [⟨cL0⟩] (by kernel_rfl) (fun s h=>by cases h)
theorem aDX (k:Nat) (x1:Ty8) (x2:Int) (r:Nat × Ty8) (h:lG k x1 x2=some r):Tri Try.prog 77 [(.ref 3 0 0 0 x1.length .virt),(.fn 78 [(.hp 1 0)])] [(.arr 3 (List.map aA x1) 0 0 false),(.row [(.int .i64 x2)])] (.ref 3 0 0 0 r.1 .virt) [(.arr 3 (List.map aA r.2) 0 0 false),(.row [(.int .i64 x2)])]:=by
 unfold lG at h
 obtain⟨x3,e0,h⟩:=bsm h
 let w4:List Prf:=[⟨(aCR k x1 x2 _ e0)⟩]
 by_cases c1:eqI x3 (-1)=true
 · rw[if_pos c1] at h
   obtain rfl:=osi h
   exact Tri.of (x:=(X77 x1 x2)) aF aP3 [.call ⟨false,[]⟩ (.int .i64 x3) [(.arr 3 (List.map aA x1) 0 0 false),(.row [(.int .i64 x2)])],dt,.norm 0 ⟨[(4,[])],[],false,[],[]⟩] ([⟨c1⟩]++w4) (by kernel_rfl)
 rw[if_neg c1] at h;replace c1:=eqf c1
 obtain⟨x5,e2,h⟩:=bsm h
 by_cases c4:isZ x1.length=true
 · rw[if_pos c4] at h
   cases h
 rw[if_neg c4] at h;replace c4:=eqf c4
 by_cases c5:wV x1.length x5.2.length=true
 · rw[if_pos c5] at h
   by_cases c6:leI x5.1 x1.length=true
   · rw[if_pos c6] at h
     let u5:List Ans:=[.call ⟨false,[]⟩ (.int .i64 x3) [(.arr 3 (List.map aA x1) 0 0 false),(.row [(.int .i64 x2)])],df,.norm 2 ⟨[(0,[]),(1,[]),(5,[]),(6,[])],[],false,[],[]⟩,.out (.st .normal (aO4 x1 x2 x5.1 x5.2)),df,.n x5.2.length,.n x5.2.length,.n (tN x5.1),.n (x1.length - (tN x5.1))]
     let w6:List Prf:=[⟨(rfl:x1.length - (tN x5.1)=x1.length - (tN x5.1))⟩,⟨((Nat.zero_add _):0+(tN x5.1)=tN x5.1)⟩,⟨c6⟩,⟨(rfl:x5.2.length - 0=x5.2.length)⟩,⟨(aQR ((aKL c5):x1.length≤x5.2.length))⟩,⟨(aJ aA x5.2)⟩,⟨c4⟩,⟨(LT.block (oP x1 x2 _ k (aL .i64 x3 1) x3 x1 e2))⟩,⟨c1⟩]++w4
     by_cases c7:isZ (x1.length - (tN x5.1))=true
     · rw[if_pos c7] at h
       by_cases c8:leI x5.1 x5.2.length=true
       · rw[if_pos c8] at h
         obtain rfl:=osi h
         exact Tri.of (x:=(X77 x1 x2)) aF aP3 (u5++[dt,df,.n x5.2.length,.n x5.2.length,.n 0,.n (tN x5.1),.norm 0 ⟨[(4,[])],[],false,[],[]⟩]) ([⟨(rfl:(tN x5.1) - 0=tN x5.1)⟩,⟨((Nat.zero_add _):0+0=0)⟩,⟨c8⟩,⟨(rfl:x5.2.length - 0=x5.2.length)⟩,⟨(aQR ((aKL c5):x1.length≤x5.2.length))⟩,⟨(aJ aA x5.2)⟩,⟨c4⟩,⟨c7⟩]++w6) (by kernel_rfl)
       rw[if_neg c8] at h;replace c8:=eqf c8
       cases h
     rw[if_neg c7] at h;replace c7:=eqf c7
     by_cases c8:wV (tN x5.1+(x1.length - (tN x5.1))) x5.2.length=true
     · rw[if_pos c8] at h
       by_cases c9:wV (tN x5.1) x5.2.length=true
       · rw[if_pos c9] at h
         by_cases c10:wV x1.length ((((List.take (tN x5.1) x5.2)++(List.replicate (x1.length - (tN x5.1)) (0,0,false)))++(List.drop (tN x5.1+(x1.length - (tN x5.1))) x5.2)).length)=true
         · rw[if_pos c10] at h
           by_cases c11:leI x5.1 ((((List.take (tN x5.1) x5.2)++(List.replicate (x1.length - (tN x5.1)) (0,0,false)))++(List.drop (tN x5.1+(x1.length - (tN x5.1))) x5.2)).length)=true
           · rw[if_pos c11] at h
             obtain rfl:=osi h
             exact Tri.of (x:=(X77 x1 x2)) aF aP3 (u5++[df,.rows (List.map aA (((List.take (tN x5.1) x5.2)++(List.replicate (x1.length - (tN x5.1)) (0,0,false)))++(List.drop (tN x5.1+(x1.length - (tN x5.1))) x5.2))),df,.n ((((List.take (tN x5.1) x5.2)++(List.replicate (x1.length - (tN x5.1)) (0,0,false)))++(List.drop (tN x5.1+(x1.length - (tN x5.1))) x5.2)).length),.n ((((List.take (tN x5.1) x5.2)++(List.replicate (x1.length - (tN x5.1)) (0,0,false)))++(List.drop (tN x5.1+(x1.length - (tN x5.1))) x5.2)).length),.n 0,.n (tN x5.1),.norm 0 ⟨[(4,[])],[],false,[],[]⟩]) ([⟨(rfl:(tN x5.1) - 0=tN x5.1)⟩,⟨((Nat.zero_add _):0+0=0)⟩,⟨c11⟩,⟨(rfl:((((List.take (tN x5.1) x5.2)++(List.replicate (x1.length - (tN x5.1)) (0,0,false)))++(List.drop (tN x5.1+(x1.length - (tN x5.1))) x5.2)).length) - 0=(((List.take (tN x5.1) x5.2)++(List.replicate (x1.length - (tN x5.1)) (0,0,false)))++(List.drop (tN x5.1+(x1.length - (tN x5.1))) x5.2)).length)⟩,⟨(aQR ((aKL c10):x1.length≤(((List.take (tN x5.1) x5.2)++(List.replicate (x1.length - (tN x5.1)) (0,0,false)))++(List.drop (tN x5.1+(x1.length - (tN x5.1))) x5.2)).length))⟩,⟨(aJ aA (((List.take (tN x5.1) x5.2)++(List.replicate (x1.length - (tN x5.1)) (0,0,false)))++(List.drop (tN x5.1+(x1.length - (tN x5.1))) x5.2)))⟩,⟨c4⟩,⟨(aXI aA x5.2 (tN x5.1) (x1.length - (tN x5.1)) (0,0,false))⟩,⟨(le_mapI aA (aKL c8))⟩,⟨c7⟩]++w6) (by kernel_rfl)
           rw[if_neg c11] at h;replace c11:=eqf c11
           cases h
         rw[if_neg c10] at h;replace c10:=eqf c10
         cases h
       rw[if_neg c9] at h;replace c9:=eqf c9
       cases h
     rw[if_neg c8] at h;replace c8:=eqf c8
     cases h
   rw[if_neg c6] at h;replace c6:=eqf c6
   cases h
 rw[if_neg c5] at h;replace c5:=eqf c5
 cases h
end Go.Ws

namespace Go.Ws
open Go.Proofs
set_option linter.unusedSimpArgs false
set_option linter.unusedVariables false
set_option maxRecDepth 1000000
set_option maxHeartbeats 4000000
noncomputable def X61:Ctx:=⟨Try.f61,[],true⟩
theorem xP (k:Nat) (x1:Ty8) (x2:Int) (r:Ty8) (h:rA k x1 x2=some r):Tri Try.prog 61 [(.sl 3 (List.map aA x1)),(.int .i64 x2)] [] (.sl 3 (List.map aA r)) []:=by
 unfold rA at h
 obtain⟨x3,e0,h⟩:=bsm h
 obtain⟨x4,e1,h⟩:=bsm h
 by_cases c2:wV x4.1 x4.2.length=true
 · rw[if_pos c2] at h
   obtain rfl:=osi h
   exact Tri.of (x:=X61) aF facts61 [.call ⟨true,[]⟩ (.ref 3 0 0 0 x1.length .virt) [(.arr 3 (List.map aA x1) 0 0 false)],.call ⟨false,[]⟩ (.ref 3 0 0 0 x4.1 .virt) [(.arr 3 (List.map aA x4.2) 0 0 false),(.row [(.int .i64 x2)])],.rows (List.map aA (List.take x4.1 x4.2))] [⟨(aXT aA x4.2 x4.1)⟩,⟨(bV aA (aKL c2))⟩,⟨(aDX k x1 x2 _ e1)⟩,⟨(aCY k x1 _ e0)⟩] (by kernel_rfl)
 rw[if_neg c2] at h;replace c2:=eqf c2
 cases h
end Go.Ws

namespace Go.Ws
open Go.Proofs
set_option linter.unusedSimpArgs false
set_option linter.unusedVariables false
set_option maxRecDepth 1000000
set_option maxHeartbeats 4000000
noncomputable def X59:Ctx:=⟨Try.f59,[],true⟩
def A59_0:Ans:=.norm 0 ⟨[(2,[]),(3,[(0,2)]),(4,[])],[⟨.tmp 2,[],none⟩],false,[],[]⟩
theorem aMR (k:Nat) (x1:Int) (x2:aI) (x3:Bool) (x4:Int) (r:Int × aI × Bool × Int × aI × Int) (h:vI k x1 x2 x3 x4=some r):Tri Try.prog 59 [(.agg [(.int .i64 x1),(.sl 2 (List.map aB x2)),(.bool x3),(.int .i64 x4)])] [] (.tup [(.agg [(.int .i64 r.1),(.sl 2 (List.map aB r.2.1)),(.bool r.2.2.1),(.int .i64 r.2.2.2.1)]),(.sl 2 (List.map aB r.2.2.2.2.1)),(.int .i64 r.2.2.2.2.2)]) []:=by
 unfold vI at h
 obtain⟨x5,e0,h⟩:=bsm h
 obtain⟨x6,e1,h⟩:=bsm h
 let u1:List Ans:=[.call ⟨true,[]⟩ (.agg [(.int .i64 x5.1),(.sl 2 (List.map aB x5.2.1)),(.bool x5.2.2.1),(.int .i64 x5.2.2.2)]) [],.call ⟨true,[]⟩ (.bool x6) []]
 let w2:List Prf:=[⟨(vQ k x5.1 x5.2.1 x5.2.2.1 x5.2.2.2 _ e1)⟩,⟨(sR k x1 x2 x3 x4 _ e0)⟩]
 by_cases c2:x6=true
 · rw[if_pos c2] at h
   by_cases c3:eqI x5.1 1=true
   · rw[if_pos c3] at h
     by_cases c4:x5.2.2.1=true
     · rw[if_pos c4] at h
       obtain rfl:=osi h
       exact Tri.of (x:=X59) aF aJ0 (u1++[df,df,dt,A59_0]) ([⟨c4⟩,⟨(nF c3)⟩,⟨(nF c2)⟩]++w2) (by kernel_rfl)
     rw[if_neg c4] at h;replace c4:=eqf c4
     obtain⟨x7,e5,h⟩:=bsm h
     obtain rfl:=osi h
     exact Tri.of (x:=X59) aF aJ0 (u1++[df,df,df,.call ⟨true,[]⟩ (.ref 2 0 0 0 x5.2.1.length .virt) [(.arr 2 (List.map aB x5.2.1) 0 0 false)],.rows (List.map aB x5.2.1)]) ([⟨(aV aB (l:=x5.2.1) (n:=x5.2.1.length) rfl)⟩,⟨(bV aB (Nat.le_refl x5.2.1.length):0+x5.2.1.length≤(List.map aB x5.2.1).length)⟩,⟨(mL k x5.2.1 _ e5)⟩,⟨c4⟩,⟨(nF c3)⟩,⟨(nF c2)⟩]++w2) (by kernel_rfl)
   rw[if_neg c3] at h;replace c3:=eqf c3
   obtain rfl:=osi h
   exact Tri.of (x:=X59) aF aJ0 (u1++[df,dt,A59_0]) ([⟨(nT c3)⟩,⟨(nF c2)⟩]++w2) (by kernel_rfl)
 rw[if_neg c2] at h;replace c2:=eqf c2
 obtain rfl:=osi h
 exact Tri.of (x:=X59) aF aJ0 (u1++[dt,A59_0]) ([⟨(nT c2)⟩]++w2) (by kernel_rfl)
end Go.Ws

namespace Go.Ws
open Go.Proofs
set_option linter.unusedSimpArgs false
set_option linter.unusedVariables false
set_option maxRecDepth 1000000
set_option maxHeartbeats 4000000
theorem z9 (k:Nat) (x1:aI) (r:aI) (h:oQ k x1=some r):Tri Try.prog 76 [(.sl 2 (List.map aB x1))] [] (.ref 2 0 0 0 r.length .virt) [(.arr 2 (List.map aB r) 0 0 false)]:=opp_tri h
end Go.Ws

namespace Go.Ws
open Go.Proofs
set_option linter.unusedSimpArgs false
set_option linter.unusedVariables false
set_option maxRecDepth 1000000
set_option maxHeartbeats 4000000
noncomputable def X60:Ctx:=⟨Try.f60,[],true⟩
def aHU:Ans:=.norm 0 ⟨[(4,[]),(5,[(0,2)]),(6,[])],[⟨.tmp 4,[],none⟩],false,[],[]⟩
theorem aDU (k:Nat) (x1:Int) (x2:aI) (x3:Bool) (x4:Int) (x5:Int) (r:Int × aI × Bool × Int × aI × Int) (h:qI k x1 x2 x3 x4 x5=some r):Tri Try.prog 60 [(.agg [(.int .i64 x1),(.sl 2 (List.map aB x2)),(.bool x3),(.int .i64 x4)]),(.int .i64 x5)] [] (.tup [(.agg [(.int .i64 r.1),(.sl 2 (List.map aB r.2.1)),(.bool r.2.2.1),(.int .i64 r.2.2.2.1)]),(.sl 2 (List.map aB r.2.2.2.2.1)),(.int .i64 r.2.2.2.2.2)]) []:=by
 unfold qI at h
 obtain⟨x6,e0,h⟩:=bsm h
 obtain⟨x7,e1,h⟩:=bsm h
 let u1:List Ans:=[.call ⟨true,[]⟩ (.agg [(.int .i64 x6.1),(.sl 2 (List.map aB x6.2.1)),(.bool x6.2.2.1),(.int .i64 x6.2.2.2)]) [],.call ⟨true,[]⟩ (.bool x7) []]
 let w2:List Prf:=[⟨(vQ k x6.1 x6.2.1 x6.2.2.1 x6.2.2.2 _ e1)⟩,⟨(sR k x1 x2 x3 x4 _ e0)⟩]
 by_cases c2:x7=true
 · rw[if_pos c2] at h
   let w4:List Prf:=[⟨(nF c2)⟩,⟨(nF c2)⟩,⟨(nF c2)⟩]++w2
   by_cases c3:eqI x5 1=true
   · rw[if_pos c3] at h
     let u5:List Ans:=u1++[df,df,df,df,df,df,df,df,df]
     let w6:List Prf:=[⟨rF⟩,⟨(nF c2)⟩,⟨(nF c3)⟩,⟨(nF c2)⟩,⟨(nF c3)⟩,⟨(nF c3)⟩]++w4
     by_cases c4:eqI x6.2.2.2 x5=true
     · rw[if_pos c4] at h
       obtain rfl:=osi h
       exact Tri.of (x:=X60) aF rC (u5++[dt,aHU]) ([⟨c4⟩]++w6) (by kernel_rfl)
     rw[if_neg c4] at h;replace c4:=eqf c4
     by_cases c5:eqI x6.1 3=true
     · rw[if_pos c5] at h
       obtain rfl:=osi h
       exact Tri.of (x:=X60) aF rC (u5++[df,dt,dt,dt,dt,dt,dt,aHU]) ([⟨rT⟩,⟨c5⟩,⟨c5⟩,⟨c5⟩,⟨c5⟩,⟨c5⟩,⟨c4⟩]++w6) (by kernel_rfl)
     rw[if_neg c5] at h;replace c5:=eqf c5
     let u9:List Ans:=u5++[df,df,df,df,dt,dt,dt,df,dt,df]
     let w10:List Prf:=[⟨c5⟩,⟨c3⟩,⟨c5⟩,⟨c3⟩,⟨c3⟩,⟨c3⟩,⟨c5⟩,⟨c5⟩,⟨c5⟩,⟨c4⟩]++w6
     by_cases c6:eqI x6.1 1=true
     · rw[if_pos c6] at h
       by_cases c7:eqB (eqI x5 1) x6.2.2.1=true
       · rw[if_pos c7] at h
         obtain rfl:=osi h
         exact Tri.of (x:=X60) aF rC (u9++[df,dt,aHU]) ([⟨c7⟩,⟨(nF c6)⟩]++w10) (by kernel_rfl)
       rw[if_neg c7] at h;replace c7:=eqf c7
       by_cases c8:x6.2.2.1=true
       · rw[if_pos c8] at h
         obtain⟨x8,e9,h⟩:=bsm h
         obtain rfl:=osi h
         exact Tri.of (x:=X60) aF rC (u9++[df,df,dt,.call ⟨true,[]⟩ (.ref 2 0 0 0 x8.length .virt) [(.arr 2 (List.map aB x8) 0 0 false)],.rows (List.map aB x8)]) ([⟨(aV aB (l:=x8) (n:=x8.length) rfl)⟩,⟨(bV aB (Nat.le_refl x8.length):0+x8.length≤(List.map aB x8).length)⟩,⟨(z9 k x6.2.1 _ e9)⟩,⟨c8⟩,⟨c7⟩,⟨(nF c6)⟩]++w10) (by kernel_rfl)
       rw[if_neg c8] at h;replace c8:=eqf c8
       obtain⟨x8,e9,h⟩:=bsm h
       obtain rfl:=osi h
       exact Tri.of (x:=X60) aF rC (u9++[df,df,df,.call ⟨true,[]⟩ (.ref 2 0 0 0 x6.2.1.length .virt) [(.arr 2 (List.map aB x6.2.1) 0 0 false)],.rows (List.map aB x6.2.1)]) ([⟨(aV aB (l:=x6.2.1) (n:=x6.2.1.length) rfl)⟩,⟨(bV aB (Nat.le_refl x6.2.1.length):0+x6.2.1.length≤(List.map aB x6.2.1).length)⟩,⟨(mL k x6.2.1 _ e9)⟩,⟨c8⟩,⟨c7⟩,⟨(nF c6)⟩]++w10) (by kernel_rfl)
     rw[if_neg c6] at h;replace c6:=eqf c6
     obtain rfl:=osi h
     exact Tri.of (x:=X60) aF rC (u9++[dt,aHU]) ([⟨(nT c6)⟩]++w10) (by kernel_rfl)
   rw[if_neg c3] at h;replace c3:=eqf c3
   let u15:List Ans:=u1++[df,df,df,dt,dt,df,dt,df]
   let w16:List Prf:=[⟨(nF c2)⟩,⟨(nT c3)⟩,⟨(nF c2)⟩,⟨(nT c3)⟩,⟨(nT c3)⟩]++w4
   by_cases c4:eqI x5 2=true
   · rw[if_pos c4] at h
     by_cases c5:eqI x6.2.2.2 x5=true
     · rw[if_pos c5] at h
       obtain rfl:=osi h
       exact Tri.of (x:=X60) aF rC (u15++[df,dt,aHU]) ([⟨c5⟩,⟨(nF c4)⟩]++w16) (by kernel_rfl)
     rw[if_neg c5] at h;replace c5:=eqf c5
     by_cases c6:eqI x6.1 3=true
     · rw[if_pos c6] at h
       obtain rfl:=osi h
       exact Tri.of (x:=X60) aF rC (u15++[df,df,dt,dt,dt,dt,dt,dt,aHU]) ([⟨rT⟩,⟨c6⟩,⟨c6⟩,⟨c6⟩,⟨c6⟩,⟨c6⟩,⟨c5⟩,⟨(nF c4)⟩]++w16) (by kernel_rfl)
     rw[if_neg c6] at h;replace c6:=eqf c6
     let u21:List Ans:=u15++[df,df,df,df,df,df,df,df,df,df,df,df]
     let w22:List Prf:=[⟨rF⟩,⟨c6⟩,⟨c3⟩,⟨c6⟩,⟨c3⟩,⟨c3⟩,⟨c3⟩,⟨c6⟩,⟨c6⟩,⟨c6⟩,⟨c5⟩,⟨(nF c4)⟩]++w16
     by_cases c7:eqB (eqI x5 1) x6.2.2.1=true
     · rw[if_pos c7] at h
       obtain rfl:=osi h
       exact Tri.of (x:=X60) aF rC (u21++[dt,aHU]) ([⟨c7⟩]++w22) (by kernel_rfl)
     rw[if_neg c7] at h;replace c7:=eqf c7
     by_cases c8:x6.2.2.1=true
     · rw[if_pos c8] at h
       obtain⟨x8,e9,h⟩:=bsm h
       obtain rfl:=osi h
       exact Tri.of (x:=X60) aF rC (u21++[df,dt,.call ⟨true,[]⟩ (.ref 2 0 0 0 x8.length .virt) [(.arr 2 (List.map aB x8) 0 0 false)],.rows (List.map aB x8)]) ([⟨(aV aB (l:=x8) (n:=x8.length) rfl)⟩,⟨(bV aB (Nat.le_refl x8.length):0+x8.length≤(List.map aB x8).length)⟩,⟨(z9 k x6.2.1 _ e9)⟩,⟨c8⟩,⟨c7⟩]++w22) (by kernel_rfl)
     rw[if_neg c8] at h;replace c8:=eqf c8
     obtain⟨x8,e9,h⟩:=bsm h
     obtain rfl:=osi h
     exact Tri.of (x:=X60) aF rC (u21++[df,df,.call ⟨true,[]⟩ (.ref 2 0 0 0 x6.2.1.length .virt) [(.arr 2 (List.map aB x6.2.1) 0 0 false)],.rows (List.map aB x6.2.1)]) ([⟨(aV aB (l:=x6.2.1) (n:=x6.2.1.length) rfl)⟩,⟨(bV aB (Nat.le_refl x6.2.1.length):0+x6.2.1.length≤(List.map aB x6.2.1).length)⟩,⟨(mL k x6.2.1 _ e9)⟩,⟨c8⟩,⟨c7⟩]++w22) (by kernel_rfl)
   rw[if_neg c4] at h;replace c4:=eqf c4
   obtain rfl:=osi h
   exact Tri.of (x:=X60) aF rC (u15++[dt,aHU]) ([⟨(nT c4)⟩]++w16) (by kernel_rfl)
 rw[if_neg c2] at h;replace c2:=eqf c2
 obtain rfl:=osi h
 exact Tri.of (x:=X60) aF rC (u1++[dt,dt,dt,dt,dt,dt,aHU]) ([⟨rT⟩,⟨(nT c2)⟩,⟨(nT c2)⟩,⟨(nT c2)⟩,⟨(nT c2)⟩,⟨(nT c2)⟩]++w2) (by kernel_rfl)
end Go.Ws

namespace Go.Ws
open Go.Proofs
set_option linter.unusedSimpArgs false
set_option linter.unusedVariables false
set_option maxRecDepth 1000000
set_option maxHeartbeats 4000000
noncomputable def X33_3 (x1:aI) (x2:Ty8) (x3:Ty2) (x4:Ty7):Ctx:=⟨Try.f33,[(.row [(.sl 2 (List.map aB x1)),(.sl 3 (List.map aA x2)),(.mp 1),(.ref 4 2 0 0 x4.length .virt)]),(.map (dW .i64 (fun y=>AV.agg (aK y)) x3) x3.length),(.arr 4 (List.map aC x4) 0 0 false)],false⟩
theorem aFC (x1:aI) (x2:Ty8) (x3:Ty2) (x4:Ty7):Tri Try.prog 33 [(.hp 0 0)] [(.row [(.sl 2 (List.map aB x1)),(.sl 3 (List.map aA x2)),(.mp 1),(.ref 4 2 0 0 x4.length .virt)]),(.map (dW .i64 (fun y=>AV.agg (aK y)) x3) x3.length),(.arr 4 (List.map aC x4) 0 0 false)] (.bool (!false)) [(.row [(.sl 2 (List.map aB x1)),(.sl 3 (List.map aA x2)),(.mp 1),(.ref 4 2 0 0 x4.length .virt)]),(.map (dW .i64 (fun y=>AV.agg (aK y)) x3) x3.length),(.arr 4 (List.map aC x4) 0 0 false)]:=by
 obtain⟨r,h⟩:∃r,vE x1 x2 x3 x4=r:=⟨_,rfl⟩
 try rw[h]
 unfold vE at h
 obtain rfl:=h
 exact Tri.of (x:=(X33_3 x1 x2 x3 x4)) aF facts33 [dt,dt,dt,dt,dt,dt,.norm 0 ⟨[(2,[])],[],false,[],[]⟩] [⟨(nT rfl)⟩,⟨(nT rfl)⟩,⟨(nT rfl)⟩,⟨(nT rfl)⟩,⟨(nT rfl)⟩,⟨(nT rfl)⟩] (by kernel_rfl)
end Go.Ws

namespace Go.Ws
open Go.Proofs
set_option linter.unusedSimpArgs false
set_option linter.unusedVariables false
set_option maxRecDepth 1000000
set_option maxHeartbeats 4000000
noncomputable def aLV (x9:aI) (x10:Ty8) (x11:Ty2) (x12:Ty7):Ctx:=⟨Try.f47,[(.row [(.sl 2 (List.map aB x9)),(.sl 3 (List.map aA x10)),(.mp 1),(.ref 4 2 0 0 x12.length .virt)]),(.map (dW .i64 (fun y=>AV.agg (aK y)) x11) x11.length),(.arr 4 (List.map aC x12) 0 0 false)],false⟩
noncomputable def L47_3_0:Code:=at_ Try.f47 [1,1,1,1,1,1,1,0,1,4,5]
def S47_3_0 (x2:aI) (x5:Int) (x6:Int) (x7:Int) (x8:Int) (x9:aI) (x11:Ty2) (x12:Ty7) (x13:Ty8 × Int) (dJ:Int) (cO:Int):St:=⟨mkT 92 [(5,(.hp 3 0)),(10,(.int .i64 dJ)),(75,(.sl 2 (List.map aB x2))),(76,(.int .i64 (nI x2.length))),(77,(.int .i64 cO))],[(.row [(.sl 2 (List.map aB x9)),(.sl 3 (List.map aA x13.1)),(.mp 1),(.ref 4 2 0 0 x12.length .virt)]),(.map (dW .i64 (fun y=>AV.agg (aK y)) x11) x11.length),(.arr 4 (List.map aC x12) 0 0 false),(.row [(.int .i64 x5),(.int .i64 x6),(.int .u8 x7),(.int .i64 x8)])]⟩
def aIW (x9:aI) (x11:Ty2) (x12:Ty7) (x13:Ty8 × Int) (aYB:Int):St:=⟨mkT 92 [(10,(.int .i64 aYB))],[(.row [(.sl 2 (List.map aB x9)),(.sl 3 (List.map aA x13.1)),(.mp 1),(.ref 4 2 0 0 x12.length .virt)]),(.map (dW .i64 (fun y=>AV.agg (aK y)) x11) x11.length),(.arr 4 (List.map aC x12) 0 0 false)]⟩
def O47_3_0 (x2:aI) (x5:Int) (x6:Int) (x7:Int) (x8:Int) (x9:aI) (x10:Ty8) (x11:Ty2) (x12:Ty7) (x13:Ty8 × Int) (y:(Int)):GX:=.st (.exit 0) (aIW x9 x11 x12 x13 y)
def aP2 (x13:Ty8 × Int):Ans:=.call ⟨true,[]⟩ (.tup [(.sl 3 (List.map aA x13.1)),(.int .i64 x13.2)]) []
def aEX:Ans:=.norm 0 ⟨[(6,[]),(7,[])],[],false,[],[]⟩
theorem nQ (x2:aI) (x5:Int) (x6:Int) (x7:Int) (x8:Int) (x9:aI) (x10:Ty8) (x11:Ty2) (x12:Ty7) (x13:Ty8 × Int) (y:(Int)):∀(k:Nat) (dJ:Int) (cO:Int),b9 k x2 x5 x6 x7 x8 x9 x10 x11 x12 x13 dJ cO=some y→LT Try.prog (aLV x9 x10 x11 x12) L47_3_0 (S47_3_0 x2 x5 x6 x7 x8 x9 x11 x12 x13 dJ cO) (O47_3_0 x2 x5 x6 x7 x8 x9 x10 x11 x12 x13 y)
 | 0,dJ,cO,h=>by cases h
 | k+1,dJ,cO,h=>by
  rw[b9] at h
  by_cases cL0:ltI cO (nI x2.length)=true
  · rw[if_pos cL0] at h
    by_cases cL1:inI cO x2.length=true
    · rw[if_pos cL1] at h
      obtain⟨p9,eL2,h⟩:=bsm h
      let u1:List Ans:=[dt,.n x2.length,.row [(.int .u8 p9.1),(.int .i64 p9.2)]]
      let w2:List Prf:=[⟨(aN (e:=aB) eL2 2 0 2 (by decide))⟩,⟨cL1⟩,⟨(aJ aB x2)⟩,⟨cL0⟩]
      by_cases cL3:eqI p9.1 x7=true
      · rw[if_pos cL3] at h
        exact LT.next aF (hs:=⟨[(5,[]),(10,[]),(75,[]),(76,[]),(77,[])],[⟨.tmp 5,[],none⟩],false,[],[]⟩) (es:=none) (u1++[dt]) ([⟨cL3⟩]++w2) (by kernel_rfl) (nQ x2 x5 x6 x7 x8 x9 x10 x11 x12 x13 y k (aL .i64 dJ p9.2) (aL .i64 cO 1) h)
      rw[if_neg cL3] at h;replace cL3:=eqf cL3
      exact LT.next aF (hs:=⟨[(5,[]),(10,[]),(75,[]),(76,[]),(77,[])],[⟨.tmp 5,[],none⟩],false,[],[]⟩) (es:=none) (u1++[df]) ([⟨cL3⟩]++w2) (by kernel_rfl) (nQ x2 x5 x6 x7 x8 x9 x10 x11 x12 x13 y k dJ (aL .i64 cO 1) h)
    rw[if_neg cL1] at h;replace cL1:=eqf cL1
    cases h
  rw[if_neg cL0] at h;replace cL0:=eqf cL0
  obtain rfl:=osi h
  show LT _ _ _ _ (.st (.exit 0) (aIW x9 x11 x12 x13 dJ))
  exact LT.done aF (hs:=⟨[],[],false,[],[]⟩) (es:=(some ⟨[(10,[])],[],false,[],[]⟩)) [df] [⟨cL0⟩] (by kernel_rfl) (fun s h=>by cases h)
theorem uP (k:Nat) (x1:Int) (x2:aI) (x3:Bool) (x4:Int) (x5:Int) (x6:Int) (x7:Int) (x8:Int) (x9:aI) (x10:Ty8) (x11:Ty2) (x12:Ty7) (r:Ty8 × Ty2 × Int × Int) (h:i8 k x1 x2 x3 x4 x5 x6 x7 x8 x9 x10 x11 x12=some r):Tri Try.prog 47 [(.hp 0 0),(.agg [(.int .i64 x1),(.sl 2 (List.map aB x2)),(.bool x3),(.int .i64 x4)]),(.agg [(.int .i64 x5),(.int .i64 x6),(.int .u8 x7),(.int .i64 x8)])] [(.row [(.sl 2 (List.map aB x9)),(.sl 3 (List.map aA x10)),(.mp 1),(.ref 4 2 0 0 x12.length .virt)]),(.map (dW .i64 (fun y=>AV.agg (aK y)) x11) x11.length),(.arr 4 (List.map aC x12) 0 0 false)] (.tup [(.int .i64 r.2.2.2),(.int .i64 r.2.2.1)]) [(.row [(.sl 2 (List.map aB x9)),(.sl 3 (List.map aA r.1)),(.mp 1),(.ref 4 2 0 0 x12.length .virt)]),(.map (dW .i64 (fun y=>AV.agg (aK y)) r.2.1) r.2.1.length),(.arr 4 (List.map aC x12) 0 0 false)]:=by
 unfold i8 at h
 by_cases c0:eqI x1 0=true
 · rw[if_pos c0] at h
   obtain⟨x13,e1,h⟩:=bsm h
   let w4:List Prf:=[⟨(aOL k x10 x6 x7 (eqI x5 3) _ e1)⟩,⟨(nF c0)⟩]
   by_cases c2:eqI x13.2 0=true
   · rw[if_pos c2] at h
     by_cases c3:eqI x5 3=true
     · rw[if_pos c3] at h
       obtain⟨x14,e4,h⟩:=bsm h
       let u7:List Ans:=[df,(aP2 x13),df,dt,.call ⟨true,[]⟩ (.tup [(.agg [(.int .i64 x14.1),(.sl 2 (List.map aB x14.2.1)),(.bool x14.2.2.1),(.int .i64 x14.2.2.2.1)]),(.int .i64 x14.2.2.2.2)]) []]
       let w8:List Prf:=[⟨(aQ9 k x1 x2 x3 x4 x7 x8 _ e4)⟩,⟨c3⟩,⟨(nF c2)⟩]++w4
       by_cases c5:eqI x14.2.2.2.2 0=true
       · rw[if_pos c5] at h
         by_cases c6:o8 x11 x6=true
         · rw[if_pos c6] at h
           obtain⟨x15,e7,h⟩:=bsm h
           obtain rfl:=osi h
           exact Tri.of (x:=(aLV x9 x10 x11 x12)) aF aEW (u7++[df,.opt (some (.agg [(.int .i64 x15.1),(.sl 2 (List.map aB x15.2.1)),(.bool x15.2.2.1),(.int .i64 x15.2.2.2)])),.n (mIx x11 x6),.ents (dW .i64 (fun y=>AV.agg (aK y)) x11) x11.length,.ents (dW .i64 (fun y=>AV.agg (aK y)) (bH x11 x6 (x14.1,x14.2.1,x14.2.2.1,x14.2.2.2.1))) (bH x11 x6 (x14.1,x14.2.1,x14.2.2.1,x14.2.2.2.1)).length,aEX]) ([⟨(aWM .i64 (fun y=>AV.agg (aK y)) e7 (x14.1,x14.2.1,x14.2.2.1,x14.2.2.2.1))⟩,⟨(ent_some .i64 (fun y=>AV.agg (aK y)) e7 (.agg [(.int .i64 0),(.sl 2 (List.map aB [])),(.bool false),(.int .i64 0)]))⟩,⟨(aU0 .i64 (fun y=>AV.agg (aK y)) x11 x6)⟩,⟨(kD .i64 (fun y=>AV.agg (aK y)) e7)⟩,⟨(nF c5)⟩]++w8) (by kernel_rfl)
         rw[if_neg c6] at h;replace c6:=eqf c6
         obtain rfl:=osi h
         exact Tri.of (x:=(aLV x9 x10 x11 x12)) aF aEW (u7++[df,.opt none,.n (mIx x11 x6),.ents (dW .i64 (fun y=>AV.agg (aK y)) (bH x11 x6 (0,[],false,0))) (bH x11 x6 (0,[],false,0)).length,.ents (dW .i64 (fun y=>AV.agg (aK y)) (bH x11 x6 (x14.1,x14.2.1,x14.2.2.1,x14.2.2.2.1))) (bH x11 x6 (x14.1,x14.2.1,x14.2.2.1,x14.2.2.2.1)).length,aEX]) ([⟨(sb_none .i64 (fun y=>AV.agg (aK y)) (l:=x11) (q:=x6) (0,[],false,0) (x14.1,x14.2.1,x14.2.2.1,x14.2.2.2.1))⟩,⟨(ent_none .i64 (fun y=>AV.agg (aK y)) c6 (0,[],false,0))⟩,⟨(aU0 .i64 (fun y=>AV.agg (aK y)) x11 x6)⟩,⟨(oJ .i64 (fun y=>AV.agg (aK y)) c6)⟩,⟨(nF c5)⟩]++w8) (by kernel_rfl)
       rw[if_neg c5] at h;replace c5:=eqf c5
       obtain rfl:=osi h
       exact Tri.of (x:=(aLV x9 x10 x11 x12)) aF aEW (u7++[dt,aEX]) ([⟨(nT c5)⟩]++w8) (by kernel_rfl)
     rw[if_neg c3] at h;replace c3:=eqf c3
     obtain⟨x14,e4,h⟩:=bsm h
     obtain⟨x16,e5,h⟩:=bsm h
     obtain rfl:=osi h
     exact Tri.of (x:=(aLV x9 x10 x11 x12)) aF aEW [df,(aP2 x13),df,df,.call ⟨true,[]⟩ (.int .i64 x14) [],.n x2.length,.norm 2 ⟨[(5,[]),(10,[]),(75,[]),(76,[]),(77,[])],[⟨.tmp 5,[],none⟩],false,[],[]⟩,.out (.st .normal (aIW x9 x11 x12 x13 x16)),aEX] ([⟨(LT.block (nQ x2 x5 x6 x7 x8 x9 x10 x11 x12 x13 _ k x14 0 e5))⟩,⟨(aJ aB x2)⟩,⟨(aMT k x9 x7 _ e4)⟩,⟨c3⟩,⟨(nF c2)⟩]++w4) (by kernel_rfl)
   rw[if_neg c2] at h;replace c2:=eqf c2
   obtain rfl:=osi h
   exact Tri.of (x:=(aLV x9 x10 x11 x12)) aF aEW [df,(aP2 x13),dt,aEX] ([⟨(nT c2)⟩]++w4) (by kernel_rfl)
 rw[if_neg c0] at h;replace c0:=eqf c0
 obtain rfl:=osi h
 exact Tri.of (x:=(aLV x9 x10 x11 x12)) aF aEW [dt,aEX] [⟨(nT c0)⟩] (by kernel_rfl)
end Go.Ws

namespace Go.Ws
open Go.Proofs
set_option linter.unusedSimpArgs false
set_option linter.unusedVariables false
set_option maxRecDepth 1000000
set_option maxHeartbeats 4000000
noncomputable def aFK (x9:aI) (x10:Ty8) (x11:Ty2) (x12:Ty7):Ctx:=⟨Try.f48,[(.row [(.sl 2 (List.map aB x9)),(.sl 3 (List.map aA x10)),(.mp 1),(.ref 4 2 0 0 x12.length .virt)]),(.map (dW .i64 (fun y=>AV.agg (aK y)) x11) x11.length),(.arr 4 (List.map aC x12) 0 0 false)],false⟩
def aV6 (x13:Int × aI × Bool × Int × Int):Ans:=.call ⟨true,[]⟩ (.tup [(.agg [(.int .i64 x13.1),(.sl 2 (List.map aB x13.2.1)),(.bool x13.2.2.1),(.int .i64 x13.2.2.2.1)]),(.int .i64 x13.2.2.2.2)]) []
def aKC (x15:Ty8):Ans:=.call ⟨true,[]⟩ (.sl 3 (List.map aA x15)) []
def aKJ (x13:Int × aI × Bool × Int × aI × Int):Ans:=.call ⟨true,[]⟩ (.tup [(.agg [(.int .i64 x13.1),(.sl 2 (List.map aB x13.2.1)),(.bool x13.2.2.1),(.int .i64 x13.2.2.2.1)]),(.sl 2 (List.map aB x13.2.2.2.2.1)),(.int .i64 x13.2.2.2.2.2)]) []
def aP6 (x6:Int) (x11:Ty2) (x13:Int × aI × Bool × Int × aI × Int):Ans:=.ents (dW .i64 (fun y=>AV.agg (aK y)) (bH x11 x6 (x13.1,x13.2.1,x13.2.2.1,x13.2.2.2.1))) (bH x11 x6 (x13.1,x13.2.1,x13.2.2.1,x13.2.2.2.1)).length
def aOQ (x14:aI × Int):Ans:=.call ⟨true,[]⟩ (.tup [(.sl 2 (List.map aB x14.1)),(.int .i64 x14.2)]) []
theorem aFS (k:Nat) (x1:Int) (x2:aI) (x3:Bool) (x4:Int) (x5:Int) (x6:Int) (x7:Int) (x8:Int) (x9:aI) (x10:Ty8) (x11:Ty2) (x12:Ty7) (r:aI × Ty8 × Ty2 × Int) (h:mQ k x1 x2 x3 x4 x5 x6 x7 x8 x9 x10 x11 x12=some r):Tri Try.prog 48 [(.hp 0 0),(.agg [(.int .i64 x1),(.sl 2 (List.map aB x2)),(.bool x3),(.int .i64 x4)]),(.agg [(.int .i64 x5),(.int .i64 x6),(.int .u8 x7),(.int .i64 x8)])] [(.row [(.sl 2 (List.map aB x9)),(.sl 3 (List.map aA x10)),(.mp 1),(.ref 4 2 0 0 x12.length .virt)]),(.map (dW .i64 (fun y=>AV.agg (aK y)) x11) x11.length),(.arr 4 (List.map aC x12) 0 0 false)] (.int .i64 r.2.2.2) [(.row [(.sl 2 (List.map aB r.1)),(.sl 3 (List.map aA r.2.1)),(.mp 1),(.ref 4 2 0 0 x12.length .virt)]),(.map (dW .i64 (fun y=>AV.agg (aK y)) r.2.2.1) r.2.2.1.length),(.arr 4 (List.map aC x12) 0 0 false)]:=by
 unfold mQ at h
 by_cases c0:eqI x5 4=true
 · rw[if_pos c0] at h
   obtain⟨x13,e1,h⟩:=bsm h
   let w2:List Prf:=[⟨(aQA k x1 x2 x3 x4 (!eqI x8 0) _ e1)⟩,⟨c0⟩]
   by_cases c2:eqI x13.2.2.2.2 0=true
   · rw[if_pos c2] at h
     obtain⟨x14,e3,h⟩:=bsm h
     let u3:List Ans:=[dt,(aV6 x13),df,.ents (dW .i64 (fun y=>AV.agg (aK y)) (bH x11 x6 (x13.1,x13.2.1,x13.2.2.1,x13.2.2.2.1))) (bH x11 x6 (x13.1,x13.2.1,x13.2.2.1,x13.2.2.2.1)).length,.call ⟨true,[[],[(0,2)]]⟩ (.tup [(.sl 2 (List.map aB x14.1)),(.int .i64 x14.2)]) [],df,df,df,df]
     let w4:List Prf:=[⟨(nF c0)⟩,⟨(nF c0)⟩,⟨(nF c0)⟩,⟨(nF c0)⟩,⟨(rX k x9 [] _ e3)⟩,⟨(pC .i64 (fun y=>AV.agg (aK y)) x11 x6 (x13.1,x13.2.1,x13.2.2.1,x13.2.2.2.1))⟩,⟨(nF c2)⟩]++w2
     by_cases c4:eqI x13.1 2=true
     · rw[if_pos c4] at h
       obtain⟨x15,e5,h⟩:=bsm h
       obtain rfl:=osi h
       exact Tri.of (x:=(aFK x9 x10 x11 x12)) aF vX (u3++[dt,(aKC x15),.norm 0 ⟨[(6,[])],[],false,[],[]⟩]) ([⟨(xP k x10 x6 _ e5)⟩,⟨c4⟩]++w4) (by kernel_rfl)
     rw[if_neg c4] at h;replace c4:=eqf c4
     obtain rfl:=osi h
     exact Tri.of (x:=(aFK x9 x10 x11 x12)) aF vX (u3++[df,.norm 0 ⟨[(6,[])],[],false,[],[]⟩]) ([⟨c4⟩]++w4) (by kernel_rfl)
   rw[if_neg c2] at h;replace c2:=eqf c2
   obtain rfl:=osi h
   exact Tri.of (x:=(aFK x9 x10 x11 x12)) aF vX [dt,(aV6 x13),dt,.norm 0 ⟨[(6,[])],[],false,[],[]⟩] ([⟨(nT c2)⟩]++w2) (by kernel_rfl)
 rw[if_neg c0] at h;replace c0:=eqf c0
 by_cases c1:eqI x5 5=true
 · rw[if_pos c1] at h
   obtain⟨x13,e2,h⟩:=bsm h
   let w8:List Prf:=[⟨(aMR k x1 x2 x3 x4 _ e2)⟩,⟨c1⟩,⟨c0⟩]
   by_cases c3:eqI x13.2.2.2.2.2 0=true
   · rw[if_pos c3] at h
     obtain⟨x14,e4,h⟩:=bsm h
     obtain⟨x15,e5,h⟩:=bsm h
     obtain rfl:=osi h
     exact Tri.of (x:=(aFK x9 x10 x11 x12)) aF vX [df,dt,(aKJ x13),df,(aP6 x6 x11 x13),(aOQ x14),dt,dt,dt,dt,dt,(aKC x15),.norm 0 ⟨[(6,[])],[],false,[],[]⟩] ([⟨(xP k x10 x6 _ e5)⟩,⟨rT⟩,⟨(nT c0)⟩,⟨(nT c0)⟩,⟨(nT c0)⟩,⟨(nT c0)⟩,⟨(rX k x9 x13.2.2.2.2.1 _ e4)⟩,⟨(pC .i64 (fun y=>AV.agg (aK y)) x11 x6 (x13.1,x13.2.1,x13.2.2.1,x13.2.2.2.1))⟩,⟨(nF c3)⟩]++w8) (by kernel_rfl)
   rw[if_neg c3] at h;replace c3:=eqf c3
   obtain rfl:=osi h
   exact Tri.of (x:=(aFK x9 x10 x11 x12)) aF vX [df,dt,(aKJ x13),dt,.norm 0 ⟨[(6,[])],[],false,[],[]⟩] ([⟨(nT c3)⟩]++w8) (by kernel_rfl)
 rw[if_neg c1] at h;replace c1:=eqf c1
 by_cases c2:eqI x8 1=true
 · rw[if_pos c2] at h
   obtain⟨x13,e3,h⟩:=bsm h
   let u11:List Ans:=[df,df,dt,dt,dt,dt,dt,(aKJ x13)]
   let w12:List Prf:=[⟨(aDU k x1 x2 x3 x4 x8 _ e3)⟩,⟨rT⟩,⟨c2⟩,⟨c2⟩,⟨c2⟩,⟨c2⟩,⟨c1⟩,⟨c0⟩]
   by_cases c4:eqI x13.2.2.2.2.2 0=true
   · rw[if_pos c4] at h
     obtain⟨x14,e5,h⟩:=bsm h
     obtain⟨x15,e6,h⟩:=bsm h
     obtain rfl:=osi h
     exact Tri.of (x:=(aFK x9 x10 x11 x12)) aF vX (u11++[df,(aP6 x6 x11 x13),(aOQ x14),dt,dt,dt,dt,dt,(aKC x15),.norm 0 ⟨[(6,[])],[],false,[],[]⟩]) ([⟨(xP k x10 x6 _ e6)⟩,⟨rT⟩,⟨(nT c0)⟩,⟨(nT c0)⟩,⟨(nT c0)⟩,⟨(nT c0)⟩,⟨(rX k x9 x13.2.2.2.2.1 _ e5)⟩,⟨(pC .i64 (fun y=>AV.agg (aK y)) x11 x6 (x13.1,x13.2.1,x13.2.2.1,x13.2.2.2.1))⟩,⟨(nF c4)⟩]++w12) (by kernel_rfl)
   rw[if_neg c4] at h;replace c4:=eqf c4
   obtain rfl:=osi h
   exact Tri.of (x:=(aFK x9 x10 x11 x12)) aF vX (u11++[dt,.norm 0 ⟨[(6,[])],[],false,[],[]⟩]) ([⟨(nT c4)⟩]++w12) (by kernel_rfl)
 rw[if_neg c2] at h;replace c2:=eqf c2
 let w14:List Prf:=[⟨c2⟩,⟨c2⟩,⟨c2⟩,⟨c2⟩,⟨c1⟩,⟨c0⟩]
 by_cases c3:eqI x8 2=true
 · rw[if_pos c3] at h
   obtain⟨x13,e4,h⟩:=bsm h
   let u15:List Ans:=[df,df,df,df,df,df,dt,(aKJ x13)]
   let w16:List Prf:=[⟨(aDU k x1 x2 x3 x4 x8 _ e4)⟩,⟨c3⟩]++w14
   by_cases c5:eqI x13.2.2.2.2.2 0=true
   · rw[if_pos c5] at h
     obtain⟨x14,e6,h⟩:=bsm h
     obtain⟨x15,e7,h⟩:=bsm h
     obtain rfl:=osi h
     exact Tri.of (x:=(aFK x9 x10 x11 x12)) aF vX (u15++[df,(aP6 x6 x11 x13),(aOQ x14),dt,dt,dt,dt,dt,(aKC x15),.norm 0 ⟨[(6,[])],[],false,[],[]⟩]) ([⟨(xP k x10 x6 _ e7)⟩,⟨rT⟩,⟨(nT c0)⟩,⟨(nT c0)⟩,⟨(nT c0)⟩,⟨(nT c0)⟩,⟨(rX k x9 x13.2.2.2.2.1 _ e6)⟩,⟨(pC .i64 (fun y=>AV.agg (aK y)) x11 x6 (x13.1,x13.2.1,x13.2.2.1,x13.2.2.2.1))⟩,⟨(nF c5)⟩]++w16) (by kernel_rfl)
   rw[if_neg c5] at h;replace c5:=eqf c5
   obtain rfl:=osi h
   exact Tri.of (x:=(aFK x9 x10 x11 x12)) aF vX (u15++[dt,.norm 0 ⟨[(6,[])],[],false,[],[]⟩]) ([⟨(nT c5)⟩]++w16) (by kernel_rfl)
 rw[if_neg c3] at h;replace c3:=eqf c3
 obtain rfl:=osi h
 exact Tri.of (x:=(aFK x9 x10 x11 x12)) aF vX [df,df,df,df,df,df,df,dt,.norm 0 ⟨[(6,[])],[],false,[],[]⟩] ([⟨(nT (rfl:eqI 2 0=false))⟩,⟨c3⟩]++w14) (by kernel_rfl)
end Go.Ws

namespace Go.Ws
open Go.Proofs
set_option linter.unusedSimpArgs false
set_option linter.unusedVariables false
set_option maxRecDepth 1000000
set_option maxHeartbeats 4000000
noncomputable def X34_3 (x9:aI) (x10:Ty8) (x11:Ty2) (x12:Ty7):Ctx:=⟨Try.f34,[(.row [(.sl 2 (List.map aB x9)),(.sl 3 (List.map aA x10)),(.mp 1),(.ref 4 2 0 0 x12.length .virt)]),(.map (dW .i64 (fun y=>AV.agg (aK y)) x11) x11.length),(.arr 4 (List.map aC x12) 0 0 false)],false⟩
def aJ9:Ans:=.norm 0 ⟨[(6,[]),(7,[])],[],false,[],[]⟩
def aVS (x9:aI) (x12:Ty7) (x13:Ty8 × Ty2 × Int × Int):Ans:=.call ⟨true,[]⟩ (.tup [(.int .i64 x13.2.2.2),(.int .i64 x13.2.2.1)]) [(.row [(.sl 2 (List.map aB x9)),(.sl 3 (List.map aA x13.1)),(.mp 1),(.ref 4 2 0 0 x12.length .virt)]),(.map (dW .i64 (fun y=>AV.agg (aK y)) x13.2.1) x13.2.1.length),(.arr 4 (List.map aC x12) 0 0 false)]
theorem xF (k:Nat) (x1:Int) (x2:aI) (x3:Bool) (x4:Int) (x5:Int) (x6:Int) (x7:Int) (x8:Int) (x9:aI) (x10:Ty8) (x11:Ty2) (x12:Ty7) (r:Int × Int × Ty8 × Ty2 × aI) (h:kF k x1 x2 x3 x4 x5 x6 x7 x8 x9 x10 x11 x12=some r):Tri Try.prog 34 [(.hp 0 0),(.agg [(.int .i64 x1),(.sl 2 (List.map aB x2)),(.bool x3),(.int .i64 x4)]),(.agg [(.int .i64 x5),(.int .i64 x6),(.int .u8 x7),(.int .i64 x8)])] [(.row [(.sl 2 (List.map aB x9)),(.sl 3 (List.map aA x10)),(.mp 1),(.ref 4 2 0 0 x12.length .virt)]),(.map (dW .i64 (fun y=>AV.agg (aK y)) x11) x11.length),(.arr 4 (List.map aC x12) 0 0 false)] (.tup [(.int .i64 r.1),(.int .i64 r.2.1)]) [(.row [(.sl 2 (List.map aB r.2.2.2.2)),(.sl 3 (List.map aA r.2.2.1)),(.mp 1),(.ref 4 2 0 0 x12.length .virt)]),(.map (dW .i64 (fun y=>AV.agg (aK y)) r.2.2.2.1) r.2.2.2.1.length),(.arr 4 (List.map aC x12) 0 0 false)]:=by
 unfold kF at h
 by_cases c0:eqI x5 1=true
 · rw[if_pos c0] at h
   obtain rfl:=osi h
   exact Tri.of (x:=(X34_3 x9 x10 x11 x12)) aF aKB [dt,.ents (dW .i64 (fun y=>AV.agg (aK y)) (bH x11 x6 (x1,x2,x3,x4))) (bH x11 x6 (x1,x2,x3,x4)).length,aJ9] [⟨(pC .i64 (fun y=>AV.agg (aK y)) x11 x6 (x1,x2,x3,x4))⟩,⟨c0⟩] (by kernel_rfl)
 rw[if_neg c0] at h;replace c0:=eqf c0
 by_cases c1:eqI x5 2=true
 · rw[if_pos c1] at h
   obtain⟨x13,e2,h⟩:=bsm h
   obtain rfl:=osi h
   exact Tri.of (x:=(X34_3 x9 x10 x11 x12)) aF aKB [df,dt,dt,(aVS x9 x12 x13),aJ9] [⟨(uP k x1 x2 x3 x4 x5 x6 x7 x8 x9 x10 x11 x12 _ e2)⟩,⟨c1⟩,⟨c1⟩,⟨c0⟩] (by kernel_rfl)
 rw[if_neg c1] at h;replace c1:=eqf c1
 by_cases c2:eqI x5 3=true
 · rw[if_pos c2] at h
   obtain⟨x13,e3,h⟩:=bsm h
   obtain rfl:=osi h
   exact Tri.of (x:=(X34_3 x9 x10 x11 x12)) aF aKB [df,df,dt,(aVS x9 x12 x13),aJ9] [⟨(uP k x1 x2 x3 x4 x5 x6 x7 x8 x9 x10 x11 x12 _ e3)⟩,⟨c2⟩,⟨c1⟩,⟨c0⟩] (by kernel_rfl)
 rw[if_neg c2] at h;replace c2:=eqf c2
 obtain⟨x13,e3,h⟩:=bsm h
 obtain rfl:=osi h
 exact Tri.of (x:=(X34_3 x9 x10 x11 x12)) aF aKB [df,df,df,.call ⟨true,[]⟩ (.int .i64 x13.2.2.2) [(.row [(.sl 2 (List.map aB x13.1)),(.sl 3 (List.map aA x13.2.1)),(.mp 1),(.ref 4 2 0 0 x12.length .virt)]),(.map (dW .i64 (fun y=>AV.agg (aK y)) x13.2.2.1) x13.2.2.1.length),(.arr 4 (List.map aC x12) 0 0 false)],aJ9] [⟨(aFS k x1 x2 x3 x4 x5 x6 x7 x8 x9 x10 x11 x12 _ e3)⟩,⟨c2⟩,⟨c1⟩,⟨c0⟩] (by kernel_rfl)
end Go.Ws

namespace Go.Ws
open Go.Proofs
set_option linter.unusedSimpArgs false
set_option linter.unusedVariables false
set_option maxRecDepth 1000000
set_option maxHeartbeats 4000000
noncomputable def aFD (x5:aI) (x6:Ty8) (x7:Ty2) (x8:Ty7):Ctx:=⟨Try.f21,[(.row [(.sl 2 (List.map aB x5)),(.sl 3 (List.map aA x6)),(.mp 1),(.ref 4 2 0 0 x8.length .virt)]),(.map (dW .i64 (fun y=>AV.agg (aK y)) x7) x7.length),(.arr 4 (List.map aC x8) 0 0 false)],false⟩
def aVO (x5:aI) (x6:Ty8) (x7:Ty2) (x8:Ty7):Ans:=.call ⟨true,[]⟩ (.bool (!false)) [(.row [(.sl 2 (List.map aB x5)),(.sl 3 (List.map aA x6)),(.mp 1),(.ref 4 2 0 0 x8.length .virt)]),(.map (dW .i64 (fun y=>AV.agg (aK y)) x7) x7.length),(.arr 4 (List.map aC x8) 0 0 false)]
def vN:Ans:=.norm 0 ⟨[(4,[]),(5,[])],[],false,[],[none,none,some 1]⟩
theorem aG6 (k:Nat) (x1:Int) (x2:Int) (x3:Int) (x4:Int) (x5:aI) (x6:Ty8) (x7:Ty2) (x8:Ty7) (r:Int × Int × aI × Ty8 × Ty2 × Ty7) (h:oF k x1 x2 x3 x4 x5 x6 x7 x8=some r):Tri Try.prog 21 [(.hp 0 0),(.agg [(.int .i64 x1),(.int .i64 x2),(.int .u8 x3),(.int .i64 x4)])] [(.row [(.sl 2 (List.map aB x5)),(.sl 3 (List.map aA x6)),(.mp 1),(.ref 4 2 0 0 x8.length .virt)]),(.map (dW .i64 (fun y=>AV.agg (aK y)) x7) x7.length),(.arr 4 (List.map aC x8) 0 0 false)] (.tup [(.int .i64 r.2.1),(.int .i64 r.1)]) [(.row [(.sl 2 (List.map aB r.2.2.1)),(.sl 3 (List.map aA r.2.2.2.1)),(.mp 1),(.ref 4 2 1 0 r.2.2.2.2.2.length .virt)]),(.map (dW .i64 (fun y=>AV.agg (aK y)) r.2.2.2.2.1) r.2.2.2.2.1.length),(.arr 4 (List.map aC r.2.2.2.2.2) 1 1 false)]:=by
 unfold oF at h
 let w2:List Prf:=[⟨(nF (nT rfl))⟩,⟨(aFC x5 x6 x7 x8)⟩]
 by_cases c0:ltI x1 1=true
 · rw[if_pos c0] at h
   obtain rfl:=osi h
   exact Tri.of (x:=(aFD x5 x6 x7 x8)) aF vO [(aVO x5 x6 x7 x8),df,dt,dt,dt,dt,dt,dt,dt,dt,dt,dt,dt,dt,dt,vN] ([⟨rT⟩,⟨rT⟩,⟨rT⟩,⟨rT⟩,⟨rT⟩,⟨rT⟩,⟨rT⟩,⟨rT⟩,⟨rT⟩,⟨c0⟩,⟨c0⟩,⟨c0⟩,⟨c0⟩]++w2) (by kernel_rfl)
 rw[if_neg c0] at h;replace c0:=eqf c0
 let u3:List Ans:=[(aVO x5 x6 x7 x8),df,df,df,df,df]
 by_cases c1:ltI 6 x1=true
 · rw[if_pos c1] at h
   obtain rfl:=osi h
   exact Tri.of (x:=(aFD x5 x6 x7 x8)) aF vO (u3++[dt,dt,dt,dt,dt,dt,dt,dt,dt,vN]) ([⟨rT⟩,⟨rT⟩,⟨rT⟩,⟨rT⟩,⟨rT⟩,⟨c1⟩,⟨c1⟩,⟨c1⟩,⟨c1⟩,⟨c0⟩,⟨c0⟩,⟨c0⟩,⟨c0⟩]++w2) (by kernel_rfl)
 rw[if_neg c1] at h;replace c1:=eqf c1
 let w6:List Prf:=[⟨c1⟩,⟨c1⟩,⟨c1⟩,⟨c1⟩,⟨c0⟩,⟨c0⟩,⟨c0⟩,⟨c0⟩]++w2
 by_cases c2:ltI x2 0=true
 · rw[if_pos c2] at h
   obtain rfl:=osi h
   exact Tri.of (x:=(aFD x5 x6 x7 x8)) aF vO (u3++[df,df,df,df,dt,dt,dt,dt,dt,vN]) ([⟨rT⟩,⟨c2⟩,⟨c2⟩,⟨c2⟩,⟨c2⟩]++w6) (by kernel_rfl)
 rw[if_neg c2] at h;replace c2:=eqf c2
 let u7:List Ans:=u3++[df,df,df,df,df,df,df,df]
 by_cases c3:ltI x2 1000=true
 · rw[if_pos c3] at h
   let w10:List Prf:=[⟨(nF c3)⟩,⟨c2⟩,⟨c2⟩,⟨c2⟩,⟨c2⟩]++w6
   by_cases c4:o8 x7 x2=true
   · rw[if_pos c4] at h
     obtain⟨x9,e5,h⟩:=bsm h
     let w12:List Prf:=[⟨(kD .i64 (fun y=>AV.agg (aK y)) e5)⟩]++w10
     by_cases c6:eqB true (eqI x1 1)=true
     · rw[if_pos c6] at h
       obtain rfl:=osi h
       exact Tri.of (x:=(aFD x5 x6 x7 x8)) aF vO (u7++[df,.opt (some (.agg [(.int .i64 x9.1),(.sl 2 (List.map aB x9.2.1)),(.bool x9.2.2.1),(.int .i64 x9.2.2.2)])),dt,dt,vN]) ([⟨rT⟩,⟨c6⟩]++w12) (by kernel_rfl)
     rw[if_neg c6] at h;replace c6:=eqf c6
     obtain⟨x10,e7,h⟩:=bsm h
     let u13:List Ans:=u7++[df,.opt (some (.agg [(.int .i64 x9.1),(.sl 2 (List.map aB x9.2.1)),(.bool x9.2.2.1),(.int .i64 x9.2.2.2)])),df,.call ⟨true,[]⟩ (.tup [(.int .i64 x10.1),(.int .i64 x10.2.1)]) [(.row [(.sl 2 (List.map aB x10.2.2.2.2)),(.sl 3 (List.map aA x10.2.2.1)),(.mp 1),(.ref 4 2 0 0 x8.length .virt)]),(.map (dW .i64 (fun y=>AV.agg (aK y)) x10.2.2.2.1) x10.2.2.2.1.length),(.arr 4 (List.map aC x8) 0 0 false)]]
     let w14:List Prf:=[⟨(xF k x9.1 x9.2.1 x9.2.2.1 x9.2.2.2 x1 x2 x3 x4 x5 x6 x7 x8 _ e7)⟩,⟨c6⟩]++w12
     by_cases c8:eqI x10.2.1 0=true
     · rw[if_pos c8] at h
       by_cases c9:bC (((x8++[(x1,x2,x3,x4)]).length)*32)=true
       · rw[if_pos c9] at h
         obtain rfl:=osi h
         exact Tri.of (x:=(aFD x5 x6 x7 x8)) aF vO (u13++[df,.rows (List.map aC [(x1,x2,x3,x4)]),.n ((x8++[(x1,x2,x3,x4)]).length),.n x8.length,dt,.rows (List.map aC (x8++[(x1,x2,x3,x4)])),vN]) ([⟨(hU aC x8 [(x1,x2,x3,x4)])⟩,⟨(fO x8.length)⟩,⟨(aJ aC x8)⟩,⟨c9⟩,⟨(by simp only[wl,List.length_map,List.map_nil,List.map_cons]<;>omega:x8.length+(List.map aC [(x1,x2,x3,x4)]).length=(x8++[(x1,x2,x3,x4)]).length)⟩,⟨(aV aC (l:=[(x1,x2,x3,x4)]) (n:=1) rfl)⟩,⟨(bV aC (Nat.le_refl 1):0+1≤(List.map aC [(x1,x2,x3,x4)]).length)⟩,⟨(nF c8)⟩]++w14) (by kernel_rfl)
       rw[if_neg c9] at h;replace c9:=eqf c9
       cases h
     rw[if_neg c8] at h;replace c8:=eqf c8
     obtain rfl:=osi h
     exact Tri.of (x:=(aFD x5 x6 x7 x8)) aF vO (u13++[dt,vN]) ([⟨(nT c8)⟩]++w14) (by kernel_rfl)
   rw[if_neg c4] at h;replace c4:=eqf c4
   let w16:List Prf:=[⟨(oJ .i64 (fun y=>AV.agg (aK y)) c4)⟩]++w10
   by_cases c5:eqB false (eqI x1 1)=true
   · rw[if_pos c5] at h
     obtain rfl:=osi h
     exact Tri.of (x:=(aFD x5 x6 x7 x8)) aF vO (u7++[df,.opt none,dt,df,vN]) ([⟨rF⟩,⟨c5⟩]++w16) (by kernel_rfl)
   rw[if_neg c5] at h;replace c5:=eqf c5
   obtain⟨x9,e6,h⟩:=bsm h
   let u17:List Ans:=u7++[df,.opt none,df,.call ⟨true,[]⟩ (.tup [(.int .i64 x9.1),(.int .i64 x9.2.1)]) [(.row [(.sl 2 (List.map aB x9.2.2.2.2)),(.sl 3 (List.map aA x9.2.2.1)),(.mp 1),(.ref 4 2 0 0 x8.length .virt)]),(.map (dW .i64 (fun y=>AV.agg (aK y)) x9.2.2.2.1) x9.2.2.2.1.length),(.arr 4 (List.map aC x8) 0 0 false)]]
   let w18:List Prf:=[⟨(xF k 0 [] false 0 x1 x2 x3 x4 x5 x6 x7 x8 _ e6)⟩,⟨c5⟩]++w16
   by_cases c7:eqI x9.2.1 0=true
   · rw[if_pos c7] at h
     by_cases c8:bC (((x8++[(x1,x2,x3,x4)]).length)*32)=true
     · rw[if_pos c8] at h
       obtain rfl:=osi h
       exact Tri.of (x:=(aFD x5 x6 x7 x8)) aF vO (u17++[df,.rows (List.map aC [(x1,x2,x3,x4)]),.n ((x8++[(x1,x2,x3,x4)]).length),.n x8.length,dt,.rows (List.map aC (x8++[(x1,x2,x3,x4)])),vN]) ([⟨(hU aC x8 [(x1,x2,x3,x4)])⟩,⟨(fO x8.length)⟩,⟨(aJ aC x8)⟩,⟨c8⟩,⟨(by simp only[wl,List.length_map,List.map_nil,List.map_cons]<;>omega:x8.length+(List.map aC [(x1,x2,x3,x4)]).length=(x8++[(x1,x2,x3,x4)]).length)⟩,⟨(aV aC (l:=[(x1,x2,x3,x4)]) (n:=1) rfl)⟩,⟨(bV aC (Nat.le_refl 1):0+1≤(List.map aC [(x1,x2,x3,x4)]).length)⟩,⟨(nF c7)⟩]++w18) (by kernel_rfl)
     rw[if_neg c8] at h;replace c8:=eqf c8
     cases h
   rw[if_neg c7] at h;replace c7:=eqf c7
   obtain rfl:=osi h
   exact Tri.of (x:=(aFD x5 x6 x7 x8)) aF vO (u17++[dt,vN]) ([⟨(nT c7)⟩]++w18) (by kernel_rfl)
 rw[if_neg c3] at h;replace c3:=eqf c3
 obtain rfl:=osi h
 exact Tri.of (x:=(aFD x5 x6 x7 x8)) aF vO (u7++[dt,vN]) ([⟨(nT c3)⟩,⟨c2⟩,⟨c2⟩,⟨c2⟩,⟨c2⟩]++w6) (by kernel_rfl)
end Go.Ws

namespace Go.Ws
open Go.Proofs
set_option linter.unusedSimpArgs false
set_option linter.unusedVariables false
set_option maxRecDepth 1000000
set_option maxHeartbeats 4000000
noncomputable def X27:Ctx:=⟨Try.f27,[],false⟩
noncomputable def L27_0:Code:=at_ Try.f27 [1,1,0,1,4,5]
def S27_0 (x1:Ty7) (eH:Int) (f6:aI) (f7:Ty8) (fP:Ty2) (fQ:Ty7):St:=⟨mkT 26 [(4,(.hp 0 0)),(10,(.sl 4 (List.map aC x1))),(11,(.int .i64 (nI x1.length))),(12,(.int .i64 eH))],[(.row [(.sl 2 (List.map aB f6)),(.sl 3 (List.map aA f7)),(.mp 1),(.ref 4 2 0 0 fQ.length .virt)]),(.map (dW .i64 (fun y=>AV.agg (aK y)) fP) fP.length),(.arr 4 (List.map aC fQ) 0 0 false)]⟩
def aOJ (v27002_1:aI) (v27002_2:Ty8) (aTC:Ty2) (aTD:Ty7):St:=⟨mkT 26 [(4,(.hp 0 0))],[(.row [(.sl 2 (List.map aB v27002_1)),(.sl 3 (List.map aA v27002_2)),(.mp 1),(.ref 4 2 0 0 aTD.length .virt)]),(.map (dW .i64 (fun y=>AV.agg (aK y)) aTC) aTC.length),(.arr 4 (List.map aC aTD) 0 0 false)]⟩
def O27_0 (x1:Ty7) (y:Ty0):GX:=match y with
 | .inl y=>.st (.exit 0) (aOJ y.1 y.2.1 y.2.2.1 y.2.2.2)
 | .inr y=>.fin (Sum.elim (fun y=>(.tup [(.hp 0 0),(.int .i64 0)])) (fun y=>(.tup [.nilp,(.int .i64 4)])) y) (Sum.elim (fun y=>[(.row [(.sl 2 (List.map aB y.1)),(.sl 3 (List.map aA y.2.1)),(.mp 1),(.ref 4 2 0 0 y.2.2.2.length .virt)]),(.map (dW .i64 (fun y=>AV.agg (aK y)) y.2.2.1) y.2.2.1.length),(.arr 4 (List.map aC y.2.2.2) 0 0 false)]) (fun y=>[]) y)
theorem tX (x1:Ty7) (y:Ty0):∀(k:Nat) (eH:Int) (f6:aI) (f7:Ty8) (fP:Ty2) (fQ:Ty7),gL k x1 eH f6 f7 fP fQ=some y→LT Try.prog X27 L27_0 (S27_0 x1 eH f6 f7 fP fQ) (O27_0 x1 y)
 | 0,eH,f6,f7,fP,fQ,h=>by cases h
 | k+1,eH,f6,f7,fP,fQ,h=>by
  rw[gL] at h
  by_cases cL0:ltI eH (nI x1.length)=true
  · rw[if_pos cL0] at h
    by_cases cL1:inI eH x1.length=true
    · rw[if_pos cL1] at h
      obtain⟨j8,eL2,h⟩:=bsm h
      obtain⟨eI,eL3,h⟩:=bsm h
      let u1:List Ans:=[dt,.n x1.length,.row [(.int .i64 j8.1),(.int .i64 j8.2.1),(.int .u8 j8.2.2.1),(.int .i64 j8.2.2.2)],.call ⟨true,[]⟩ (.tup [(.int .i64 eI.2.1),(.int .i64 eI.1)]) [(.row [(.sl 2 (List.map aB eI.2.2.1)),(.sl 3 (List.map aA eI.2.2.2.1)),(.mp 1),(.ref 4 2 1 0 eI.2.2.2.2.2.length .virt)]),(.map (dW .i64 (fun y=>AV.agg (aK y)) eI.2.2.2.2.1) eI.2.2.2.2.1.length),(.arr 4 (List.map aC eI.2.2.2.2.2) 1 1 false)]]
      let w2:List Prf:=[⟨(aG6 k j8.1 j8.2.1 j8.2.2.1 j8.2.2.2 f6 f7 fP fQ _ eL3)⟩,⟨(aN (e:=aC) eL2 4 0 4 (by decide))⟩,⟨cL1⟩,⟨(aJ aC x1)⟩,⟨cL0⟩]
      by_cases cL4:eqI eI.1 0=true
      · rw[if_pos cL4] at h
        exact LT.next aF (hs:=⟨[(4,[]),(10,[]),(11,[]),(12,[])],[⟨.tmp 4,[],none⟩,⟨.cell 0 2,[],none⟩,⟨.cell 0 3,[],some 4⟩],false,[],[]⟩) (es:=none) (u1++[df,.n eI.2.2.2.2.2.length,.rows (List.map aC eI.2.2.2.2.2)]) ([⟨(bK aC (l:=eI.2.2.2.2.2) (n:=eI.2.2.2.2.2.length) rfl)⟩,⟨(rfl:eI.2.2.2.2.2.length=eI.2.2.2.2.2.length)⟩,⟨(zle eI.2.2.2.2.2.length)⟩,⟨(nF cL4)⟩]++w2) (by kernel_rfl) (tX x1 y k (aL .i64 eH 1) eI.2.2.1 eI.2.2.2.1 eI.2.2.2.2.1 eI.2.2.2.2.2 h)
      rw[if_neg cL4] at h;replace cL4:=eqf cL4
      obtain rfl:=osi h
      show LT _ _ _ _ (.fin (.tup [.nilp,(.int .i64 4)]) [])
      exact LT.done aF (hs:=⟨[],[],false,[],[]⟩) (es:=none) (u1++[dt,.norm 0 ⟨[(2,[]),(3,[])],[],false,[],[]⟩]) ([⟨(nT cL4)⟩]++w2) (by kernel_rfl) (fun s h=>by cases h)
    rw[if_neg cL1] at h;replace cL1:=eqf cL1
    cases h
  rw[if_neg cL0] at h;replace cL0:=eqf cL0
  obtain rfl:=osi h
  show LT _ _ _ _ (.st (.exit 0) (aOJ f6 f7 fP fQ))
  exact LT.done aF (hs:=⟨[],[],false,[],[]⟩) (es:=(some ⟨[(4,[])],[⟨.tmp 4,[],none⟩,⟨.cell 0 2,[],none⟩,⟨.cell 0 3,[],none⟩],false,[],[]⟩)) [df] [⟨cL0⟩] (by kernel_rfl) (fun s h=>by cases h)
theorem aDB (k:Nat) (x1:Ty7) (r:Ty1) (h:tC k x1=some r):Tri Try.prog 27 [(.sl 4 (List.map aC x1))] [] (Sum.elim (fun y=>(.tup [(.hp 0 0),(.int .i64 0)])) (fun y=>(.tup [.nilp,(.int .i64 4)])) r) (Sum.elim (fun y=>[(.row [(.sl 2 (List.map aB y.1)),(.sl 3 (List.map aA y.2.1)),(.mp 1),(.ref 4 2 0 0 y.2.2.2.length .virt)]),(.map (dW .i64 (fun y=>AV.agg (aK y)) y.2.2.1) y.2.2.1.length),(.arr 4 (List.map aC y.2.2.2) 0 0 false)]) (fun y=>[]) r):=by
 unfold tC at h
 let u3:List Ans:=[.call ⟨true,[]⟩ (.hp 0 0) [(.row [.nils,.nils,(.mp 1),.nils]),(.map (dW .i64 (fun y=>AV.agg (aK y)) ([]:Ty2)) ([]:Ty2).length)],.n x1.length,.norm 2 ⟨[(4,[]),(10,[]),(11,[]),(12,[])],[⟨.tmp 4,[(0,2),(1,3)],none⟩,⟨.cell 0 2,[],none⟩,⟨.cell 0 3,[],some 4⟩],false,[],[]⟩,.n 0,.rows (List.map aC [])]
 let w4:List Prf:=[⟨(bK aC (l:=[]) (n:=0) rfl)⟩,⟨(rfl:0=0)⟩,⟨(zle 0)⟩,⟨(aJ aC x1)⟩,⟨(aRG)⟩]
 obtain⟨x2,e0,h⟩:=bsm h
 cases x2 with
 | inl x3 =>
  simp only[Sum.elim_inl] at h
  obtain rfl:=osi h
  exact Tri.of (x:=X27) aF aV8 (u3++[.out (.st .normal (aOJ x3.1 x3.2.1 x3.2.2.1 x3.2.2.2)),.norm 0 ⟨[(2,[]),(3,[])],[⟨.tmp 2,[],none⟩,⟨.cell 0 2,[],none⟩,⟨.cell 0 3,[],none⟩],false,[],[]⟩]) ([⟨(LT.block (tX x1 _ k 0 [] [] ([]:Ty2) [] e0))⟩]++w4) (by kernel_rfl)
 | inr x3 =>
  simp only[Sum.elim_inr] at h
  obtain rfl:=osi h
  exact Tri.of (x:=X27) aF aV8 (u3++[.out (.fin (Sum.elim (fun y=>(.tup [(.hp 0 0),(.int .i64 0)])) (fun y=>(.tup [.nilp,(.int .i64 4)])) x3) (Sum.elim (fun y=>[(.row [(.sl 2 (List.map aB y.1)),(.sl 3 (List.map aA y.2.1)),(.mp 1),(.ref 4 2 0 0 y.2.2.2.length .virt)]),(.map (dW .i64 (fun y=>AV.agg (aK y)) y.2.2.1) y.2.2.1.length),(.arr 4 (List.map aC y.2.2.2) 0 0 false)]) (fun y=>[]) x3))]) ([⟨(LT.blockFin (id:=0) (tX x1 _ k 0 [] [] ([]:Ty2) [] e0))⟩]++w4) (by kernel_rfl)
end Go.Ws

namespace Go.Ws
open Go.Proofs
set_option linter.unusedSimpArgs false
set_option linter.unusedVariables false
set_option maxRecDepth 1000000
set_option maxHeartbeats 4000000
noncomputable def X9:Ctx:=⟨Try.f9,[],false⟩
noncomputable def L9_0:Code:=at_ Try.f9 [1,1,1,0,1,4,5]
def S9_0 (x1:Ty7) (fJ:Int) (fN:aI):St:=⟨mkT 33 [(6,(.mp 0)),(17,(.sl 4 (List.map aC x1))),(18,(.int .i64 (nI x1.length))),(19,(.int .i64 fJ))],[(.map (dW .i64 (fun y=>(bW y).headD aP) fN) fN.length)]⟩
def aUR (aWY:aI):St:=⟨mkT 33 [(6,(.mp 0))],[(.map (dW .i64 (fun y=>(bW y).headD aP) aWY) aWY.length)]⟩
def O9_0 (x1:Ty7) (y:(aI)):GX:=.st (.exit 0) (aUR y)
theorem vG (x1:Ty7) (y:(aI)):∀(k:Nat) (fJ:Int) (fN:aI),gN k x1 fJ fN=some y→LT Try.prog X9 L9_0 (S9_0 x1 fJ fN) (O9_0 x1 y)
 | 0,fJ,fN,h=>by cases h
 | k+1,fJ,fN,h=>by
  rw[gN] at h
  by_cases cL0:ltI fJ (nI x1.length)=true
  · rw[if_pos cL0] at h
    by_cases cL1:inI fJ x1.length=true
    · rw[if_pos cL1] at h
      obtain⟨kR,eL2,h⟩:=bsm h
      let u1:List Ans:=[dt,.n x1.length,.row [(.int .i64 kR.1),(.int .i64 kR.2.1),(.int .u8 kR.2.2.1),(.int .i64 kR.2.2.2)]]
      let w2:List Prf:=[⟨(aN (e:=aC) eL2 4 0 4 (by decide))⟩,⟨cL1⟩,⟨(aJ aC x1)⟩,⟨cL0⟩]
      by_cases cL3:eqI kR.1 6=true
      · rw[if_pos cL3] at h
        exact LT.next aF (hs:=⟨[(6,[]),(17,[]),(18,[]),(19,[])],[⟨.tmp 6,[],none⟩],false,[],[]⟩) (es:=none) (u1++[dt,.ents (dW .i64 (fun y=>(bW y).headD aP) (bH fN kR.2.1 kR.2.2.2)) (bH fN kR.2.1 kR.2.2.2).length]) ([⟨(pC .i64 (fun y=>(bW y).headD aP) fN kR.2.1 kR.2.2.2)⟩,⟨cL3⟩]++w2) (by kernel_rfl) (vG x1 y k (aL .i64 fJ 1) (bH fN kR.2.1 kR.2.2.2) h)
      rw[if_neg cL3] at h;replace cL3:=eqf cL3
      exact LT.next aF (hs:=⟨[(6,[]),(17,[]),(18,[]),(19,[])],[⟨.tmp 6,[],none⟩],false,[],[]⟩) (es:=none) (u1++[df]) ([⟨cL3⟩]++w2) (by kernel_rfl) (vG x1 y k (aL .i64 fJ 1) fN h)
    rw[if_neg cL1] at h;replace cL1:=eqf cL1
    cases h
  rw[if_neg cL0] at h;replace cL0:=eqf cL0
  obtain rfl:=osi h
  show LT _ _ _ _ (.st (.exit 0) (aUR fN))
  exact LT.done aF (hs:=⟨[],[],false,[],[]⟩) (es:=(some ⟨[(6,[])],[⟨.tmp 6,[],none⟩],false,[],[]⟩)) [df] [⟨cL0⟩] (by kernel_rfl) (fun s h=>by cases h)
theorem iE (k:Nat) (x1:Ty7) (r:(Sum (aI) (Unit))) (h:mI k x1=some r):Tri Try.prog 9 [(.sl 4 (List.map aC x1))] [] (Sum.elim (fun y=>(.tup [(.mp 0),(.int .i64 0)])) (fun y=>(.tup [.mapn,(.int .i64 4)])) r) (Sum.elim (fun y=>[(.map (dW .i64 (fun y=>(bW y).headD aP) y) y.length)]) (fun y=>[]) r):=by
 unfold mI at h
 obtain⟨x2,e0,h⟩:=bsm h
 cases x2 with
 | inl x3 =>
  simp only[Sum.elim_inl] at h
  obtain⟨x5,e2,h⟩:=bsm h
  obtain rfl:=osi h
  exact Tri.of (x:=X9) aF facts9 [.call ⟨true,[]⟩ (.tup [(.hp 0 0),(.int .i64 0)]) [(.row [(.sl 2 (List.map aB x3.1)),(.sl 3 (List.map aA x3.2.1)),(.mp 1),(.ref 4 2 0 0 x3.2.2.2.length .virt)]),(.map (dW .i64 (fun y=>AV.agg (aK y)) x3.2.2.1) x3.2.2.1.length),(.arr 4 (List.map aC x3.2.2.2) 0 0 false)],df,.n x1.length,.norm 2 ⟨[(6,[]),(17,[]),(18,[]),(19,[])],[⟨.tmp 6,[],none⟩],false,[],[]⟩,.out (.st .normal (aUR x5)),.norm 0 ⟨[(2,[]),(3,[])],[⟨.tmp 2,[],none⟩],false,[],[]⟩] [⟨(LT.block (vG x1 _ k 0 ([]:aI) e2))⟩,⟨(aJ aC x1)⟩,⟨(nF (rfl:eqI 0 0=true))⟩,⟨(aDB k x1 (.inl x3) e0)⟩] (by kernel_rfl)
 | inr x3 =>
  simp only[Sum.elim_inr] at h
  obtain rfl:=osi h
  exact Tri.of (x:=X9) aF facts9 [.call ⟨true,[]⟩ (.tup [.nilp,(.int .i64 4)]) [],dt,.norm 0 ⟨[(2,[]),(3,[])],[],false,[],[]⟩] [⟨(nT (rfl:eqI 4 0=false))⟩,⟨(aDB k x1 (.inr x3) e0)⟩] (by kernel_rfl)
end Go.Ws

namespace Go.Ws
open Go.Proofs
set_option linter.unusedSimpArgs false
set_option linter.unusedVariables false
set_option maxRecDepth 1000000
set_option maxHeartbeats 4000000
noncomputable def X14:Ctx:=⟨Try.f14,[],true⟩
noncomputable def L14_2:Code:=at_ Try.f14 [1,1,1,0,1,4,5]
def S14_2 (x1:Ty7) (eJ:Int):St:=⟨mkT 39 [(4,.mapn),(5,(.int .i64 4)),(6,(.int .i64 0)),(14,(.sl 4 (List.map aC x1))),(15,(.int .i64 (nI x1.length))),(16,(.int .i64 eJ))],[]⟩
def aPQ:St:=⟨mkT 39 [(5,(.int .i64 4)),(6,(.int .i64 0))],[]⟩
def O14_2 (x1:Ty7) (y:(Unit)):GX:=.st (.exit 0) (aPQ)
noncomputable def L14_1:Code:=at_ Try.f14 [1,1,1,0,1,4,5]
def S14_1 (x1:Ty7) (x3:aI) (dF:Int) (cP:Int):St:=⟨mkT 39 [(4,(.mp 0)),(5,(.int .i64 0)),(6,(.int .i64 dF)),(14,(.sl 4 (List.map aC x1))),(15,(.int .i64 (nI x1.length))),(16,(.int .i64 cP))],[(.map (dW .i64 (fun y=>(bW y).headD aP) x3) x3.length)]⟩
def aO1 (v14012_1:Int):St:=⟨mkT 39 [(5,(.int .i64 0)),(6,(.int .i64 v14012_1))],[]⟩
def O14_1 (x1:Ty7) (x3:aI) (y:(Int)):GX:=.st (.exit 0) (aO1 y)
theorem zE (x1:Ty7) (y:(Unit)):∀(k:Nat) (eJ:Int),fU k x1 eJ=some y→LT Try.prog X14 L14_2 (S14_2 x1 eJ) (O14_2 x1 y)
 | 0,eJ,h=>by cases h
 | k+1,eJ,h=>by
  rw[fU] at h
  by_cases cL0:ltI eJ (nI x1.length)=true
  · rw[if_pos cL0] at h
    by_cases cL1:inI eJ x1.length=true
    · rw[if_pos cL1] at h
      obtain⟨aBR,eL2,h⟩:=bsm h
      exact LT.next aF (hs:=⟨[(4,[]),(5,[]),(6,[]),(14,[]),(15,[]),(16,[])],[],false,[],[]⟩) (es:=none) [dt,.n x1.length,.row [(.int .i64 aBR.1),(.int .i64 aBR.2.1),(.int .u8 aBR.2.2.1),(.int .i64 aBR.2.2.2)],df,df,df,df,df,df,df,df,df,df,df] [⟨rF⟩,⟨rF⟩,⟨rF⟩,⟨rF⟩,⟨rF⟩,⟨rF⟩,⟨rF⟩,⟨(rfl:eqI 4 0=false)⟩,⟨(rfl:eqI 4 0=false)⟩,⟨(rfl:eqI 4 0=false)⟩,⟨(rfl:eqI 4 0=false)⟩,⟨(aN (e:=aC) eL2 4 0 4 (by decide))⟩,⟨cL1⟩,⟨(aJ aC x1)⟩,⟨cL0⟩] (by kernel_rfl) (zE x1 y k (aL .i64 eJ 1) h)
    rw[if_neg cL1] at h;replace cL1:=eqf cL1
    cases h
  rw[if_neg cL0] at h;replace cL0:=eqf cL0
  obtain rfl:=osi h
  show LT _ _ _ _ (.st (.exit 0) (aPQ))
  exact LT.done aF (hs:=⟨[],[],false,[],[]⟩) (es:=(some ⟨[(5,[]),(6,[])],[],false,[],[]⟩)) [df] [⟨cL0⟩] (by kernel_rfl) (fun s h=>by cases h)
theorem mK (x1:Ty7) (x3:aI) (y:(Int)):∀(k:Nat) (dF:Int) (cP:Int),dZ k x1 x3 dF cP=some y→LT Try.prog X14 L14_1 (S14_1 x1 x3 dF cP) (O14_1 x1 x3 y)
 | 0,dF,cP,h=>by cases h
 | k+1,dF,cP,h=>by
  rw[dZ] at h
  by_cases cL0:ltI cP (nI x1.length)=true
  · rw[if_pos cL0] at h
    by_cases cL1:inI cP x1.length=true
    · rw[if_pos cL1] at h
      obtain⟨nH,eL2,h⟩:=bsm h
      let u1:List Ans:=[dt,.n x1.length,.row [(.int .i64 nH.1),(.int .i64 nH.2.1),(.int .u8 nH.2.2.1),(.int .i64 nH.2.2.2)],dt,dt,dt,dt]
      let w2:List Prf:=[⟨(rfl:eqI 0 0=true)⟩,⟨(rfl:eqI 0 0=true)⟩,⟨(rfl:eqI 0 0=true)⟩,⟨(rfl:eqI 0 0=true)⟩,⟨(aN (e:=aC) eL2 4 0 4 (by decide))⟩,⟨cL1⟩,⟨(aJ aC x1)⟩,⟨cL0⟩]
      by_cases cL3:eqI nH.1 5=true
      · rw[if_pos cL3] at h
        by_cases cL4:o8 x3 nH.2.1=true
        · rw[if_pos cL4] at h
          obtain⟨aBS,eL5,h⟩:=bsm h
          let u5:List Ans:=u1++[dt,dt,dt,dt,.opt (some (.int .i64 aBS)),dt,dt]
          let w6:List Prf:=[⟨cL3⟩,⟨cL3⟩,⟨(kD .i64 (fun y=>(bW y).headD aP) eL5)⟩,⟨cL3⟩,⟨cL3⟩,⟨cL3⟩,⟨cL3⟩]++w2
          by_cases cL6:eqI aBS 2=true
          · rw[if_pos cL6] at h
            exact LT.next aF (hs:=⟨[(4,[]),(5,[]),(6,[]),(14,[]),(15,[]),(16,[])],[⟨.tmp 4,[],none⟩],false,[],[]⟩) (es:=none) (u5++[dt]) ([⟨cL6⟩]++w6) (by kernel_rfl) (mK x1 x3 y k (aL .i64 dF 1) (aL .i64 cP 1) h)
          rw[if_neg cL6] at h;replace cL6:=eqf cL6
          exact LT.next aF (hs:=⟨[(4,[]),(5,[]),(6,[]),(14,[]),(15,[]),(16,[])],[⟨.tmp 4,[],none⟩],false,[],[]⟩) (es:=none) (u5++[df]) ([⟨cL6⟩]++w6) (by kernel_rfl) (mK x1 x3 y k dF (aL .i64 cP 1) h)
        rw[if_neg cL4] at h;replace cL4:=eqf cL4
        exact LT.next aF (hs:=⟨[(4,[]),(5,[]),(6,[]),(14,[]),(15,[]),(16,[])],[⟨.tmp 4,[],none⟩],false,[],[]⟩) (es:=none) (u1++[dt,dt,dt,dt,.opt none,dt,dt,df]) ([⟨(rfl:eqI 0 2=false)⟩,⟨cL3⟩,⟨cL3⟩,⟨(oJ .i64 (fun y=>(bW y).headD aP) cL4)⟩,⟨cL3⟩,⟨cL3⟩,⟨cL3⟩,⟨cL3⟩]++w2) (by kernel_rfl) (mK x1 x3 y k dF (aL .i64 cP 1) h)
      rw[if_neg cL3] at h;replace cL3:=eqf cL3
      exact LT.next aF (hs:=⟨[(4,[]),(5,[]),(6,[]),(14,[]),(15,[]),(16,[])],[⟨.tmp 4,[],none⟩],false,[],[]⟩) (es:=none) (u1++[df,df,df,df,df,df,df]) ([⟨rF⟩,⟨cL3⟩,⟨cL3⟩,⟨cL3⟩,⟨cL3⟩,⟨cL3⟩,⟨cL3⟩]++w2) (by kernel_rfl) (mK x1 x3 y k dF (aL .i64 cP 1) h)
    rw[if_neg cL1] at h;replace cL1:=eqf cL1
    cases h
  rw[if_neg cL0] at h;replace cL0:=eqf cL0
  obtain rfl:=osi h
  show LT _ _ _ _ (.st (.exit 0) (aO1 dF))
  exact LT.done aF (hs:=⟨[],[],false,[],[]⟩) (es:=(some ⟨[(5,[]),(6,[])],[],false,[],[]⟩)) [df] [⟨cL0⟩] (by kernel_rfl) (fun s h=>by cases h)
theorem sJ (k:Nat) (x1:Ty7) (r:Int × Int) (h:lW k x1=some r):Tri Try.prog 14 [(.sl 4 (List.map aC x1))] [] (.tup [(.int .i64 r.1),(.int .i64 r.2)]) []:=by
 unfold lW at h
 obtain⟨x2,e0,h⟩:=bsm h
 cases x2 with
 | inl x3 =>
  simp only[Sum.elim_inl] at h
  obtain⟨x5,e2,h⟩:=bsm h
  obtain rfl:=osi h
  exact Tri.of (x:=X14) aF aUW [.call ⟨true,[]⟩ (.tup [(.mp 0),(.int .i64 0)]) [(.map (dW .i64 (fun y=>(bW y).headD aP) x3) x3.length)],.n x1.length,.norm 2 ⟨[(4,[]),(5,[]),(6,[]),(14,[]),(15,[]),(16,[])],[⟨.tmp 4,[],none⟩],false,[],[]⟩,.out (.st .normal (aO1 x5))] [⟨(LT.block (mK x1 x3 _ k 0 0 e2))⟩,⟨(aJ aC x1)⟩,⟨(iE k x1 (.inl x3) e0)⟩] (by kernel_rfl)
 | inr x3 =>
  simp only[Sum.elim_inr] at h
  obtain⟨x5,e2,h⟩:=bsm h
  obtain rfl:=osi h
  exact Tri.of (x:=X14) aF aUW [.call ⟨true,[]⟩ (.tup [.mapn,(.int .i64 4)]) [],.n x1.length,.norm 2 ⟨[(4,[]),(5,[]),(6,[]),(14,[]),(15,[]),(16,[])],[],false,[],[]⟩,.out (.st .normal (aPQ))] [⟨(LT.block (zE x1 _ k 0 e2))⟩,⟨(aJ aC x1)⟩,⟨(iE k x1 (.inr x3) e0)⟩] (by kernel_rfl)
end Go.Ws

namespace Go.Ws
open Go.Proofs
set_option linter.unusedSimpArgs false
set_option linter.unusedVariables false
set_option maxRecDepth 1000000
set_option maxHeartbeats 4000000
noncomputable def X12:Ctx:=⟨Try.f12,[],true⟩
noncomputable def L12_0:Code:=at_ Try.f12 [1,1,1,1,0,1,4,5]
def S12_0 (x1:Ty7) (x3:aI) (cQ:Int) (aS:aI):St:=⟨mkT 46 [(4,(.mp 0)),(6,(.ref 2 1 0 0 aS.length .virt)),(17,(.sl 4 (List.map aC x1))),(18,(.int .i64 (nI x1.length))),(19,(.int .i64 cQ))],[(.map (dW .i64 (fun y=>(bW y).headD aP) x3) x3.length),(.arr 2 (List.map aB aS) 0 0 false)]⟩
def aOX (aTE:aI):St:=⟨mkT 46 [(6,(.ref 2 0 0 0 aTE.length .virt))],[(.arr 2 (List.map aB aTE) 0 0 false)]⟩
def O12_0 (x1:Ty7) (x3:aI) (y:(aI)):GX:=.st (.exit 0) (aOX y)
theorem mG (x1:Ty7) (x3:aI) (y:(aI)):∀(k:Nat) (cQ:Int) (aS:aI),d6 k x1 x3 cQ aS=some y→LT Try.prog X12 L12_0 (S12_0 x1 x3 cQ aS) (O12_0 x1 x3 y)
 | 0,cQ,aS,h=>by cases h
 | k+1,cQ,aS,h=>by
  rw[d6] at h
  by_cases cL0:ltI cQ (nI x1.length)=true
  · rw[if_pos cL0] at h
    by_cases cL1:inI cQ x1.length=true
    · rw[if_pos cL1] at h
      obtain⟨dO,eL2,h⟩:=bsm h
      let u1:List Ans:=[dt,.n x1.length,.row [(.int .i64 dO.1),(.int .i64 dO.2.1),(.int .u8 dO.2.2.1),(.int .i64 dO.2.2.2)]]
      let w2:List Prf:=[⟨(aN (e:=aC) eL2 4 0 4 (by decide))⟩,⟨cL1⟩,⟨(aJ aC x1)⟩,⟨cL0⟩]
      by_cases cL3:eqI dO.1 3=true
      · rw[if_pos cL3] at h
        by_cases cL4:o8 x3 dO.2.1=true
        · rw[if_pos cL4] at h
          obtain⟨aBT,eL5,h⟩:=bsm h
          let u5:List Ans:=u1++[dt,dt,dt,dt,.opt (some (.int .i64 aBT)),dt,dt]
          let w6:List Prf:=[⟨cL3⟩,⟨cL3⟩,⟨(kD .i64 (fun y=>(bW y).headD aP) eL5)⟩,⟨cL3⟩,⟨cL3⟩,⟨cL3⟩,⟨cL3⟩]++w2
          by_cases cL6:eqI aBT 1=true
          · rw[if_pos cL6] at h
            by_cases cL7:bC (((aS++[dO.2.2]).length)*16)=true
            · rw[if_pos cL7] at h
              exact LT.next aF (hs:=⟨[(4,[]),(6,[]),(17,[]),(18,[]),(19,[])],[⟨.tmp 4,[],none⟩,⟨.tmp 6,[],some 2⟩],false,[],[]⟩) (es:=none) (u5++[dt,.rows (List.map aB [dO.2.2]),.n ((aS++[dO.2.2]).length),.n aS.length,dt,.rows (List.map aB (aS++[dO.2.2])),.n ((aS++[dO.2.2]).length),.rows (List.map aB (aS++[dO.2.2]))]) ([⟨(bK aB (l:=(aS++[dO.2.2])) (n:=((aS++[dO.2.2]).length)) rfl)⟩,⟨(rfl:(aS++[dO.2.2]).length=(aS++[dO.2.2]).length)⟩,⟨(zle ((aS++[dO.2.2]).length))⟩,⟨(hU aB aS [dO.2.2])⟩,⟨(fO aS.length)⟩,⟨(aJ aB aS)⟩,⟨cL7⟩,⟨(by simp only[wl,List.length_map,List.map_nil,List.map_cons]<;>omega:aS.length+(List.map aB [dO.2.2]).length=(aS++[dO.2.2]).length)⟩,⟨(aV aB (l:=[dO.2.2]) (n:=1) rfl)⟩,⟨(bV aB (Nat.le_refl 1):0+1≤(List.map aB [dO.2.2]).length)⟩,⟨cL6⟩]++w6) (by kernel_rfl) (mG x1 x3 y k (aL .i64 cQ 1) (aS++[dO.2.2]) h)
            rw[if_neg cL7] at h;replace cL7:=eqf cL7
            cases h
          rw[if_neg cL6] at h;replace cL6:=eqf cL6
          exact LT.next aF (hs:=⟨[(4,[]),(6,[]),(17,[]),(18,[]),(19,[])],[⟨.tmp 4,[],none⟩,⟨.tmp 6,[],some 2⟩],false,[],[]⟩) (es:=none) (u5++[df,.n aS.length,.rows (List.map aB aS)]) ([⟨(bK aB (l:=aS) (n:=aS.length) rfl)⟩,⟨(rfl:aS.length=aS.length)⟩,⟨(zle aS.length)⟩,⟨cL6⟩]++w6) (by kernel_rfl) (mG x1 x3 y k (aL .i64 cQ 1) aS h)
        rw[if_neg cL4] at h;replace cL4:=eqf cL4
        exact LT.next aF (hs:=⟨[(4,[]),(6,[]),(17,[]),(18,[]),(19,[])],[⟨.tmp 4,[],none⟩,⟨.tmp 6,[],some 2⟩],false,[],[]⟩) (es:=none) (u1++[dt,dt,dt,dt,.opt none,dt,dt,df,.n aS.length,.rows (List.map aB aS)]) ([⟨(bK aB (l:=aS) (n:=aS.length) rfl)⟩,⟨(rfl:aS.length=aS.length)⟩,⟨(zle aS.length)⟩,⟨(rfl:eqI 0 1=false)⟩,⟨cL3⟩,⟨cL3⟩,⟨(oJ .i64 (fun y=>(bW y).headD aP) cL4)⟩,⟨cL3⟩,⟨cL3⟩,⟨cL3⟩,⟨cL3⟩]++w2) (by kernel_rfl) (mG x1 x3 y k (aL .i64 cQ 1) aS h)
      rw[if_neg cL3] at h;replace cL3:=eqf cL3
      exact LT.next aF (hs:=⟨[(4,[]),(6,[]),(17,[]),(18,[]),(19,[])],[⟨.tmp 4,[],none⟩,⟨.tmp 6,[],some 2⟩],false,[],[]⟩) (es:=none) (u1++[df,df,df,df,df,df,df,.n aS.length,.rows (List.map aB aS)]) ([⟨(bK aB (l:=aS) (n:=aS.length) rfl)⟩,⟨(rfl:aS.length=aS.length)⟩,⟨(zle aS.length)⟩,⟨rF⟩,⟨cL3⟩,⟨cL3⟩,⟨cL3⟩,⟨cL3⟩,⟨cL3⟩,⟨cL3⟩]++w2) (by kernel_rfl) (mG x1 x3 y k (aL .i64 cQ 1) aS h)
    rw[if_neg cL1] at h;replace cL1:=eqf cL1
    cases h
  rw[if_neg cL0] at h;replace cL0:=eqf cL0
  obtain rfl:=osi h
  show LT _ _ _ _ (.st (.exit 0) (aOX aS))
  exact LT.done aF (hs:=⟨[],[],false,[],[]⟩) (es:=(some ⟨[(6,[])],[⟨.tmp 6,[],none⟩],false,[],[]⟩)) [df] [⟨cL0⟩] (by kernel_rfl) (fun s h=>by cases h)
theorem sL (k:Nat) (x1:Ty7) (r:aI × Int) (h:lU k x1=some r):Tri Try.prog 12 [(.sl 4 (List.map aC x1))] [] (.tup [(.sl 2 (List.map aB r.1)),(.int .i64 r.2)]) []:=by
 unfold lU at h
 obtain⟨x2,e0,h⟩:=bsm h
 cases x2 with
 | inl x3 =>
  simp only[Sum.elim_inl] at h
  obtain⟨x5,e2,h⟩:=bsm h
  obtain⟨x6,e4,h⟩:=bsm h
  obtain rfl:=osi h
  exact Tri.of (x:=X12) aF aWO [.call ⟨true,[]⟩ (.tup [(.mp 0),(.int .i64 0)]) [(.map (dW .i64 (fun y=>(bW y).headD aP) x3) x3.length)],df,.n x1.length,.norm 2 ⟨[(4,[]),(6,[]),(17,[]),(18,[]),(19,[])],[⟨.tmp 4,[],none⟩,⟨.tmp 6,[],some 2⟩],false,[],[]⟩,.n 0,.rows (List.map aB []),.out (.st .normal (aOX x5)),.call ⟨true,[[(0,2)]]⟩ (.tup [(.sl 2 (List.map aB x6.1)),(.int .i64 x6.2)]) [],.rows (List.map aB x5)] [⟨(rX k [] x5 _ e4)⟩,⟨(aV aB (l:=x5) (n:=x5.length) rfl)⟩,⟨(bV aB (Nat.le_refl x5.length):0+x5.length≤(List.map aB x5).length)⟩,⟨(LT.block (mG x1 x3 _ k 0 [] e2))⟩,⟨(bK aB (l:=[]) (n:=0) rfl)⟩,⟨(rfl:0=0)⟩,⟨(zle 0)⟩,⟨(aJ aC x1)⟩,⟨(nF (rfl:eqI 0 0=true))⟩,⟨(iE k x1 (.inl x3) e0)⟩] (by kernel_rfl)
 | inr x3 =>
  simp only[Sum.elim_inr] at h
  obtain rfl:=osi h
  exact Tri.of (x:=X12) aF aWO [.call ⟨true,[]⟩ (.tup [.mapn,(.int .i64 4)]) [],dt,.norm 0 ⟨[(2,[(0,2)]),(3,[])],[],false,[],[]⟩] [⟨(nT (rfl:eqI 4 0=false))⟩,⟨(iE k x1 (.inr x3) e0)⟩] (by kernel_rfl)
end Go.Ws

namespace Go.Ws
open Go.Proofs
set_option linter.unusedSimpArgs false
set_option linter.unusedVariables false
set_option maxRecDepth 1000000
set_option maxHeartbeats 4000000
theorem aMA (x1:aI):Tri Try.prog 18 [(.ps [(.mp 0),.mapn,(.mp 0)])] [(.map (dW .i64 (fun y=>(bW y).headD aP) x1) x1.length)] (.bool (tO x1)) [(.map (dW .i64 (fun y=>(bW y).headD aP) x1) x1.length)]:=aXY
end Go.Ws

namespace Go.Ws
open Go.Proofs
set_option linter.unusedSimpArgs false
set_option linter.unusedVariables false
set_option maxRecDepth 1000000
set_option maxHeartbeats 4000000
theorem aH7 (x1:aI) (x2:aI):Tri Try.prog 18 [(.ps [(.mp 0),(.mp 1)])] [(.map (dW .i64 (fun y=>(bW y).headD aP) x1) x1.length),(.map (dW .i64 (fun y=>(bW y).headD aP) x2) x2.length)] (.bool (rM x1 x2)) [(.map (dW .i64 (fun y=>(bW y).headD aP) x1) x1.length),(.map (dW .i64 (fun y=>(bW y).headD aP) x2) x2.length)]:=agree_01
end Go.Ws

namespace Go.Ws
open Go.Proofs
set_option linter.unusedSimpArgs false
set_option linter.unusedVariables false
set_option maxRecDepth 1000000
set_option maxHeartbeats 4000000
noncomputable def X8:Ctx:=⟨Try.f8,[],true⟩
def A8_0 (x6:aI):Ans:=.call ⟨true,[]⟩ (.tup [(.mp 0),(.int .i64 0)]) [(.map (dW .i64 (fun y=>(bW y).headD aP) x6) x6.length)]
def A8_1:Ans:=.call ⟨true,[]⟩ (.tup [.mapn,(.int .i64 4)]) []
theorem aDZ (k:Nat) (r:Bool) (h:tK k=some r):Tri Try.prog 8 [] [] (.bool r) []:=by
 unfold tK at h
 let u1:List Ans:=[.call ⟨true,[]⟩ (.sl 4 (List.map aC aQ)) [],.n aQ.length]
 let w2:List Prf:=[⟨(aJ aC aQ)⟩,⟨(aJO)⟩]
 by_cases c0:eqI (nI aQ.length) 0=true
 · rw[if_pos c0] at h
   obtain rfl:=osi h
   exact Tri.of (x:=X8) aF oN (u1++[dt]) ([⟨c0⟩]++w2) (by kernel_rfl)
 rw[if_neg c0] at h;replace c0:=eqf c0
 obtain⟨x1,e1,h⟩:=bsm h
 cases x1 with
 | inl x2 =>
  simp only[Sum.elim_inl] at h
  obtain⟨x3,e3,h⟩:=bsm h
  obtain⟨x4,e4,h⟩:=bsm h
  by_cases c5:leI 1 aQ.length=true
  · rw[if_pos c5] at h
    let u5:List Ans:=u1++[df,.call ⟨true,[]⟩ (.tup [(.mp 0),(.int .i64 0)]) [(.map (dW .i64 (fun y=>(bW y).headD aP) x2) x2.length)],.call ⟨true,[]⟩ (.tup [(.int .i64 x3.1),(.int .i64 x3.2)]) [],.call ⟨true,[]⟩ (.tup [(.sl 2 (List.map aB x4.1)),(.int .i64 x4.2)]) [],.n aQ.length,.rows (List.map aC (List.drop 1 aQ))]
    let w6:List Prf:=[⟨(aSJ aC (l:=aQ) (n:=aQ.length) rfl 1)⟩,⟨c5⟩,⟨(aJ aC aQ)⟩,⟨(sL k aQ _ e4)⟩,⟨(sJ k aQ _ e3)⟩,⟨(iE k aQ (.inl x2) e1)⟩,⟨c0⟩]++w2
    obtain⟨x5,e6,h⟩:=bsm h
    cases x5 with
    | inl x6 =>
     simp only[Sum.elim_inl] at h
     let u7:List Ans:=u5++[(A8_0 x6),dt,dt,.n x2.length,dt,dt]
     let w8:List Prf:=[⟨(rfl:eqI 0 0=true)⟩,⟨(rfl:eqI 0 0=true)⟩,⟨(aD6 .i64 (fun y=>(bW y).headD aP) x2)⟩,⟨(rfl:eqI 0 0=true)⟩,⟨(rfl:eqI 0 0=true)⟩,⟨(iE k (List.drop 1 aQ) (.inl x6) e6)⟩]++w6
     by_cases c8:eqI (nI x2.length) 1=true
     · rw[if_pos c8] at h
       by_cases c9:o8 x2 1=true
       · rw[if_pos c9] at h
         obtain⟨x7,e10,h⟩:=bsm h
         let u11:List Ans:=u7++[dt,dt,.opt (some (.int .i64 x7)),dt,dt]
         let w12:List Prf:=[⟨c8⟩,⟨c8⟩,⟨(kD .i64 (fun y=>(bW y).headD aP) e10)⟩,⟨c8⟩,⟨c8⟩]++w8
         by_cases c11:eqI x7 2=true
         · rw[if_pos c11] at h
           by_cases c12:eqI x3.1 1=true
           · rw[if_pos c12] at h
             let w16:List Prf:=[⟨c12⟩,⟨c12⟩,⟨c12⟩,⟨c11⟩,⟨c11⟩,⟨c11⟩]++w12
             by_cases c13:eqI x3.2 0=true
             · rw[if_pos c13] at h
               let u17:List Ans:=u11++[dt,dt,dt,dt,dt,dt,dt,dt,.n x4.1.length,dt,dt]
               let w18:List Prf:=[⟨c13⟩,⟨c13⟩,⟨(aJ aB x4.1)⟩,⟨c13⟩,⟨c13⟩]++w16
               by_cases c14:eqI (nI x4.1.length) 0=true
               · rw[if_pos c14] at h
                 by_cases c15:eqI x4.2 0=true
                 · rw[if_pos c15] at h
                   obtain rfl:=osi h
                   exact Tri.of (x:=X8) aF oN (u17++[dt,dt,dt,dt,dt,dt,df,df,df,df,df,df,df,df,df,df,df,df,df]) ([⟨rF⟩,⟨rF⟩,⟨rF⟩,⟨rF⟩,⟨rF⟩,⟨rF⟩,⟨rF⟩,⟨rF⟩,⟨(rfl:eqI 0 4=false)⟩,⟨(rfl:eqI 0 4=false)⟩,⟨(rfl:eqI 0 4=false)⟩,⟨(rfl:eqI 0 4=false)⟩,⟨(rfl:eqI 0 4=false)⟩,⟨c15⟩,⟨c15⟩,⟨c15⟩,⟨c14⟩,⟨c14⟩,⟨c14⟩]++w18) (by kernel_rfl)
                 rw[if_neg c15] at h;replace c15:=eqf c15
                 obtain rfl:=osi h
                 exact Tri.of (x:=X8) aF oN (u17++[dt,dt,dt,df,df,df,df,df,df,df,df,df,df,df,df,df,df,df,df]) ([⟨rF⟩,⟨rF⟩,⟨rF⟩,⟨rF⟩,⟨rF⟩,⟨rF⟩,⟨rF⟩,⟨rF⟩,⟨rF⟩,⟨rF⟩,⟨rF⟩,⟨rF⟩,⟨rF⟩,⟨c15⟩,⟨c15⟩,⟨c15⟩,⟨c14⟩,⟨c14⟩,⟨c14⟩]++w18) (by kernel_rfl)
               rw[if_neg c14] at h;replace c14:=eqf c14
               obtain rfl:=osi h
               exact Tri.of (x:=X8) aF oN (u17++[df,df,df,df,df,df,df,df,df,df,df,df,df,df,df,df,df,df,df]) ([⟨rF⟩,⟨rF⟩,⟨rF⟩,⟨rF⟩,⟨rF⟩,⟨rF⟩,⟨rF⟩,⟨rF⟩,⟨rF⟩,⟨rF⟩,⟨rF⟩,⟨rF⟩,⟨rF⟩,⟨rF⟩,⟨rF⟩,⟨rF⟩,⟨c14⟩,⟨c14⟩,⟨c14⟩]++w18) (by kernel_rfl)
             rw[if_neg c13] at h;replace c13:=eqf c13
             obtain rfl:=osi h
             exact Tri.of (x:=X8) aF oN (u11++[dt,dt,dt,dt,dt,dt,df,df,df,df,df,df,df,df,df,df,df,df,df,df,df,df,df,df,df,df,df,df,df]) ([⟨rF⟩,⟨rF⟩,⟨rF⟩,⟨rF⟩,⟨rF⟩,⟨rF⟩,⟨rF⟩,⟨rF⟩,⟨rF⟩,⟨rF⟩,⟨rF⟩,⟨rF⟩,⟨rF⟩,⟨rF⟩,⟨rF⟩,⟨rF⟩,⟨rF⟩,⟨rF⟩,⟨rF⟩,⟨c13⟩,⟨c13⟩,⟨c13⟩,⟨c13⟩]++w16) (by kernel_rfl)
           rw[if_neg c12] at h;replace c12:=eqf c12
           obtain rfl:=osi h
           exact Tri.of (x:=X8) aF oN (u11++[dt,dt,dt,df,df,df,df,df,df,df,df,df,df,df,df,df,df,df,df,df,df,df,df,df,df,df,df,df,df]) ([⟨rF⟩,⟨rF⟩,⟨rF⟩,⟨rF⟩,⟨rF⟩,⟨rF⟩,⟨rF⟩,⟨rF⟩,⟨rF⟩,⟨rF⟩,⟨rF⟩,⟨rF⟩,⟨rF⟩,⟨rF⟩,⟨rF⟩,⟨rF⟩,⟨rF⟩,⟨rF⟩,⟨rF⟩,⟨rF⟩,⟨rF⟩,⟨rF⟩,⟨rF⟩,⟨c12⟩,⟨c12⟩,⟨c12⟩,⟨c11⟩,⟨c11⟩,⟨c11⟩]++w12) (by kernel_rfl)
         rw[if_neg c11] at h;replace c11:=eqf c11
         obtain rfl:=osi h
         exact Tri.of (x:=X8) aF oN (u11++[df,df,df,df,df,df,df,df,df,df,df,df,df,df,df,df,df,df,df,df,df,df,df,df,df,df,df,df,df]) ([⟨rF⟩,⟨rF⟩,⟨rF⟩,⟨rF⟩,⟨rF⟩,⟨rF⟩,⟨rF⟩,⟨rF⟩,⟨rF⟩,⟨rF⟩,⟨rF⟩,⟨rF⟩,⟨rF⟩,⟨rF⟩,⟨rF⟩,⟨rF⟩,⟨rF⟩,⟨rF⟩,⟨rF⟩,⟨rF⟩,⟨rF⟩,⟨rF⟩,⟨rF⟩,⟨rF⟩,⟨rF⟩,⟨rF⟩,⟨c11⟩,⟨c11⟩,⟨c11⟩]++w12) (by kernel_rfl)
       rw[if_neg c9] at h;replace c9:=eqf c9
       obtain rfl:=osi h
       exact Tri.of (x:=X8) aF oN (u7++[dt,dt,.opt none,dt,dt,df,df,df,df,df,df,df,df,df,df,df,df,df,df,df,df,df,df,df,df,df,df,df,df,df,df,df,df,df]) ([⟨rF⟩,⟨rF⟩,⟨rF⟩,⟨rF⟩,⟨rF⟩,⟨rF⟩,⟨rF⟩,⟨rF⟩,⟨rF⟩,⟨rF⟩,⟨rF⟩,⟨rF⟩,⟨rF⟩,⟨rF⟩,⟨rF⟩,⟨rF⟩,⟨rF⟩,⟨rF⟩,⟨rF⟩,⟨rF⟩,⟨rF⟩,⟨rF⟩,⟨rF⟩,⟨rF⟩,⟨rF⟩,⟨rF⟩,⟨(rfl:eqI 0 2=false)⟩,⟨(rfl:eqI 0 2=false)⟩,⟨(rfl:eqI 0 2=false)⟩,⟨c8⟩,⟨c8⟩,⟨(oJ .i64 (fun y=>(bW y).headD aP) c9)⟩,⟨c8⟩,⟨c8⟩]++w8) (by kernel_rfl)
     rw[if_neg c8] at h;replace c8:=eqf c8
     obtain rfl:=osi h
     exact Tri.of (x:=X8) aF oN (u7++[df,df,df,df,df,df,df,df,df,df,df,df,df,df,df,df,df,df,df,df,df,df,df,df,df,df,df,df,df,df,df,df,df]) ([⟨rF⟩,⟨rF⟩,⟨rF⟩,⟨rF⟩,⟨rF⟩,⟨rF⟩,⟨rF⟩,⟨rF⟩,⟨rF⟩,⟨rF⟩,⟨rF⟩,⟨rF⟩,⟨rF⟩,⟨rF⟩,⟨rF⟩,⟨rF⟩,⟨rF⟩,⟨rF⟩,⟨rF⟩,⟨rF⟩,⟨rF⟩,⟨rF⟩,⟨rF⟩,⟨rF⟩,⟨rF⟩,⟨rF⟩,⟨rF⟩,⟨rF⟩,⟨rF⟩,⟨c8⟩,⟨c8⟩,⟨c8⟩,⟨c8⟩]++w8) (by kernel_rfl)
    | inr x6 =>
     simp only[Sum.elim_inr] at h
     let u21:List Ans:=u5++[A8_1,dt,dt,.n x2.length,dt,dt]
     let w22:List Prf:=[⟨(rfl:eqI 0 0=true)⟩,⟨(rfl:eqI 0 0=true)⟩,⟨(aD6 .i64 (fun y=>(bW y).headD aP) x2)⟩,⟨(rfl:eqI 0 0=true)⟩,⟨(rfl:eqI 0 0=true)⟩,⟨(iE k (List.drop 1 aQ) (.inr x6) e6)⟩]++w6
     by_cases c8:eqI (nI x2.length) 1=true
     · rw[if_pos c8] at h
       by_cases c9:o8 x2 1=true
       · rw[if_pos c9] at h
         obtain⟨x7,e10,h⟩:=bsm h
         let u25:List Ans:=u21++[dt,dt,.opt (some (.int .i64 x7)),dt,dt]
         let w26:List Prf:=[⟨c8⟩,⟨c8⟩,⟨(kD .i64 (fun y=>(bW y).headD aP) e10)⟩,⟨c8⟩,⟨c8⟩]++w22
         by_cases c11:eqI x7 2=true
         · rw[if_pos c11] at h
           by_cases c12:eqI x3.1 1=true
           · rw[if_pos c12] at h
             let w30:List Prf:=[⟨c12⟩,⟨c12⟩,⟨c12⟩,⟨c11⟩,⟨c11⟩,⟨c11⟩]++w26
             by_cases c13:eqI x3.2 0=true
             · rw[if_pos c13] at h
               let u31:List Ans:=u25++[dt,dt,dt,dt,dt,dt,dt,dt,.n x4.1.length,dt,dt]
               let w32:List Prf:=[⟨c13⟩,⟨c13⟩,⟨(aJ aB x4.1)⟩,⟨c13⟩,⟨c13⟩]++w30
               by_cases c14:eqI (nI x4.1.length) 0=true
               · rw[if_pos c14] at h
                 by_cases c15:eqI x4.2 0=true
                 · rw[if_pos c15] at h
                   let u35:List Ans:=u31++[dt,dt,dt,dt,dt,dt,dt,dt,dt,dt,.call ⟨true,[]⟩ (.bool (tO x2)) [(.map (dW .i64 (fun y=>(bW y).headD aP) x2) x2.length)],dt]
                   let w36:List Prf:=[⟨(rfl:eqI 4 4=true)⟩,⟨(aMA x2)⟩,⟨(rfl:eqI 4 4=true)⟩,⟨(rfl:eqI 4 4=true)⟩,⟨(rfl:eqI 4 4=true)⟩,⟨(rfl:eqI 4 4=true)⟩,⟨c15⟩,⟨c15⟩,⟨c15⟩,⟨c14⟩,⟨c14⟩,⟨c14⟩]++w32
                   by_cases c16:(tO x2)=true
                   · rw[if_pos c16] at h
                     obtain rfl:=osi h
                     exact Tri.of (x:=X8) aF oN (u35++[dt,dt,dt,.ents (dW .i64 (fun y=>(bW y).headD aP) (bH ([]:aI) 1 1)) (bH ([]:aI) 1 1).length,dt,dt,dt,.call ⟨true,[]⟩ (.bool (rM x2 (bH ([]:aI) 1 1))) [(.map (dW .i64 (fun y=>(bW y).headD aP) x2) x2.length),(.map (dW .i64 (fun y=>(bW y).headD aP) (bH ([]:aI) 1 1)) (bH ([]:aI) 1 1).length)],dt,dt]) ([⟨c16⟩,⟨c16⟩,⟨(aH7 x2 (bH ([]:aI) 1 1))⟩,⟨c16⟩,⟨c16⟩,⟨c16⟩,⟨(pC .i64 (fun y=>(bW y).headD aP) ([]:aI) 1 1)⟩,⟨c16⟩,⟨c16⟩,⟨c16⟩]++w36) (by kernel_rfl)
                   rw[if_neg c16] at h;replace c16:=eqf c16
                   obtain rfl:=osi h
                   exact Tri.of (x:=X8) aF oN (u35++[df,df,df,df,df,df,df,df]) ([⟨c16⟩,⟨c16⟩,⟨c16⟩,⟨c16⟩,⟨c16⟩,⟨c16⟩,⟨c16⟩,⟨c16⟩]++w36) (by kernel_rfl)
                 rw[if_neg c15] at h;replace c15:=eqf c15
                 obtain rfl:=osi h
                 exact Tri.of (x:=X8) aF oN (u31++[dt,dt,dt,df,df,df,df,df,df,df,df,df,df,df,df,df,df,df,df]) ([⟨rF⟩,⟨rF⟩,⟨rF⟩,⟨rF⟩,⟨rF⟩,⟨rF⟩,⟨rF⟩,⟨rF⟩,⟨rF⟩,⟨rF⟩,⟨rF⟩,⟨rF⟩,⟨rF⟩,⟨c15⟩,⟨c15⟩,⟨c15⟩,⟨c14⟩,⟨c14⟩,⟨c14⟩]++w32) (by kernel_rfl)
               rw[if_neg c14] at h;replace c14:=eqf c14
               obtain rfl:=osi h
               exact Tri.of (x:=X8) aF oN (u31++[df,df,df,df,df,df,df,df,df,df,df,df,df,df,df,df,df,df,df]) ([⟨rF⟩,⟨rF⟩,⟨rF⟩,⟨rF⟩,⟨rF⟩,⟨rF⟩,⟨rF⟩,⟨rF⟩,⟨rF⟩,⟨rF⟩,⟨rF⟩,⟨rF⟩,⟨rF⟩,⟨rF⟩,⟨rF⟩,⟨rF⟩,⟨c14⟩,⟨c14⟩,⟨c14⟩]++w32) (by kernel_rfl)
             rw[if_neg c13] at h;replace c13:=eqf c13
             obtain rfl:=osi h
             exact Tri.of (x:=X8) aF oN (u25++[dt,dt,dt,dt,dt,dt,df,df,df,df,df,df,df,df,df,df,df,df,df,df,df,df,df,df,df,df,df,df,df]) ([⟨rF⟩,⟨rF⟩,⟨rF⟩,⟨rF⟩,⟨rF⟩,⟨rF⟩,⟨rF⟩,⟨rF⟩,⟨rF⟩,⟨rF⟩,⟨rF⟩,⟨rF⟩,⟨rF⟩,⟨rF⟩,⟨rF⟩,⟨rF⟩,⟨rF⟩,⟨rF⟩,⟨rF⟩,⟨c13⟩,⟨c13⟩,⟨c13⟩,⟨c13⟩]++w30) (by kernel_rfl)
           rw[if_neg c12] at h;replace c12:=eqf c12
           obtain rfl:=osi h
           exact Tri.of (x:=X8) aF oN (u25++[dt,dt,dt,df,df,df,df,df,df,df,df,df,df,df,df,df,df,df,df,df,df,df,df,df,df,df,df,df,df]) ([⟨rF⟩,⟨rF⟩,⟨rF⟩,⟨rF⟩,⟨rF⟩,⟨rF⟩,⟨rF⟩,⟨rF⟩,⟨rF⟩,⟨rF⟩,⟨rF⟩,⟨rF⟩,⟨rF⟩,⟨rF⟩,⟨rF⟩,⟨rF⟩,⟨rF⟩,⟨rF⟩,⟨rF⟩,⟨rF⟩,⟨rF⟩,⟨rF⟩,⟨rF⟩,⟨c12⟩,⟨c12⟩,⟨c12⟩,⟨c11⟩,⟨c11⟩,⟨c11⟩]++w26) (by kernel_rfl)
         rw[if_neg c11] at h;replace c11:=eqf c11
         obtain rfl:=osi h
         exact Tri.of (x:=X8) aF oN (u25++[df,df,df,df,df,df,df,df,df,df,df,df,df,df,df,df,df,df,df,df,df,df,df,df,df,df,df,df,df]) ([⟨rF⟩,⟨rF⟩,⟨rF⟩,⟨rF⟩,⟨rF⟩,⟨rF⟩,⟨rF⟩,⟨rF⟩,⟨rF⟩,⟨rF⟩,⟨rF⟩,⟨rF⟩,⟨rF⟩,⟨rF⟩,⟨rF⟩,⟨rF⟩,⟨rF⟩,⟨rF⟩,⟨rF⟩,⟨rF⟩,⟨rF⟩,⟨rF⟩,⟨rF⟩,⟨rF⟩,⟨rF⟩,⟨rF⟩,⟨c11⟩,⟨c11⟩,⟨c11⟩]++w26) (by kernel_rfl)
       rw[if_neg c9] at h;replace c9:=eqf c9
       obtain rfl:=osi h
       exact Tri.of (x:=X8) aF oN (u21++[dt,dt,.opt none,dt,dt,df,df,df,df,df,df,df,df,df,df,df,df,df,df,df,df,df,df,df,df,df,df,df,df,df,df,df,df,df]) ([⟨rF⟩,⟨rF⟩,⟨rF⟩,⟨rF⟩,⟨rF⟩,⟨rF⟩,⟨rF⟩,⟨rF⟩,⟨rF⟩,⟨rF⟩,⟨rF⟩,⟨rF⟩,⟨rF⟩,⟨rF⟩,⟨rF⟩,⟨rF⟩,⟨rF⟩,⟨rF⟩,⟨rF⟩,⟨rF⟩,⟨rF⟩,⟨rF⟩,⟨rF⟩,⟨rF⟩,⟨rF⟩,⟨rF⟩,⟨(rfl:eqI 0 2=false)⟩,⟨(rfl:eqI 0 2=false)⟩,⟨(rfl:eqI 0 2=false)⟩,⟨c8⟩,⟨c8⟩,⟨(oJ .i64 (fun y=>(bW y).headD aP) c9)⟩,⟨c8⟩,⟨c8⟩]++w22) (by kernel_rfl)
     rw[if_neg c8] at h;replace c8:=eqf c8
     obtain rfl:=osi h
     exact Tri.of (x:=X8) aF oN (u21++[df,df,df,df,df,df,df,df,df,df,df,df,df,df,df,df,df,df,df,df,df,df,df,df,df,df,df,df,df,df,df,df,df]) ([⟨rF⟩,⟨rF⟩,⟨rF⟩,⟨rF⟩,⟨rF⟩,⟨rF⟩,⟨rF⟩,⟨rF⟩,⟨rF⟩,⟨rF⟩,⟨rF⟩,⟨rF⟩,⟨rF⟩,⟨rF⟩,⟨rF⟩,⟨rF⟩,⟨rF⟩,⟨rF⟩,⟨rF⟩,⟨rF⟩,⟨rF⟩,⟨rF⟩,⟨rF⟩,⟨rF⟩,⟨rF⟩,⟨rF⟩,⟨rF⟩,⟨rF⟩,⟨rF⟩,⟨c8⟩,⟨c8⟩,⟨c8⟩,⟨c8⟩]++w22) (by kernel_rfl)
  rw[if_neg c5] at h;replace c5:=eqf c5
  cases h
 | inr x2 =>
  simp only[Sum.elim_inr] at h
  obtain⟨x3,e3,h⟩:=bsm h
  obtain⟨x4,e4,h⟩:=bsm h
  by_cases c5:leI 1 aQ.length=true
  · rw[if_pos c5] at h
    let u37:List Ans:=u1++[df,A8_1,.call ⟨true,[]⟩ (.tup [(.int .i64 x3.1),(.int .i64 x3.2)]) [],.call ⟨true,[]⟩ (.tup [(.sl 2 (List.map aB x4.1)),(.int .i64 x4.2)]) [],.n aQ.length,.rows (List.map aC (List.drop 1 aQ))]
    let w38:List Prf:=[⟨(aSJ aC (l:=aQ) (n:=aQ.length) rfl 1)⟩,⟨c5⟩,⟨(aJ aC aQ)⟩,⟨(sL k aQ _ e4)⟩,⟨(sJ k aQ _ e3)⟩,⟨(iE k aQ (.inr x2) e1)⟩,⟨c0⟩]++w2
    obtain⟨x5,e6,h⟩:=bsm h
    cases x5 with
    | inl x6 =>
     simp only[Sum.elim_inl] at h
     obtain rfl:=osi h
     exact Tri.of (x:=X8) aF oN (u37++[(A8_0 x6),df,df,df,df,df,df,df,df,df,df,df,df,df,df,df,df,df,df,df,df,df,df,df,df,df,df,df,df,df,df,df,df,df,df,df,df,df]) ([⟨rF⟩,⟨rF⟩,⟨rF⟩,⟨rF⟩,⟨rF⟩,⟨rF⟩,⟨rF⟩,⟨rF⟩,⟨rF⟩,⟨rF⟩,⟨rF⟩,⟨rF⟩,⟨rF⟩,⟨rF⟩,⟨rF⟩,⟨rF⟩,⟨rF⟩,⟨rF⟩,⟨rF⟩,⟨rF⟩,⟨rF⟩,⟨rF⟩,⟨rF⟩,⟨rF⟩,⟨rF⟩,⟨rF⟩,⟨rF⟩,⟨rF⟩,⟨rF⟩,⟨rF⟩,⟨rF⟩,⟨rF⟩,⟨rF⟩,⟨(rfl:eqI 4 0=false)⟩,⟨(rfl:eqI 4 0=false)⟩,⟨(rfl:eqI 4 0=false)⟩,⟨(rfl:eqI 4 0=false)⟩,⟨(iE k (List.drop 1 aQ) (.inl x6) e6)⟩]++w38) (by kernel_rfl)
    | inr x6 =>
     simp only[Sum.elim_inr] at h
     obtain rfl:=osi h
     exact Tri.of (x:=X8) aF oN (u37++[A8_1,df,df,df,df,df,df,df,df,df,df,df,df,df,df,df,df,df,df,df,df,df,df,df,df,df,df,df,df,df,df,df,df,df,df,df,df,df]) ([⟨rF⟩,⟨rF⟩,⟨rF⟩,⟨rF⟩,⟨rF⟩,⟨rF⟩,⟨rF⟩,⟨rF⟩,⟨rF⟩,⟨rF⟩,⟨rF⟩,⟨rF⟩,⟨rF⟩,⟨rF⟩,⟨rF⟩,⟨rF⟩,⟨rF⟩,⟨rF⟩,⟨rF⟩,⟨rF⟩,⟨rF⟩,⟨rF⟩,⟨rF⟩,⟨rF⟩,⟨rF⟩,⟨rF⟩,⟨rF⟩,⟨rF⟩,⟨rF⟩,⟨rF⟩,⟨rF⟩,⟨rF⟩,⟨rF⟩,⟨(rfl:eqI 4 0=false)⟩,⟨(rfl:eqI 4 0=false)⟩,⟨(rfl:eqI 4 0=false)⟩,⟨(rfl:eqI 4 0=false)⟩,⟨(iE k (List.drop 1 aQ) (.inr x6) e6)⟩]++w38) (by kernel_rfl)
  rw[if_neg c5] at h;replace c5:=eqf c5
  cases h
end Go.Ws

namespace Go.Ws
open Go.Proofs
set_option linter.unusedSimpArgs false
set_option linter.unusedVariables false
set_option maxRecDepth 1000000
set_option maxHeartbeats 4000000
noncomputable def X10:Ctx:=⟨Try.f10,[],true⟩
noncomputable def L10_0:Code:=at_ Try.f10 [1,1,0,1,4,5]
def S10_0 (x1:Ty7) (eK:Int) (bZ:Ty7):St:=⟨mkT 18 [(3,(.ref 4 0 0 0 bZ.length .virt)),(6,(.sl 4 (List.map aC x1))),(7,(.int .i64 (nI x1.length))),(8,(.int .i64 eK))],[(.arr 4 (List.map aC bZ) 0 0 false)]⟩
def aPW (aS5:Ty7):St:=⟨mkT 18 [(3,(.ref 4 0 0 0 aS5.length .virt))],[(.arr 4 (List.map aC aS5) 0 0 false)]⟩
def O10_0 (x1:Ty7) (y:(Ty7)):GX:=.st (.exit 0) (aPW y)
theorem y4 (x1:Ty7) (y:(Ty7)):∀(k:Nat) (eK:Int) (bZ:Ty7),fV k x1 eK bZ=some y→LT Try.prog X10 L10_0 (S10_0 x1 eK bZ) (O10_0 x1 y)
 | 0,eK,bZ,h=>by cases h
 | k+1,eK,bZ,h=>by
  rw[fV] at h
  by_cases cL0:ltI eK (nI x1.length)=true
  · rw[if_pos cL0] at h
    by_cases cL1:inI eK x1.length=true
    · rw[if_pos cL1] at h
      obtain⟨gA,eL2,h⟩:=bsm h
      by_cases cL3:bC (((bZ++[gA]).length)*32)=true
      · rw[if_pos cL3] at h
        exact LT.next aF (hs:=⟨[(3,[]),(6,[]),(7,[]),(8,[])],[⟨.tmp 3,[],some 4⟩],false,[],[]⟩) (es:=none) [dt,.n x1.length,.row [(.int .i64 gA.1),(.int .i64 gA.2.1),(.int .u8 gA.2.2.1),(.int .i64 gA.2.2.2)],.rows (List.map aC [gA]),.n ((bZ++[gA]).length),.n bZ.length,dt,.rows (List.map aC (bZ++[gA])),.n ((bZ++[gA]).length),.rows (List.map aC (bZ++[gA]))] [⟨(bK aC (l:=(bZ++[gA])) (n:=((bZ++[gA]).length)) rfl)⟩,⟨(rfl:(bZ++[gA]).length=(bZ++[gA]).length)⟩,⟨(zle ((bZ++[gA]).length))⟩,⟨(hU aC bZ [gA])⟩,⟨(fO bZ.length)⟩,⟨(aJ aC bZ)⟩,⟨cL3⟩,⟨(by simp only[wl,List.length_map,List.map_nil,List.map_cons]<;>omega:bZ.length+(List.map aC [gA]).length=(bZ++[gA]).length)⟩,⟨(aV aC (l:=[gA]) (n:=1) rfl)⟩,⟨(bV aC (Nat.le_refl 1):0+1≤(List.map aC [gA]).length)⟩,⟨(aN (e:=aC) eL2 4 0 4 (by decide))⟩,⟨cL1⟩,⟨(aJ aC x1)⟩,⟨cL0⟩] (by kernel_rfl) (y4 x1 y k (aL .i64 eK 1) (bZ++[gA]) h)
      rw[if_neg cL3] at h;replace cL3:=eqf cL3
      cases h
    rw[if_neg cL1] at h;replace cL1:=eqf cL1
    cases h
  rw[if_neg cL0] at h;replace cL0:=eqf cL0
  obtain rfl:=osi h
  show LT _ _ _ _ (.st (.exit 0) (aPW bZ))
  exact LT.done aF (hs:=⟨[],[],false,[],[]⟩) (es:=(some ⟨[(3,[])],[⟨.tmp 3,[],none⟩],false,[],[]⟩)) [df] [⟨cL0⟩] (by kernel_rfl) (fun s h=>by cases h)
theorem pM (k:Nat) (x1:Ty7) (r:Ty7) (h:kL k x1=some r):Tri Try.prog 10 [(.sl 4 (List.map aC x1))] [] (.sl 4 (List.map aC r)) []:=by
 unfold kL at h
 obtain⟨x3,e0,h⟩:=bsm h
 obtain rfl:=osi h
 exact Tri.of (x:=X10) aF facts10 [.n x1.length,.norm 2 ⟨[(3,[]),(6,[]),(7,[]),(8,[])],[⟨.tmp 3,[],some 4⟩],false,[],[]⟩,.n 0,.rows (List.map aC []),.out (.st .normal (aPW x3)),.rows (List.map aC x3)] [⟨(aV aC (l:=x3) (n:=x3.length) rfl)⟩,⟨(bV aC (Nat.le_refl x3.length):0+x3.length≤(List.map aC x3).length)⟩,⟨(LT.block (y4 x1 _ k 0 [] e0))⟩,⟨(bK aC (l:=[]) (n:=0) rfl)⟩,⟨(rfl:0=0)⟩,⟨(zle 0)⟩,⟨(aJ aC x1)⟩] (by kernel_rfl)
end Go.Ws

namespace Go.Ws
open Go.Proofs
set_option linter.unusedSimpArgs false
set_option linter.unusedVariables false
set_option maxRecDepth 1000000
set_option maxHeartbeats 4000000
noncomputable def X62:Ctx:=⟨Try.f62,[],true⟩
noncomputable def L62_0:Code:=at_ Try.f62 [1,0,1,4,5]
def S62_0 (x1:aI) (x2:Ty8) (x3:Ty3) (x4:Ty7) (x5:Int) (dP:Int):St:=⟨mkT 22 [(1,(.int .i64 x5)),(2,(.hp 0 0)),(5,(.int .i64 dP))],[(.row [(.sl 2 (List.map aB x1)),(.sl 3 (List.map aA x2)),(.sl 5 (List.map aH x3)),(.sl 4 (List.map aC x4))])]⟩
def aPK:St:=⟨mkT 22 [],[]⟩
def O62_0 (x1:aI) (x2:Ty8) (x3:Ty3) (x4:Ty7) (x5:Int) (y:(Sum (Unit) (Int))):GX:=match y with
 | .inl y=>.st (.exit 0) (aPK)
 | .inr y=>.fin (.int .i64 y) []
def A62_0:Ans:=.norm 2 ⟨[(1,[]),(2,[]),(5,[])],[⟨.tmp 2,[],none⟩],false,[],[]⟩
theorem vM (x1:aI) (x2:Ty8) (x3:Ty3) (x4:Ty7) (x5:Int) (y:(Sum (Unit) (Int))):∀(k:Nat) (dP:Int),iG k x1 x2 x3 x4 x5 dP=some y→LT Try.prog X62 L62_0 (S62_0 x1 x2 x3 x4 x5 dP) (O62_0 x1 x2 x3 x4 x5 y)
 | 0,dP,h=>by cases h
 | k+1,dP,h=>by
  rw[iG] at h
  let w2:List Prf:=[⟨(aJ aH x3)⟩]
  by_cases cL0:ltI dP (nI x3.length)=true
  · rw[if_pos cL0] at h
    by_cases cL1:inI dP x3.length=true
    · rw[if_pos cL1] at h
      obtain⟨aBU,eL2,h⟩:=bsm h
      let u3:List Ans:=[.n x3.length,dt,.n x3.length,.row [(.int .i64 aBU.1)]]
      let w4:List Prf:=[⟨(aN (e:=aH) eL2 5 0 1 (by decide))⟩,⟨cL1⟩,⟨(aJ aH x3)⟩,⟨cL0⟩]++w2
      by_cases cL3:eqI aBU.1 x5=true
      · rw[if_pos cL3] at h
        obtain rfl:=osi h
        show LT _ _ _ _ (.fin (.int .i64 dP) [])
        exact LT.done aF (hs:=⟨[],[],false,[],[]⟩) (es:=none) (u3++[dt]) ([⟨cL3⟩]++w4) (by kernel_rfl) (fun s h=>by cases h)
      rw[if_neg cL3] at h;replace cL3:=eqf cL3
      exact LT.next aF (hs:=⟨[(1,[]),(2,[]),(5,[])],[⟨.tmp 2,[],none⟩],false,[],[]⟩) (es:=none) (u3++[df]) ([⟨cL3⟩]++w4) (by kernel_rfl) (vM x1 x2 x3 x4 x5 y k (aL .i64 dP 1) h)
    rw[if_neg cL1] at h;replace cL1:=eqf cL1
    cases h
  rw[if_neg cL0] at h;replace cL0:=eqf cL0
  obtain rfl:=osi h
  show LT _ _ _ _ (.st (.exit 0) (aPK))
  exact LT.done aF (hs:=⟨[],[],false,[],[]⟩) (es:=(some ⟨[],[],false,[],[]⟩)) [.n x3.length,df] ([⟨cL0⟩]++w2) (by kernel_rfl) (fun s h=>by cases h)
theorem aM8 (k:Nat) (x1:aI) (x2:Ty8) (x3:Ty3) (x4:Ty7) (x5:Int) (r:Int) (h:vB k x1 x2 x3 x4 x5=some r):Tri Try.prog 62 [(.agg [(.sl 2 (List.map aB x1)),(.sl 3 (List.map aA x2)),(.sl 5 (List.map aH x3)),(.sl 4 (List.map aC x4))]),(.int .i64 x5)] [] (.int .i64 r) []:=by
 unfold vB at h
 obtain⟨x6,e0,h⟩:=bsm h
 cases x6 with
 | inl x7 =>
  simp only[Sum.elim_inl] at h
  obtain rfl:=osi h
  exact Tri.of (x:=X62) aF aVB [A62_0,.out (.st .normal (aPK))] [⟨(LT.block (vM x1 x2 x3 x4 x5 _ k 0 e0))⟩] (by kernel_rfl)
 | inr x7 =>
  simp only[Sum.elim_inr] at h
  obtain rfl:=osi h
  exact Tri.of (x:=X62) aF aVB [A62_0,.out (.fin (.int .i64 x7) [])] [⟨(LT.blockFin (id:=0) (vM x1 x2 x3 x4 x5 _ k 0 e0))⟩] (by kernel_rfl)
end Go.Ws

namespace Go.Ws
open Go.Proofs
set_option linter.unusedSimpArgs false
set_option linter.unusedVariables false
set_option maxRecDepth 1000000
set_option maxHeartbeats 4000000
noncomputable def X96:Ctx:=⟨Try.f96,[],true⟩
noncomputable def L96_0:Code:=at_ Try.f96 [1,0,1,4,5]
def S96_0 (x1:Int) (x2:aI) (x3:Bool) (x4:Int) (eL:Int):St:=⟨mkT 58 [(1,(.hp 0 0)),(3,(.int .i64 eL))],[(.row [(.int .i64 x1),(.sl 2 (List.map aB x2)),(.bool x3),(.int .i64 x4)])]⟩
def aQ6 (x1:Int) (x2:aI) (x3:Bool) (x4:Int):St:=⟨mkT 58 [(1,(.hp 0 0))],[(.row [(.int .i64 x1),(.sl 2 (List.map aB x2)),(.bool x3),(.int .i64 x4)])]⟩
def O96_0 (x1:Int) (x2:aI) (x3:Bool) (x4:Int) (y:qG):GX:=match y with
 | .inl y=>.st (.exit 0) (aQ6 x1 x2 x3 x4)
 | .inr y=>.fin (.bool y) []
theorem tS (x1:Int) (x2:aI) (x3:Bool) (x4:Int) (y:qG):∀(k:Nat) (eL:Int),gK k x1 x2 x3 x4 eL=some y→LT Try.prog X96 L96_0 (S96_0 x1 x2 x3 x4 eL) (O96_0 x1 x2 x3 x4 y)
 | 0,eL,h=>by cases h
 | k+1,eL,h=>by
  rw[gK] at h
  by_cases cL0:ltI eL (nI x2.length)=true
  · rw[if_pos cL0] at h
    by_cases cL1:inI eL x2.length=true
    · rw[if_pos cL1] at h
      obtain⟨aBV,eL2,h⟩:=bsm h
      let u3:List Ans:=[.n x2.length,dt,.n x2.length,.row [(.int .u8 aBV.1)]]
      let w4:List Prf:=[⟨(aN (e:=aB) eL2 2 0 1 (by decide))⟩,⟨cL1⟩,⟨(aJ aB x2)⟩,⟨cL0⟩,⟨(aJ aB x2)⟩]
      by_cases cL3:ltI aBV.1 64=true
      · rw[if_pos cL3] at h
        exact LT.next aF (hs:=⟨[(1,[]),(3,[])],[⟨.tmp 1,[],none⟩],false,[],[]⟩) (es:=none) (u3++[df]) ([⟨(nF cL3)⟩]++w4) (by kernel_rfl) (tS x1 x2 x3 x4 y k (aL .i64 eL 1) h)
      rw[if_neg cL3] at h;replace cL3:=eqf cL3
      obtain rfl:=osi h
      show LT _ _ _ _ (.fin (.bool false) [])
      exact LT.done aF (hs:=⟨[],[],false,[],[]⟩) (es:=none) (u3++[dt]) ([⟨(nT cL3)⟩]++w4) (by kernel_rfl) (fun s h=>by cases h)
    rw[if_neg cL1] at h;replace cL1:=eqf cL1
    cases h
  rw[if_neg cL0] at h;replace cL0:=eqf cL0
  obtain rfl:=osi h
  show LT _ _ _ _ (.st (.exit 0) (aQ6 x1 x2 x3 x4))
  exact LT.done aF (hs:=⟨[],[],false,[],[]⟩) (es:=(some ⟨[(1,[])],[⟨.tmp 1,[],none⟩],false,[],[]⟩)) [.n x2.length,df] [⟨cL0⟩,⟨(aJ aB x2)⟩] (by kernel_rfl) (fun s h=>by cases h)
theorem uM (k:Nat) (x1:Int) (x2:aI) (x3:Bool) (x4:Int) (r:Bool) (h:nB k x1 x2 x3 x4=some r):Tri Try.prog 96 [(.agg [(.int .i64 x1),(.sl 2 (List.map aB x2)),(.bool x3),(.int .i64 x4)])] [] (.bool r) []:=by
 unfold nB at h
 obtain⟨x5,e0,h⟩:=bsm h
 cases x5 with
 | inl x6 =>
  simp only[Sum.elim_inl] at h
  let u6:List Ans:=[.norm 2 ⟨[(1,[]),(3,[])],[⟨.tmp 1,[],none⟩],false,[],[]⟩,.out (.st .normal (aQ6 x1 x2 x3 x4))]
  let w7:List Prf:=[⟨(LT.block (tS x1 x2 x3 x4 _ k 0 e0))⟩]
  by_cases c2:ltI x1 0=true
  · rw[if_pos c2] at h
    obtain rfl:=osi h
    exact Tri.of (x:=X96) aF q8 (u6++[dt,dt,dt,dt,dt,dt,dt,dt,dt,dt]) ([⟨rT⟩,⟨rT⟩,⟨rT⟩,⟨rT⟩,⟨rT⟩,⟨rT⟩,⟨c2⟩,⟨c2⟩,⟨c2⟩,⟨c2⟩]++w7) (by kernel_rfl)
  rw[if_neg c2] at h;replace c2:=eqf c2
  by_cases c3:ltI 3 x1=true
  · rw[if_pos c3] at h
    obtain rfl:=osi h
    exact Tri.of (x:=X96) aF q8 (u6++[df,df,df,df,dt,dt,dt,dt,dt,dt]) ([⟨rT⟩,⟨c3⟩,⟨c3⟩,⟨c3⟩,⟨c3⟩,⟨c3⟩,⟨c2⟩,⟨c2⟩,⟨c2⟩,⟨c2⟩]++w7) (by kernel_rfl)
  rw[if_neg c3] at h;replace c3:=eqf c3
  let u10:List Ans:=u6++[df,df,df,df,df,df,df,.n x2.length,df,df]
  let w11:List Prf:=[⟨c3⟩,⟨c3⟩,⟨(aJ aB x2)⟩,⟨c3⟩,⟨c3⟩,⟨c3⟩,⟨c2⟩,⟨c2⟩,⟨c2⟩,⟨c2⟩]++w7
  by_cases c4:ltI 50 (nI x2.length)=true
  · rw[if_pos c4] at h
    obtain rfl:=osi h
    exact Tri.of (x:=X96) aF q8 (u10++[dt]) ([⟨c4⟩]++w11) (by kernel_rfl)
  rw[if_neg c4] at h;replace c4:=eqf c4
  by_cases c5:x3=true
  · rw[if_pos c5] at h
    by_cases c6:eqI x1 1=true
    · rw[if_pos c6] at h
      let u16:List Ans:=u10++[df,dt,dt,dt,dt,df,df,df,df,df]
      let w17:List Prf:=[⟨rF⟩,⟨(nF c6)⟩,⟨(nF c6)⟩,⟨(nF c6)⟩,⟨(nF c6)⟩,⟨c5⟩,⟨c5⟩,⟨c5⟩,⟨c5⟩,⟨c4⟩]++w11
      by_cases c7:eqI x1 3=true
      · rw[if_pos c7] at h
        by_cases c8:eqI x4 1=true
        · rw[if_pos c8] at h
          obtain rfl:=osi h
          exact Tri.of (x:=X96) aF q8 (u16++[dt,dt,dt,dt,dt]) ([⟨c8⟩,⟨c8⟩,⟨c8⟩,⟨c8⟩,⟨c7⟩]++w17) (by kernel_rfl)
        rw[if_neg c8] at h;replace c8:=eqf c8
        obtain rfl:=osi h
        exact Tri.of (x:=X96) aF q8 (u16++[dt,df,df,df,df]) ([⟨c8⟩,⟨c8⟩,⟨c8⟩,⟨c8⟩,⟨c7⟩]++w17) (by kernel_rfl)
      rw[if_neg c7] at h;replace c7:=eqf c7
      obtain rfl:=osi h
      exact Tri.of (x:=X96) aF q8 (u16++[df]) ([⟨c7⟩]++w17) (by kernel_rfl)
    rw[if_neg c6] at h;replace c6:=eqf c6
    let u20:List Ans:=u10++[df,dt,dt,dt,dt,dt,dt,dt,dt]
    let w21:List Prf:=[⟨(nT c6)⟩,⟨(nT c6)⟩,⟨(nT c6)⟩,⟨(nT c6)⟩,⟨c5⟩,⟨c5⟩,⟨c5⟩,⟨c5⟩,⟨c4⟩]++w11
    by_cases c7:eqI x1 3=true
    · rw[if_pos c7] at h
      by_cases c8:eqI x4 1=true
      · rw[if_pos c8] at h
        obtain rfl:=osi h
        exact Tri.of (x:=X96) aF q8 (u20++[df,dt,dt,dt,dt,dt]) ([⟨c8⟩,⟨c8⟩,⟨c8⟩,⟨c8⟩,⟨c7⟩,⟨(nF c7)⟩]++w21) (by kernel_rfl)
      rw[if_neg c8] at h;replace c8:=eqf c8
      obtain rfl:=osi h
      exact Tri.of (x:=X96) aF q8 (u20++[df,dt,df,df,df,df]) ([⟨c8⟩,⟨c8⟩,⟨c8⟩,⟨c8⟩,⟨c7⟩,⟨(nF c7)⟩]++w21) (by kernel_rfl)
    rw[if_neg c7] at h;replace c7:=eqf c7
    obtain rfl:=osi h
    exact Tri.of (x:=X96) aF q8 (u20++[dt]) ([⟨(nT c7)⟩]++w21) (by kernel_rfl)
  rw[if_neg c5] at h;replace c5:=eqf c5
  let u24:List Ans:=u10++[df,df,df,df,df,df,df,df,df,df]
  let w25:List Prf:=[⟨rF⟩,⟨rF⟩,⟨rF⟩,⟨rF⟩,⟨rF⟩,⟨c5⟩,⟨c5⟩,⟨c5⟩,⟨c5⟩,⟨c4⟩]++w11
  by_cases c6:eqI x1 3=true
  · rw[if_pos c6] at h
    by_cases c7:eqI x4 1=true
    · rw[if_pos c7] at h
      obtain rfl:=osi h
      exact Tri.of (x:=X96) aF q8 (u24++[dt,dt,dt,dt,dt]) ([⟨c7⟩,⟨c7⟩,⟨c7⟩,⟨c7⟩,⟨c6⟩]++w25) (by kernel_rfl)
    rw[if_neg c7] at h;replace c7:=eqf c7
    obtain rfl:=osi h
    exact Tri.of (x:=X96) aF q8 (u24++[dt,df,df,df,df]) ([⟨c7⟩,⟨c7⟩,⟨c7⟩,⟨c7⟩,⟨c6⟩]++w25) (by kernel_rfl)
  rw[if_neg c6] at h;replace c6:=eqf c6
  obtain rfl:=osi h
  exact Tri.of (x:=X96) aF q8 (u24++[df]) ([⟨c6⟩]++w25) (by kernel_rfl)
 | inr x6 =>
  simp only[Sum.elim_inr] at h
  obtain rfl:=osi h
  exact Tri.of (x:=X96) aF q8 [.norm 2 ⟨[(1,[]),(3,[])],[⟨.tmp 1,[],none⟩],false,[],[]⟩,.out (.fin (.bool x6) [])] [⟨(LT.blockFin (id:=0) (tS x1 x2 x3 x4 _ k 0 e0))⟩] (by kernel_rfl)
end Go.Ws

namespace Go.Ws
open Go.Proofs
set_option linter.unusedSimpArgs false
set_option linter.unusedVariables false
set_option maxRecDepth 1000000
set_option maxHeartbeats 4000000
noncomputable def X82:Ctx:=⟨Try.f82,[],true⟩
theorem aM7 (k:Nat) (x1:Int) (x2:aI) (x3:Bool) (x4:Int) (x5:Bool) (r:Int × aI × Bool × Int × Int) (h:uY k x1 x2 x3 x4 x5=some r):Tri Try.prog 82 [(.agg [(.int .i64 x1),(.sl 2 (List.map aB x2)),(.bool x3),(.int .i64 x4)]),(.bool x5)] [] (.tup [(.agg [(.int .i64 r.1),(.sl 2 (List.map aB r.2.1)),(.bool r.2.2.1),(.int .i64 r.2.2.2.1)]),(.int .i64 r.2.2.2.2)]) []:=by
 unfold uY at h
 obtain⟨x6,e0,h⟩:=bsm h
 let u1:List Ans:=[.call ⟨true,[]⟩ (.bool x6) []]
 let w2:List Prf:=[⟨(uM k x1 x2 x3 x4 _ e0)⟩]
 by_cases c1:x6=true
 · rw[if_pos c1] at h
   by_cases c2:eqI x1 0=true
   · rw[if_pos c2] at h
     by_cases c3:x5=true
     · rw[if_pos c3] at h
       obtain rfl:=osi h
       exact Tri.of (x:=X82) aF aKF (u1++[df,df,dt]) ([⟨c3⟩,⟨(nF c2)⟩,⟨(nF c1)⟩]++w2) (by kernel_rfl)
     rw[if_neg c3] at h;replace c3:=eqf c3
     obtain rfl:=osi h
     exact Tri.of (x:=X82) aF aKF (u1++[df,df,df]) ([⟨c3⟩,⟨(nF c2)⟩,⟨(nF c1)⟩]++w2) (by kernel_rfl)
   rw[if_neg c2] at h;replace c2:=eqf c2
   obtain rfl:=osi h
   exact Tri.of (x:=X82) aF aKF (u1++[df,dt]) ([⟨(nT c2)⟩,⟨(nF c1)⟩]++w2) (by kernel_rfl)
 rw[if_neg c1] at h;replace c1:=eqf c1
 obtain rfl:=osi h
 exact Tri.of (x:=X82) aF aKF (u1++[dt]) ([⟨(nT c1)⟩]++w2) (by kernel_rfl)
end Go.Ws

namespace Go.Ws
open Go.Proofs
set_option linter.unusedSimpArgs false
set_option linter.unusedVariables false
set_option maxRecDepth 1000000
set_option maxHeartbeats 4000000
noncomputable def X81:Ctx:=⟨Try.f81,[],true⟩
theorem pX (k:Nat) (x1:aI) (x2:Ty8) (x3:Ty3) (x4:Ty7) (x5:Int) (x6:Int) (x7:aI) (x8:Bool) (x9:Int) (r:aI × Ty8 × Ty3 × Ty7) (h:mH k x1 x2 x3 x4 x5 x6 x7 x8 x9=some r):Tri Try.prog 81 [(.agg [(.sl 2 (List.map aB x1)),(.sl 3 (List.map aA x2)),(.sl 5 (List.map aH x3)),(.sl 4 (List.map aC x4))]),(.int .i64 x5),(.agg [(.int .i64 x6),(.sl 2 (List.map aB x7)),(.bool x8),(.int .i64 x9)])] [] (.agg [(.sl 2 (List.map aB r.1)),(.sl 3 (List.map aA r.2.1)),(.sl 5 (List.map aH r.2.2.1)),(.sl 4 (List.map aC r.2.2.2))]) []:=by
 unfold mH at h
 by_cases c0:bC (x3.length*56)=true
 · rw[if_pos c0] at h
   by_cases c1:inI x5 x3.length=true
   · rw[if_pos c1] at h
     obtain⟨x10,e2,h⟩:=bsm h
     obtain rfl:=osi h
     exact Tri.of (x:=X81) aF facts81 [.n x3.length,.row [(.int .i64 x10.1)],.rows (List.map aH (List.set x3 (tN x5) (x10.1,x6,x7,x8,x9))),.rows (List.map aH (List.set x3 (tN x5) (x10.1,x6,x7,x8,x9)))] [⟨(aV aH (l:=(List.set x3 (tN x5) (x10.1,x6,x7,x8,x9))) (n:=x3.length) (by simp:x3.length=List.length (α:=Int × Int × aI × Bool × Int) (List.set x3 (tN x5) (x10.1,x6,x7,x8,x9))))⟩,⟨(bV aH (Nat.le_of_eq (by simp:x3.length=List.length (α:=Int × Int × aI × Bool × Int) (List.set x3 (tN x5) (x10.1,x6,x7,x8,x9)))))⟩,⟨(xU (e:=aH) e2 0 [(.int .i64 x10.1),(.int .i64 x6),(.sl 2 (List.map aB x7)),(.bool x8),(.int .i64 x9)] (x10.1,x6,x7,x8,x9) rfl)⟩,⟨c1⟩,⟨(aN (e:=aH) e2 5 0 1 (by decide))⟩,⟨c1⟩,⟨c0⟩,⟨(aJ aH x3)⟩] (by kernel_rfl)
   rw[if_neg c1] at h;replace c1:=eqf c1
   cases h
 rw[if_neg c0] at h;replace c0:=eqf c0
 cases h
end Go.Ws

namespace Go.Ws
open Go.Proofs
set_option linter.unusedSimpArgs false
set_option linter.unusedVariables false
set_option maxRecDepth 1000000
set_option maxHeartbeats 4000000
noncomputable def X103:Ctx:=⟨Try.f103,[],true⟩
noncomputable def L103_0:Code:=at_ Try.f103 [1,0,1,4,5]
def S103_0 (x1:aI) (bR:Int):St:=⟨mkT 42 [(0,(.sl 2 (List.map aB x1))),(3,(.int .i64 bR))],[]⟩
def aMH:St:=⟨mkT 42 [],[]⟩
def O103_0 (x1:aI) (y:qG):GX:=match y with
 | .inl y=>.st (.exit 0) (aMH)
 | .inr y=>.fin (.bool y) []
theorem qC (x1:aI) (y:qG):∀(k:Nat) (bR:Int),f4 k x1 bR=some y→LT Try.prog X103 L103_0 (S103_0 x1 bR) (O103_0 x1 y)
 | 0,bR,h=>by cases h
 | k+1,bR,h=>by
  rw[f4] at h
  by_cases cL0:ltI bR (nI x1.length)=true
  · rw[if_pos cL0] at h
    by_cases cL1:inI bR x1.length=true
    · rw[if_pos cL1] at h
      obtain⟨lH,eL2,h⟩:=bsm h
      let u3:List Ans:=[.n x1.length,dt,.n x1.length,.row [(.int .u8 lH.1)]]
      let w4:List Prf:=[⟨(aN (e:=aB) eL2 2 0 1 (by decide))⟩,⟨cL1⟩,⟨(aJ aB x1)⟩,⟨cL0⟩,⟨(aJ aB x1)⟩]
      by_cases cL3:ltI lH.1 64=true
      · rw[if_pos cL3] at h
        let u5:List Ans:=u3++[df,df,df,.n x1.length,df,df,.row [(.int .i64 lH.2)],df,df]
        let w6:List Prf:=[⟨(nF cL3)⟩,⟨(nF cL3)⟩,⟨(aN (e:=aB) eL2 2 1 1 (by decide))⟩,⟨(nF cL3)⟩,⟨(nF cL3)⟩,⟨cL1⟩,⟨(aJ aB x1)⟩,⟨(nF cL3)⟩,⟨(nF cL3)⟩,⟨(nF cL3)⟩]++w4
        by_cases cL4:eqI lH.2 0=true
        · rw[if_pos cL4] at h
          obtain rfl:=osi h
          show LT _ _ _ _ (.fin (.bool false) [])
          exact LT.done aF (hs:=⟨[],[],false,[],[]⟩) (es:=none) (u5++[dt,dt,dt,dt,dt,dt]) ([⟨rT⟩,⟨cL4⟩,⟨cL4⟩,⟨cL4⟩,⟨cL4⟩,⟨cL4⟩]++w6) (by kernel_rfl) (fun s h=>by cases h)
        rw[if_neg cL4] at h;replace cL4:=eqf cL4
        by_cases cL5:ltI 0 bR=true
        · rw[if_pos cL5] at h
          by_cases cL6:inI (qF .i64 bR 1) x1.length=true
          · rw[if_pos cL6] at h
            obtain⟨yF,eL7,h⟩:=bsm h
            let u9:List Ans:=u5++[df,df,df,dt,dt,dt,dt,.n x1.length,dt,dt,.row [(.int .u8 yF.1)],dt,dt,dt,.n x1.length,dt,dt,.row [(.int .u8 lH.1)],dt,df,dt,df]
            let w10:List Prf:=[⟨cL4⟩,⟨cL5⟩,⟨cL4⟩,⟨cL5⟩,⟨(aN (e:=aB) eL2 2 0 1 (by decide))⟩,⟨cL5⟩,⟨cL5⟩,⟨cL1⟩,⟨(aJ aB x1)⟩,⟨cL5⟩,⟨cL5⟩,⟨cL5⟩,⟨(aN (e:=aB) eL7 2 0 1 (by decide))⟩,⟨cL5⟩,⟨cL5⟩,⟨cL6⟩,⟨(aJ aB x1)⟩,⟨cL5⟩,⟨cL5⟩,⟨cL5⟩,⟨cL5⟩,⟨cL4⟩,⟨cL4⟩,⟨cL4⟩]++w6
            by_cases cL8:ltI yF.1 lH.1=true
            · rw[if_pos cL8] at h
              exact LT.next aF (hs:=⟨[(0,[]),(3,[])],[],false,[],[]⟩) (es:=none) (u9++[df]) ([⟨(nF cL8)⟩]++w10) (by kernel_rfl) (qC x1 y k (aL .i64 bR 1) h)
            rw[if_neg cL8] at h;replace cL8:=eqf cL8
            obtain rfl:=osi h
            show LT _ _ _ _ (.fin (.bool false) [])
            exact LT.done aF (hs:=⟨[],[],false,[],[]⟩) (es:=none) (u9++[dt]) ([⟨(nT cL8)⟩]++w10) (by kernel_rfl) (fun s h=>by cases h)
          rw[if_neg cL6] at h;replace cL6:=eqf cL6
          cases h
        rw[if_neg cL5] at h;replace cL5:=eqf cL5
        exact LT.next aF (hs:=⟨[(0,[]),(3,[])],[],false,[],[]⟩) (es:=none) (u5++[df,df,df,df,df,df,df,df,df,df,df,df,df,df,df,df,df,df,df]) ([⟨rF⟩,⟨cL4⟩,⟨cL5⟩,⟨cL4⟩,⟨cL5⟩,⟨cL5⟩,⟨cL5⟩,⟨cL5⟩,⟨cL5⟩,⟨cL5⟩,⟨cL5⟩,⟨cL5⟩,⟨cL5⟩,⟨cL5⟩,⟨cL5⟩,⟨cL5⟩,⟨cL4⟩,⟨cL4⟩,⟨cL4⟩]++w6) (by kernel_rfl) (qC x1 y k (aL .i64 bR 1) h)
      rw[if_neg cL3] at h;replace cL3:=eqf cL3
      obtain rfl:=osi h
      show LT _ _ _ _ (.fin (.bool false) [])
      exact LT.done aF (hs:=⟨[],[],false,[],[]⟩) (es:=none) (u3++[dt,dt,dt,dt,dt,dt,dt,dt,dt,dt,dt,dt,dt]) ([⟨rT⟩,⟨rT⟩,⟨rT⟩,⟨rT⟩,⟨rT⟩,⟨rT⟩,⟨(nT cL3)⟩,⟨(nT cL3)⟩,⟨(nT cL3)⟩,⟨(nT cL3)⟩,⟨(nT cL3)⟩,⟨(nT cL3)⟩,⟨(nT cL3)⟩]++w4) (by kernel_rfl) (fun s h=>by cases h)
    rw[if_neg cL1] at h;replace cL1:=eqf cL1
    cases h
  rw[if_neg cL0] at h;replace cL0:=eqf cL0
  obtain rfl:=osi h
  show LT _ _ _ _ (.st (.exit 0) (aMH))
  exact LT.done aF (hs:=⟨[],[],false,[],[]⟩) (es:=(some ⟨[],[],false,[],[]⟩)) [.n x1.length,df] [⟨cL0⟩,⟨(aJ aB x1)⟩] (by kernel_rfl) (fun s h=>by cases h)
theorem aDE (k:Nat) (x1:aI) (r:Bool) (h:tM k x1=some r):Tri Try.prog 103 [(.sl 2 (List.map aB x1))] [] (.bool r) []:=by
 unfold tM at h
 obtain⟨x2,e0,h⟩:=bsm h
 cases x2 with
 | inl x3 =>
  simp only[Sum.elim_inl] at h
  obtain rfl:=osi h
  exact Tri.of (x:=X103) aF aRH [.norm 2 ⟨[(0,[]),(3,[])],[],false,[],[]⟩,.out (.st .normal (aMH))] [⟨(LT.block (qC x1 _ k 0 e0))⟩] (by kernel_rfl)
 | inr x3 =>
  simp only[Sum.elim_inr] at h
  obtain rfl:=osi h
  exact Tri.of (x:=X103) aF aRH [.norm 2 ⟨[(0,[]),(3,[])],[],false,[],[]⟩,.out (.fin (.bool x3) [])] [⟨(LT.blockFin (id:=0) (qC x1 _ k 0 e0))⟩] (by kernel_rfl)
end Go.Ws

namespace Go.Ws
open Go.Proofs
set_option linter.unusedSimpArgs false
set_option linter.unusedVariables false
set_option maxRecDepth 1000000
set_option maxHeartbeats 4000000
noncomputable def X46:Ctx:=⟨Try.f46,[],true⟩
noncomputable def L46_0:Code:=at_ Try.f46 [1,1,0,1,4,5]
def S46_0 (x1:aI) (x2:Int) (eZ:Int) (dQ:Int):St:=⟨mkT 28 [(0,(.sl 2 (List.map aB x1))),(1,(.int .u8 x2)),(5,(.int .i64 eZ)),(6,(.int .i64 dQ))],[]⟩
def aQC (v46002_1:Int):St:=⟨mkT 28 [(5,(.int .i64 v46002_1))],[]⟩
def O46_0 (x1:aI) (x2:Int) (y:(Int)):GX:=.st (.exit 0) (aQC y)
theorem wY (x1:aI) (x2:Int) (y:(Int)):∀(k:Nat) (eZ:Int) (dQ:Int),iK k x1 x2 eZ dQ=some y→LT Try.prog X46 L46_0 (S46_0 x1 x2 eZ dQ) (O46_0 x1 x2 y)
 | 0,eZ,dQ,h=>by cases h
 | k+1,eZ,dQ,h=>by
  rw[iK] at h
  by_cases cL0:ltI dQ (nI x1.length)=true
  · rw[if_pos cL0] at h
    by_cases cL1:inI dQ x1.length=true
    · rw[if_pos cL1] at h
      obtain⟨sC,eL2,h⟩:=bsm h
      let u3:List Ans:=[.n x1.length,dt,.n x1.length,.row [(.int .u8 sC.1)]]
      let w4:List Prf:=[⟨(aN (e:=aB) eL2 2 0 1 (by decide))⟩,⟨cL1⟩,⟨(aJ aB x1)⟩,⟨cL0⟩,⟨(aJ aB x1)⟩]
      by_cases cL3:eqI sC.1 x2=true
      · rw[if_pos cL3] at h
        exact LT.next aF (hs:=⟨[(0,[]),(1,[]),(5,[]),(6,[])],[],false,[],[]⟩) (es:=none) (u3++[dt,.n x1.length,.row [(.int .i64 sC.2)]]) ([⟨(aN (e:=aB) eL2 2 1 1 (by decide))⟩,⟨cL1⟩,⟨(aJ aB x1)⟩,⟨cL3⟩]++w4) (by kernel_rfl) (wY x1 x2 y k (aL .i64 eZ sC.2) (aL .i64 dQ 1) h)
      rw[if_neg cL3] at h;replace cL3:=eqf cL3
      exact LT.next aF (hs:=⟨[(0,[]),(1,[]),(5,[]),(6,[])],[],false,[],[]⟩) (es:=none) (u3++[df]) ([⟨cL3⟩]++w4) (by kernel_rfl) (wY x1 x2 y k eZ (aL .i64 dQ 1) h)
    rw[if_neg cL1] at h;replace cL1:=eqf cL1
    cases h
  rw[if_neg cL0] at h;replace cL0:=eqf cL0
  obtain rfl:=osi h
  show LT _ _ _ _ (.st (.exit 0) (aQC eZ))
  exact LT.done aF (hs:=⟨[],[],false,[],[]⟩) (es:=(some ⟨[(5,[])],[],false,[],[]⟩)) [.n x1.length,df] [⟨cL0⟩,⟨(aJ aB x1)⟩] (by kernel_rfl) (fun s h=>by cases h)
theorem aQD (k:Nat) (x1:aI) (x2:Int) (r:Int) (h:xT k x1 x2=some r):Tri Try.prog 46 [(.sl 2 (List.map aB x1)),(.int .u8 x2)] [] (.int .i64 r) []:=by
 unfold xT at h
 obtain⟨x4,e0,h⟩:=bsm h
 obtain rfl:=osi h
 exact Tri.of (x:=X46) aF facts46 [.norm 2 ⟨[(0,[]),(1,[]),(5,[]),(6,[])],[],false,[],[]⟩,.out (.st .normal (aQC x4))] [⟨(LT.block (wY x1 x2 _ k 0 0 e0))⟩] (by kernel_rfl)
end Go.Ws
