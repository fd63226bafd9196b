/-
  Walks, merged.
  Conditions: none.
-/
import Derived.Test.YtipeekdnpocclaaZPre
import Derived.Test.YtipeekdnpocclaaZPure
import Derived.Test.YtipeekdnpocclaaZIns72
import Derived.Test.YtipeekdnpocclaaZDel45
import Derived.Test.YtipeekdnpocclaaZIns44
import Derived.Test.YtipeekdnpocclaaZOppI
import Derived.Test.YtipeekdnpocclaaZAgr
import Derived.Test.YtipeekdnpocclaaZB2
set_option linter.unusedVariables false
set_option linter.unusedSimpArgs false
namespace Go.Ws
open Go.Proofs
set_option linter.unusedSimpArgs false
set_option linter.unusedVariables false
set_option maxRecDepth 1000000
set_option maxHeartbeats 4000000
noncomputable def X26:Ctx:=⟨Try.f26,[],true⟩
theorem aAS:Tri Try.prog 26 [] [] (.sl 4 (List.map aB (aK))) []:=by
 obtain⟨r,h⟩:∃r,aK=r:=⟨_,rfl⟩
 try rw[h]
 unfold aK at h
 obtain rfl:=h
 exact Tri.of (x:=X26) aD facts26 [.rows (List.map aB [(1,1,0,0),(3,1,0,5),(4,1,0,1),(5,1,0,0),(6,1,0,2)])] [⟨(bJ aB (l:=[(1,1,0,0),(3,1,0,5),(4,1,0,1),(5,1,0,0),(6,1,0,2)]) (n:=5) rfl)⟩,⟨(dJ aB (Nat.le_refl 5):0+5≤(List.map aB [(1,1,0,0),(3,1,0,5),(4,1,0,1),(5,1,0,0),(6,1,0,2)]).length)⟩] (by kernel_rfl)
end Go.Ws

namespace Go.Ws
open Go.Proofs
set_option linter.unusedSimpArgs false
set_option linter.unusedVariables false
set_option maxRecDepth 1000000
set_option maxHeartbeats 4000000
noncomputable def X20:Ctx:=⟨Try.f20,[],false⟩
theorem aGN:Tri Try.prog 20 [] [] (.hp 0 0) [(.row [.nils,.nils,(.mp 1),.nils]),(.map (bK .i64 (fun y=>AV.agg (aE y)) ([]:Ty2)) ([]:Ty2).length)]:=by
 obtain⟨r,h⟩:∃r,aBC=r:=⟨_,rfl⟩
 try rw[h]
 unfold aBC at h
 obtain rfl:=h
 exact Tri.of (x:=X20) aD facts20 [.norm 0 ⟨[(0,[])],[⟨.tmp 0,[],none⟩,⟨.cell 0 2,[],none⟩],false,[],[]⟩] [] (by kernel_rfl)
end Go.Ws

namespace Go.Ws
open Go.Proofs
set_option linter.unusedSimpArgs false
set_option linter.unusedVariables false
set_option maxRecDepth 1000000
set_option maxHeartbeats 4000000
noncomputable def X67_1001:Ctx:=⟨Try.f67,[],false⟩
theorem uF (k:Nat) (x1:Ty8) (r:Unit) (h:fY k x1=some r):Tri Try.prog 67 [(.inl 3 (List.map aC x1))] [] (.ref 3 0 0 0 x1.length .virt) [(.arr 3 (List.map aC x1) 0 0 false)]:=by
 unfold fY at h
 by_cases c0:fD (x1.length*24)=true
 · rw[if_pos c0] at h
   obtain rfl:=osi h
   exact Tri.of (x:=X67_1001) aD aJU [df,.n x1.length,.norm 0 ⟨[(2,[])],[⟨.tmp 2,[],some 3⟩],false,[],[]⟩,.n x1.length,.rows (List.map aC x1)] [⟨(cM aC (l:=x1) (n:=x1.length) rfl)⟩,⟨(rfl:x1.length=x1.length)⟩,⟨(zle x1.length)⟩,⟨c0⟩,⟨(aL aC x1)⟩,⟨rF⟩] (by kernel_rfl)
 rw[if_neg c0] at h;replace c0:=eqf c0
 cases h
end Go.Ws

namespace Go.Ws
open Go.Proofs
set_option linter.unusedSimpArgs false
set_option linter.unusedVariables false
set_option maxRecDepth 1000000
set_option maxHeartbeats 4000000
noncomputable def X67_1002:Ctx:=⟨Try.f67,[],false⟩
theorem tW:Tri Try.prog 67 [.nils] [] (.ref 3 0 0 0 0 .virt) [(.arr 3 (List.map aC []) 0 0 false)]:=by
 obtain⟨r,h⟩:∃r,mO=r:=⟨_,rfl⟩
 try rw[h]
 unfold mO at h
 obtain rfl:=h
 exact Tri.of (x:=X67_1002) aD aJU [dt,.norm 0 ⟨[(2,[])],[⟨.tmp 2,[],some 3⟩],false,[],[]⟩,.n 0,.rows (List.map aC [])] [⟨(cM aC (l:=[]) (n:=0) rfl)⟩,⟨(rfl:0=0)⟩,⟨(zle 0)⟩,⟨rT⟩] (by kernel_rfl)
end Go.Ws

namespace Go.Ws
open Go.Proofs
set_option linter.unusedSimpArgs false
set_option linter.unusedVariables false
set_option maxRecDepth 1000000
set_option maxHeartbeats 4000000
theorem tF (k:Nat) (x1:Ty8) (r:Unit) (h:kC k x1=some r):Tri Try.prog 67 [(.sl 3 (List.map aC x1))] [] (.ref 3 0 0 0 x1.length .virt) [(.arr 3 (List.map aC x1) 0 0 false)]:=by
 refine Tri.slOf (uF k x1 r h) fun h0=>?_
 have hx:x1=[]:=by simpa using h0
 subst hx
 exact tW
end Go.Ws

namespace Go.Ws
open Go.Proofs
set_option linter.unusedSimpArgs false
set_option linter.unusedVariables false
set_option maxRecDepth 1000000
set_option maxHeartbeats 4000000
noncomputable def X69:Ctx:=⟨Try.f69,[],true⟩
theorem z9 (x1:Int) (x2:Int):Tri Try.prog 69 [(.int .i64 x1),(.int .u8 x2)] [] (.bool (jV x1 x2)) []:=by
 obtain⟨r,h⟩:∃r,jV x1 x2=r:=⟨_,rfl⟩
 try rw[h]
 unfold jV at h
 by_cases c0:ltI x2 64=true
 · rw[if_pos c0] at h
   by_cases c1:ltI x1 0=true
   · rw[if_pos c1] at h
     obtain rfl:=h
     exact Tri.of (x:=X69) aD aED [dt,dt,dt,df,df,df] [⟨(nF c1)⟩,⟨(nF c1)⟩,⟨(nF c1)⟩,⟨c0⟩,⟨c0⟩,⟨c0⟩] (by kernel_rfl)
   rw[if_neg c1] at h;replace c1:=eqf c1
   obtain rfl:=h
   exact Tri.of (x:=X69) aD aED [dt,dt,dt,dt,dt,dt] [⟨(nT c1)⟩,⟨(nT c1)⟩,⟨(nT c1)⟩,⟨c0⟩,⟨c0⟩,⟨c0⟩] (by kernel_rfl)
 rw[if_neg c0] at h;replace c0:=eqf c0
 obtain rfl:=h
 exact Tri.of (x:=X69) aD aED [df,df,df,df,df,df] [⟨rF⟩,⟨rF⟩,⟨rF⟩,⟨c0⟩,⟨c0⟩,⟨c0⟩] (by kernel_rfl)
end Go.Ws

namespace Go.Ws
open Go.Proofs
set_option linter.unusedSimpArgs false
set_option linter.unusedVariables false
set_option maxRecDepth 1000000
set_option maxHeartbeats 4000000
noncomputable def X65:Ctx:=⟨Try.f65,[],true⟩
theorem yT (x1:Int):Tri Try.prog 65 [(.int .u8 x1)] [] (.bool (gO x1)) []:=by
 obtain⟨r,h⟩:∃r,gO x1=r:=⟨_,rfl⟩
 try rw[h]
 unfold gO at h
 obtain rfl:=h
 exact Tri.of (x:=X65) aD facts65 [] [] (by kernel_rfl)
end Go.Ws

namespace Go.Ws
open Go.Proofs
set_option linter.unusedSimpArgs false
set_option linter.unusedVariables false
set_option maxRecDepth 1000000
set_option maxHeartbeats 4000000
noncomputable def X53:Ctx:=⟨Try.f53,[],true⟩
theorem tL (x1:Int) (x2:Int):Tri Try.prog 53 [(.int .u8 x1),(.int .u8 x2)] [] (.int .i64 (cN x1 x2)) []:=by
 obtain⟨r,h⟩:∃r,cN x1 x2=r:=⟨_,rfl⟩
 try rw[h]
 unfold cN at h
 let u1:List Ans:=[.call ⟨true,[]⟩ (.bool (gO x1)) [],.call ⟨true,[]⟩ (.bool (gO x2)) []]
 let w2:List Prf:=[⟨(yT x2)⟩,⟨(yT x1)⟩]
 by_cases c0:(gO x1)=true
 · rw[if_pos c0] at h
   by_cases c1:(gO x2)=true
   · rw[if_pos c1] at h
     obtain rfl:=h
     exact Tri.of (x:=X53) aD u6 (u1++[dt,dt]) ([⟨c1⟩,⟨c0⟩]++w2) (by kernel_rfl)
   rw[if_neg c1] at h;replace c1:=eqf c1
   obtain rfl:=h
   exact Tri.of (x:=X53) aD u6 (u1++[dt,df]) ([⟨c1⟩,⟨c0⟩]++w2) (by kernel_rfl)
 rw[if_neg c0] at h;replace c0:=eqf c0
 by_cases c1:(gO x2)=true
 · rw[if_pos c1] at h
   obtain rfl:=h
   exact Tri.of (x:=X53) aD u6 (u1++[df,dt]) ([⟨c1⟩,⟨c0⟩]++w2) (by kernel_rfl)
 rw[if_neg c1] at h;replace c1:=eqf c1
 by_cases c2:ltI x1 x2=true
 · rw[if_pos c2] at h
   obtain rfl:=h
   exact Tri.of (x:=X53) aD u6 (u1++[df,df,dt]) ([⟨c2⟩,⟨c1⟩,⟨c0⟩]++w2) (by kernel_rfl)
 rw[if_neg c2] at h;replace c2:=eqf c2
 by_cases c3:ltI x2 x1=true
 · rw[if_pos c3] at h
   obtain rfl:=h
   exact Tri.of (x:=X53) aD u6 (u1++[df,df,df,dt]) ([⟨c3⟩,⟨c2⟩,⟨c1⟩,⟨c0⟩]++w2) (by kernel_rfl)
 rw[if_neg c3] at h;replace c3:=eqf c3
 obtain rfl:=h
 exact Tri.of (x:=X53) aD u6 (u1++[df,df,df,df]) ([⟨c3⟩,⟨c2⟩,⟨c1⟩,⟨c0⟩]++w2) (by kernel_rfl)
end Go.Ws

namespace Go.Ws
open Go.Proofs
set_option linter.unusedSimpArgs false
set_option linter.unusedVariables false
set_option maxRecDepth 1000000
set_option maxHeartbeats 4000000
noncomputable def X100:Ctx:=⟨Try.f100,[],true⟩
theorem rK (x1:Int):Tri Try.prog 100 [(.int .i64 x1)] [] (.bool (eB x1)) []:=by
 obtain⟨r,h⟩:∃r,eB x1=r:=⟨_,rfl⟩
 try rw[h]
 unfold eB at h
 obtain rfl:=h
 exact Tri.of (x:=X100) aD facts100 [] [] (by kernel_rfl)
end Go.Ws

namespace Go.Ws
open Go.Proofs
set_option linter.unusedSimpArgs false
set_option linter.unusedVariables false
set_option maxRecDepth 1000000
set_option maxHeartbeats 4000000
noncomputable def X88:Ctx:=⟨Try.f88,[],true⟩
theorem xY (x1:Int) (x2:Int):Tri Try.prog 88 [(.int .i64 x1),(.int .i64 x2)] [] (.int .i64 (d6 x1 x2)) []:=by
 obtain⟨r,h⟩:∃r,d6 x1 x2=r:=⟨_,rfl⟩
 try rw[h]
 unfold d6 at h
 let u1:List Ans:=[.call ⟨true,[]⟩ (.bool (eB x1)) [],.call ⟨true,[]⟩ (.bool (eB x2)) []]
 let w2:List Prf:=[⟨(rK x2)⟩,⟨(rK x1)⟩]
 by_cases c0:(eB x1)=true
 · rw[if_pos c0] at h
   by_cases c1:(eB x2)=true
   · rw[if_pos c1] at h
     obtain rfl:=h
     exact Tri.of (x:=X88) aD uU (u1++[dt,dt]) ([⟨c1⟩,⟨c0⟩]++w2) (by kernel_rfl)
   rw[if_neg c1] at h;replace c1:=eqf c1
   obtain rfl:=h
   exact Tri.of (x:=X88) aD uU (u1++[dt,df]) ([⟨c1⟩,⟨c0⟩]++w2) (by kernel_rfl)
 rw[if_neg c0] at h;replace c0:=eqf c0
 by_cases c1:(eB x2)=true
 · rw[if_pos c1] at h
   obtain rfl:=h
   exact Tri.of (x:=X88) aD uU (u1++[df,dt]) ([⟨c1⟩,⟨c0⟩]++w2) (by kernel_rfl)
 rw[if_neg c1] at h;replace c1:=eqf c1
 by_cases c2:ltI x1 x2=true
 · rw[if_pos c2] at h
   obtain rfl:=h
   exact Tri.of (x:=X88) aD uU (u1++[df,df,dt]) ([⟨c2⟩,⟨c1⟩,⟨c0⟩]++w2) (by kernel_rfl)
 rw[if_neg c2] at h;replace c2:=eqf c2
 by_cases c3:ltI x2 x1=true
 · rw[if_pos c3] at h
   obtain rfl:=h
   exact Tri.of (x:=X88) aD uU (u1++[df,df,df,dt]) ([⟨c3⟩,⟨c2⟩,⟨c1⟩,⟨c0⟩]++w2) (by kernel_rfl)
 rw[if_neg c3] at h;replace c3:=eqf c3
 obtain rfl:=h
 exact Tri.of (x:=X88) aD uU (u1++[df,df,df,df]) ([⟨c3⟩,⟨c2⟩,⟨c1⟩,⟨c0⟩]++w2) (by kernel_rfl)
end Go.Ws

namespace Go.Ws
open Go.Proofs
set_option linter.unusedSimpArgs false
set_option linter.unusedVariables false
set_option maxRecDepth 1000000
set_option maxHeartbeats 4000000
noncomputable def X87:Ctx:=⟨Try.f87,[],true⟩
noncomputable def L87_0:Code:=at_ Try.f87 [1,1,0,1,4,5]
def S87_0 (x1:List Int) (dP:Int):St:=⟨mkT 18 [(3,(.int .i64 0)),(6,(.sl 1 (List.map aO x1))),(7,(.int .i64 (nI x1.length))),(8,(.int .i64 dP))],[]⟩
def aEL:St:=⟨mkT 18 [(3,(.int .i64 0))],[]⟩
def O87_0 (x1:List Int) (y:(Sum (Unit) (Int))):GX:=match y with
 | .inl y=>.st (.exit 0) (aEL)
 | .inr y=>.fin (.int .i64 y) []
theorem r7 (x1:List Int) (y:(Sum (Unit) (Int))):∀(k:Nat) (dP:Int),jK k x1 dP=some y→LT Try.prog X87 L87_0 (S87_0 x1 dP) (O87_0 x1 y)
 | 0,dP,h=>by cases h
 | k+1,dP,h=>by
  rw[jK] at h
  by_cases cL0:ltI dP (nI x1.length)=true
  · rw[if_pos cL0] at h
    by_cases cL1:inI dP x1.length=true
    · rw[if_pos cL1] at h
      obtain⟨rV,eL2,h⟩:=bsm h
      let u1:List Ans:=[dt,.n x1.length,.row [(.int .i64 rV)]]
      let w2:List Prf:=[⟨(bA (e:=aO) eL2 1 0 1 (by decide))⟩,⟨cL1⟩,⟨(aL aO x1)⟩,⟨cL0⟩]
      by_cases cL3:eqI rV 0=true
      · rw[if_pos cL3] at h
        exact LT.next aD (hs:=⟨[(3,[]),(6,[]),(7,[]),(8,[])],[],false,[],[]⟩) (es:=none) (u1++[df]) ([⟨(nF cL3)⟩]++w2) (by kernel_rfl) (r7 x1 y k (aN .i64 dP 1) h)
      rw[if_neg cL3] at h;replace cL3:=eqf cL3
      obtain rfl:=osi h
      show LT _ _ _ _ (.fin (.int .i64 rV) [])
      exact LT.done aD (hs:=⟨[],[],false,[],[]⟩) (es:=none) (u1++[dt]) ([⟨(nT cL3)⟩]++w2) (by kernel_rfl) (fun s h=>by cases h)
    rw[if_neg cL1] at h;replace cL1:=eqf cL1
    cases h
  rw[if_neg cL0] at h;replace cL0:=eqf cL0
  obtain rfl:=osi h
  show LT _ _ _ _ (.st (.exit 0) (aEL))
  exact LT.done aD (hs:=⟨[],[],false,[],[]⟩) (es:=(some ⟨[(3,[])],[],false,[],[]⟩)) [df] [⟨cL0⟩] (by kernel_rfl) (fun s h=>by cases h)
theorem aK5 (k:Nat) (x1:List Int) (r:Int) (h:z1 k x1=some r):Tri Try.prog 87 [(.sl 1 (List.map aO x1))] [] (.int .i64 r) []:=by
 unfold z1 at h
 let u3:List Ans:=[.n x1.length,.norm 2 ⟨[(3,[]),(6,[]),(7,[]),(8,[])],[],false,[],[]⟩]
 obtain⟨x2,e0,h⟩:=bsm h
 cases x2 with
 | inl x3 =>
  simp only[Sum.elim_inl] at h
  obtain rfl:=osi h
  exact Tri.of (x:=X87) aD aIS (u3++[.out (.st .normal (aEL))]) [⟨(LT.block (r7 x1 _ k 0 e0))⟩,⟨(aL aO x1)⟩] (by kernel_rfl)
 | inr x3 =>
  simp only[Sum.elim_inr] at h
  obtain rfl:=osi h
  exact Tri.of (x:=X87) aD aIS (u3++[.out (.fin (.int .i64 x3) [])]) [⟨(LT.blockFin (id:=0) (r7 x1 _ k 0 e0))⟩,⟨(aL aO x1)⟩] (by kernel_rfl)
end Go.Ws

namespace Go.Ws
open Go.Proofs
set_option linter.unusedSimpArgs false
set_option linter.unusedVariables false
set_option maxRecDepth 1000000
set_option maxHeartbeats 4000000
noncomputable def X71:Ctx:=⟨Try.f71,[],true⟩
theorem qU (k:Nat) (x1:Int) (x2:Int) (x3:Bool) (x4:Int) (x5:Int) (x6:Bool) (r:Int) (h:jU k x1 x2 x3 x4 x5 x6=some r):Tri Try.prog 71 [(.agg [(.int .u8 x1),(.int .i64 x2),(.bool x3)]),(.agg [(.int .u8 x4),(.int .i64 x5),(.bool x6)])] [] (.int .i64 r) []:=by
 unfold jU at h
 obtain⟨x7,e0,h⟩:=bsm h
 obtain rfl:=osi h
 exact Tri.of (x:=X71) aD facts71 [.call ⟨true,[]⟩ (.int .i64 (cN x1 x4)) [],.call ⟨true,[]⟩ (.int .i64 (d6 x2 x5)) [],.call ⟨true,[]⟩ (.int .i64 x7) [],.rows (List.map aO [(cN x1 x4),(d6 x2 x5)])] [⟨(aK5 k [(cN x1 x4),(d6 x2 x5)] _ e0)⟩,⟨(bJ aO (l:=[(cN x1 x4),(d6 x2 x5)]) (n:=2) rfl)⟩,⟨(dJ aO (Nat.le_refl 2):0+2≤(List.map aO [(cN x1 x4),(d6 x2 x5)]).length)⟩,⟨(xY x2 x5)⟩,⟨(tL x1 x4)⟩] (by kernel_rfl)
end Go.Ws

namespace Go.Ws
open Go.Proofs
set_option linter.unusedSimpArgs false
set_option linter.unusedVariables false
set_option maxRecDepth 1000000
set_option maxHeartbeats 4000000
noncomputable def X68:Ctx:=⟨Try.f68,[],true⟩
noncomputable def L68_0:Code:=at_ Try.f68 [1,0,1,4,5]
def S68_0 (x1:Ty8) (bX:Int):St:=⟨mkT 46 [(0,(.sl 3 (List.map aC x1))),(6,(.sl 3 (List.map aC x1))),(7,(.int .i64 (nI x1.length))),(8,(.int .i64 bX))],[]⟩
def aEB:St:=⟨mkT 46 [],[]⟩
def O68_0 (x1:Ty8) (y:aAI):GX:=match y with
 | .inl y=>.st (.exit 0) (aEB)
 | .inr y=>.fin (.bool y) []
theorem iC (x1:Ty8) (y:aAI):∀(k:Nat) (bX:Int),eA k x1 bX=some y→LT Try.prog X68 L68_0 (S68_0 x1 bX) (O68_0 x1 y)
 | 0,bX,h=>by cases h
 | k+1,bX,h=>by
  rw[eA] at h
  by_cases cL0:ltI bX (nI x1.length)=true
  · rw[if_pos cL0] at h
    by_cases cL1:inI bX x1.length=true
    · rw[if_pos cL1] at h
      obtain⟨eG,eL2,h⟩:=bsm h
      let u1:List Ans:=[dt,.n x1.length,.row [(.int .u8 eG.1),(.int .i64 eG.2.1),(.bool eG.2.2)],.call ⟨true,[]⟩ (.bool (jV eG.2.1 eG.1)) []]
      let w2:List Prf:=[⟨(z9 eG.2.1 eG.1)⟩,⟨(bA (e:=aC) eL2 3 0 3 (by decide))⟩,⟨cL1⟩,⟨(aL aC x1)⟩,⟨cL0⟩]
      by_cases cL3:(jV eG.2.1 eG.1)=true
      · rw[if_pos cL3] at h
        by_cases cL4:eqI bX 0=true
        · rw[if_pos cL4] at h
          exact LT.next aD (hs:=⟨[(0,[]),(6,[]),(7,[]),(8,[])],[],false,[],[]⟩) (es:=none) (u1++[df,dt]) ([⟨cL4⟩,⟨(nF cL3)⟩]++w2) (by kernel_rfl) (iC x1 y k (aN .i64 bX 1) h)
        rw[if_neg cL4] at h;replace cL4:=eqf cL4
        by_cases cL5:inI (isub .i64 bX 1) x1.length=true
        · rw[if_pos cL5] at h
          obtain⟨gV,eL6,h⟩:=bsm h
          obtain⟨yY,eL7,h⟩:=bsm h
          let u5:List Ans:=u1++[df,df,.n x1.length,.row [(.int .u8 gV.1),(.int .i64 gV.2.1),(.bool gV.2.2)],.call ⟨true,[]⟩ (.int .i64 yY) []]
          let w6:List Prf:=[⟨(qU k gV.1 gV.2.1 gV.2.2 eG.1 eG.2.1 eG.2.2 _ eL7)⟩,⟨(bA (e:=aC) eL6 3 0 3 (by decide))⟩,⟨cL5⟩,⟨(aL aC x1)⟩,⟨cL4⟩,⟨(nF cL3)⟩]++w2
          by_cases cL8:ltI yY 0=true
          · rw[if_pos cL8] at h
            let w8:List Prf:=[⟨(nF cL8)⟩,⟨(nF cL8)⟩,⟨(nF cL8)⟩,⟨(nF cL8)⟩,⟨(nF cL8)⟩,⟨(nF cL8)⟩]++w6
            by_cases cL9:eqI gV.1 eG.1=true
            · rw[if_pos cL9] at h
              let u9:List Ans:=u5++[df,df,df,df,df,df,dt,dt,dt]
              by_cases cL10:gV.2.2=true
              · rw[if_pos cL10] at h
                obtain rfl:=osi h
                show LT _ _ _ _ (.fin (.bool false) [])
                exact LT.done aD (hs:=⟨[],[],false,[],[]⟩) (es:=none) (u9++[dt,dt,dt,dt,df,dt,df,dt]) ([⟨rT⟩,⟨(nF cL8)⟩,⟨cL9⟩,⟨(nF cL8)⟩,⟨cL10⟩,⟨cL9⟩,⟨cL10⟩,⟨cL10⟩,⟨cL9⟩,⟨cL9⟩,⟨cL9⟩]++w8) (by kernel_rfl) (fun s h=>by cases h)
              rw[if_neg cL10] at h;replace cL10:=eqf cL10
              let w12:List Prf:=[⟨(nF cL8)⟩,⟨cL9⟩,⟨(nF cL8)⟩,⟨cL10⟩,⟨cL9⟩,⟨cL10⟩,⟨cL10⟩,⟨cL9⟩,⟨cL9⟩,⟨cL9⟩]++w8
              by_cases cL11:eG.2.2=true
              · rw[if_pos cL11] at h
                obtain rfl:=osi h
                show LT _ _ _ _ (.fin (.bool false) [])
                exact LT.done aD (hs:=⟨[],[],false,[],[]⟩) (es:=none) (u9++[df,df,dt,df,df,dt,df,dt]) ([⟨cL11⟩]++w12) (by kernel_rfl) (fun s h=>by cases h)
              rw[if_neg cL11] at h;replace cL11:=eqf cL11
              exact LT.next aD (hs:=⟨[(0,[]),(6,[]),(7,[]),(8,[])],[],false,[],[]⟩) (es:=none) (u9++[df,df,dt,df,df,dt,df,df]) ([⟨cL11⟩]++w12) (by kernel_rfl) (iC x1 y k (aN .i64 bX 1) h)
            rw[if_neg cL9] at h;replace cL9:=eqf cL9
            exact LT.next aD (hs:=⟨[(0,[]),(6,[]),(7,[]),(8,[])],[],false,[],[]⟩) (es:=none) (u5++[df,df,df,df,df,df,df,df,df,df,df,df,df,df]) ([⟨rF⟩,⟨(nF cL8)⟩,⟨cL9⟩,⟨(nF cL8)⟩,⟨cL9⟩,⟨cL9⟩,⟨cL9⟩,⟨cL9⟩]++w8) (by kernel_rfl) (iC x1 y k (aN .i64 bX 1) h)
          rw[if_neg cL8] at h;replace cL8:=eqf cL8
          obtain rfl:=osi h
          show LT _ _ _ _ (.fin (.bool false) [])
          exact LT.done aD (hs:=⟨[],[],false,[],[]⟩) (es:=none) (u5++[dt,dt,dt,dt,dt,dt,dt,dt,dt]) ([⟨rT⟩,⟨(nT cL8)⟩,⟨(nT cL8)⟩,⟨(nT cL8)⟩,⟨(nT cL8)⟩,⟨(nT cL8)⟩,⟨(nT cL8)⟩,⟨(nT cL8)⟩,⟨(nT cL8)⟩]++w6) (by kernel_rfl) (fun s h=>by cases h)
        rw[if_neg cL5] at h;replace cL5:=eqf cL5
        cases h
      rw[if_neg cL3] at h;replace cL3:=eqf cL3
      obtain rfl:=osi h
      show LT _ _ _ _ (.fin (.bool false) [])
      exact LT.done aD (hs:=⟨[],[],false,[],[]⟩) (es:=none) (u1++[dt]) ([⟨(nT cL3)⟩]++w2) (by kernel_rfl) (fun s h=>by cases h)
    rw[if_neg cL1] at h;replace cL1:=eqf cL1
    cases h
  rw[if_neg cL0] at h;replace cL0:=eqf cL0
  obtain rfl:=osi h
  show LT _ _ _ _ (.st (.exit 0) (aEB))
  exact LT.done aD (hs:=⟨[],[],false,[],[]⟩) (es:=(some ⟨[],[],false,[],[]⟩)) [df] [⟨cL0⟩] (by kernel_rfl) (fun s h=>by cases h)
theorem aCU (k:Nat) (x1:Ty8) (r:Bool) (h:nJ k x1=some r):Tri Try.prog 68 [(.sl 3 (List.map aC x1))] [] (.bool r) []:=by
 unfold nJ at h
 let u13:List Ans:=[.n x1.length,.norm 2 ⟨[(0,[]),(6,[]),(7,[]),(8,[])],[],false,[],[]⟩]
 obtain⟨x2,e0,h⟩:=bsm h
 cases x2 with
 | inl x3 =>
  simp only[Sum.elim_inl] at h
  obtain rfl:=osi h
  exact Tri.of (x:=X68) aD aJX (u13++[.out (.st .normal (aEB))]) [⟨(LT.block (iC x1 _ k 0 e0))⟩,⟨(aL aC x1)⟩] (by kernel_rfl)
 | inr x3 =>
  simp only[Sum.elim_inr] at h
  obtain rfl:=osi h
  exact Tri.of (x:=X68) aD aJX (u13++[.out (.fin (.bool x3) [])]) [⟨(LT.blockFin (id:=0) (iC x1 _ k 0 e0))⟩,⟨(aL aC x1)⟩] (by kernel_rfl)
end Go.Ws

namespace Go.Ws
open Go.Proofs
set_option linter.unusedSimpArgs false
set_option linter.unusedVariables false
set_option maxRecDepth 1000000
set_option maxHeartbeats 4000000
noncomputable def X70:Ctx:=⟨Try.f70,[],true⟩
noncomputable def L70_0:Code:=at_ Try.f70 [1,1,1,0,4,5]
def S70_0 (x1:Ty8) (x2:Int) (x3:Int) (x4:Bool) (cC:Int) (cO:Int):St:=⟨mkT 49 [(0,(.sl 3 (List.map aC x1))),(2,(.fn 71 [])),(4,(.hp 0 0)),(8,(.int .i64 (nI x1.length))),(9,(.int .i64 cC)),(10,(.int .i64 cO))],[(.row [(.int .u8 x2),(.int .i64 x3),(.bool x4)])]⟩
def aE1 (x1:Ty8) (x2:Int) (x3:Int) (x4:Bool) (v70002_1:Int):St:=⟨mkT 49 [(0,(.sl 3 (List.map aC x1))),(2,(.fn 71 [])),(4,(.hp 0 0)),(8,(.int .i64 (nI x1.length))),(9,(.int .i64 v70002_1))],[(.row [(.int .u8 x2),(.int .i64 x3),(.bool x4)])]⟩
def O70_0 (x1:Ty8) (x2:Int) (x3:Int) (x4:Bool) (y:(Int)):GX:=.st (.exit 0) (aE1 x1 x2 x3 x4 y)
theorem fS (x1:Ty8) (x2:Int) (x3:Int) (x4:Bool) (y:(Int)):∀(k:Nat) (cC:Int) (cO:Int),aV k x1 x2 x3 x4 cC cO=some y→LT Try.prog X70 L70_0 (S70_0 x1 x2 x3 x4 cC cO) (O70_0 x1 x2 x3 x4 y)
 | 0,cC,cO,h=>by cases h
 | k+1,cC,cO,h=>by
  rw[aV] at h
  by_cases cL0:ltI cC cO=true
  · rw[if_pos cL0] at h
    by_cases cL1:inI (conv .i64 (tK .u64 (conv .u64 (aN .i64 cC cO)) 1)) x1.length=true
    · rw[if_pos cL1] at h
      obtain⟨k8,eL2,h⟩:=bsm h
      obtain⟨yZ,eL3,h⟩:=bsm h
      let u1:List Ans:=[dt,.n x1.length,.row [(.int .u8 k8.1),(.int .i64 k8.2.1),(.bool k8.2.2)],.call ⟨true,[]⟩ (.int .i64 yZ) []]
      let w2:List Prf:=[⟨(qU k k8.1 k8.2.1 k8.2.2 x2 x3 x4 _ eL3)⟩,⟨(bA (e:=aC) eL2 3 0 3 (by decide))⟩,⟨cL1⟩,⟨(aL aC x1)⟩,⟨cL0⟩]
      by_cases cL4:ltI yZ 0=true
      · rw[if_pos cL4] at h
        exact LT.next aD (hs:=⟨[(0,[]),(2,[]),(4,[]),(8,[]),(9,[]),(10,[])],[⟨.tmp 4,[],none⟩],false,[],[]⟩) (es:=none) (u1++[dt]) ([⟨cL4⟩]++w2) (by kernel_rfl) (fS x1 x2 x3 x4 y k (aN .i64 (conv .i64 (tK .u64 (conv .u64 (aN .i64 cC cO)) 1)) 1) cO h)
      rw[if_neg cL4] at h;replace cL4:=eqf cL4
      exact LT.next aD (hs:=⟨[(0,[]),(2,[]),(4,[]),(8,[]),(9,[]),(10,[])],[⟨.tmp 4,[],none⟩],false,[],[]⟩) (es:=none) (u1++[df]) ([⟨cL4⟩]++w2) (by kernel_rfl) (fS x1 x2 x3 x4 y k cC (conv .i64 (tK .u64 (conv .u64 (aN .i64 cC cO)) 1)) h)
    rw[if_neg cL1] at h;replace cL1:=eqf cL1
    cases h
  rw[if_neg cL0] at h;replace cL0:=eqf cL0
  obtain rfl:=osi h
  show LT _ _ _ _ (.st (.exit 0) (aE1 x1 x2 x3 x4 cC))
  exact LT.done aD (hs:=⟨[],[],false,[],[]⟩) (es:=(some ⟨[(0,[]),(2,[]),(4,[]),(8,[]),(9,[])],[⟨.tmp 4,[],none⟩],false,[],[]⟩)) [df] [⟨cL0⟩] (by kernel_rfl) (fun s h=>by cases h)
theorem pQ (k:Nat) (x1:Ty8) (x2:Int) (x3:Int) (x4:Bool) (r:Int × Bool) (h:dX k x1 x2 x3 x4=some r):Tri Try.prog 70 [(.sl 3 (List.map aC x1)),(.agg [(.int .u8 x2),(.int .i64 x3),(.bool x4)]),(.fn 71 [])] [] (.tup [(.int .i64 r.1),(.bool r.2)]) []:=by
 unfold dX at h
 obtain⟨x6,e0,h⟩:=bsm h
 let u3:List Ans:=[.n x1.length,.norm 2 ⟨[(0,[]),(2,[]),(4,[]),(8,[]),(9,[]),(10,[])],[⟨.tmp 4,[],none⟩],false,[],[]⟩,.out (.st .normal (aE1 x1 x2 x3 x4 x6))]
 let w4:List Prf:=[⟨(LT.block (fS x1 x2 x3 x4 _ k 0 (nI x1.length) e0))⟩,⟨(aL aC x1)⟩]
 by_cases c2:ltI x6 (nI x1.length)=true
 · rw[if_pos c2] at h
   by_cases c3:inI x6 x1.length=true
   · rw[if_pos c3] at h
     obtain⟨x7,e4,h⟩:=bsm h
     obtain⟨x8,e5,h⟩:=bsm h
     obtain rfl:=osi h
     exact Tri.of (x:=X70) aD aJM (u3++[dt,dt,dt,dt,.n x1.length,dt,.row [(.int .u8 x7.1),(.int .i64 x7.2.1),(.bool x7.2.2)],dt,dt,.call ⟨true,[]⟩ (.int .i64 x8) [],dt,dt]) ([⟨c2⟩,⟨c2⟩,⟨(qU k x7.1 x7.2.1 x7.2.2 x2 x3 x4 _ e5)⟩,⟨c2⟩,⟨c2⟩,⟨(bA (e:=aC) e4 3 0 3 (by decide))⟩,⟨c2⟩,⟨c3⟩,⟨(aL aC x1)⟩,⟨c2⟩,⟨c2⟩,⟨c2⟩,⟨c2⟩]++w4) (by kernel_rfl)
   rw[if_neg c3] at h;replace c3:=eqf c3
   cases h
 rw[if_neg c2] at h;replace c2:=eqf c2
 obtain rfl:=osi h
 exact Tri.of (x:=X70) aD aJM (u3++[df,df,df,df,df,df,df,df,df]) ([⟨c2⟩,⟨c2⟩,⟨c2⟩,⟨c2⟩,⟨c2⟩,⟨c2⟩,⟨c2⟩,⟨c2⟩,⟨c2⟩]++w4) (by kernel_rfl)
end Go.Ws

namespace Go.Ws
open Go.Proofs
set_option linter.unusedSimpArgs false
set_option linter.unusedVariables false
set_option maxRecDepth 1000000
set_option maxHeartbeats 4000000
theorem y8 (k:Nat) (x1:Int) (x2:Ty8) (x3:Ty8) (r:Ty8) (h:kQ k x1 x2 x3=some r):Tri Try.prog 72 [(.ref 3 0 0 0 x2.length .virt),(.int .i64 x1),(.ref 3 1 0 0 x3.length .full)] [(.arr 3 (List.map aC x2) 0 0 false),(.arr 3 (List.map aC x3) 0 0 false)] (.ref 3 0 1 0 r.length .full) [(.arr 3 (List.map aC r) 1 1 false),(.arr 3 (List.map aC x3) 0 0 false)]:=ins_ok72 _ h rfl
end Go.Ws

namespace Go.Ws
open Go.Proofs
set_option linter.unusedSimpArgs false
set_option linter.unusedVariables false
set_option maxRecDepth 1000000
set_option maxHeartbeats 4000000
noncomputable def X56:Ctx:=⟨Try.f56,[],true⟩
noncomputable def L56_0:Code:=at_ Try.f56 [1,1,1,0,1,4,5]
def S56_0 (x1:Ty8) (x2:Int) (x3:Int) (x4:Bool) (cP:Int):St:=⟨mkT 82 [(0,(.ref 3 0 0 0 x1.length .virt)),(1,(.int .i64 x2)),(2,(.int .u8 x3)),(3,(.bool x4)),(27,(.ref 3 0 0 0 x1.length .virt)),(28,(.int .i64 (nI x1.length))),(29,(.int .i64 cP))],[(.arr 3 (List.map aC x1) 0 0 false)]⟩
def aFN (x1:Ty8) (x2:Int) (x3:Int) (x4:Bool):St:=⟨mkT 82 [(0,(.ref 3 0 0 0 x1.length .virt)),(1,(.int .i64 x2)),(2,(.int .u8 x3)),(3,(.bool x4))],[(.arr 3 (List.map aC x1) 0 0 false)]⟩
def O56_0 (x1:Ty8) (x2:Int) (x3:Int) (x4:Bool) (y:(Sum (Unit) (Ty8 × Int))):GX:=match y with
 | .inl y=>.st (.exit 0) (aFN x1 x2 x3 x4)
 | .inr y=>.fin (.tup [(.sl 3 (List.map aC y.1)),(.int .i64 y.2)]) []
def A56_0:Ans:=.norm 2 ⟨[(0,[]),(1,[]),(2,[]),(3,[]),(27,[]),(28,[]),(29,[])],[⟨.tmp 0,[],none⟩],false,[],[]⟩
theorem jE (x1:Ty8) (x2:Int) (x3:Int) (x4:Bool) (y:(Sum (Unit) (Ty8 × Int))):∀(k:Nat) (cP:Int),eR k x1 x2 x3 x4 cP=some y→LT Try.prog X56 L56_0 (S56_0 x1 x2 x3 x4 cP) (O56_0 x1 x2 x3 x4 y)
 | 0,cP,h=>by cases h
 | k+1,cP,h=>by
  rw[eR] at h
  by_cases cL0:ltI cP (nI x1.length)=true
  · rw[if_pos cL0] at h
    by_cases cL1:inI cP x1.length=true
    · rw[if_pos cL1] at h
      obtain⟨iJ,eL2,h⟩:=bsm h
      let w2:List Prf:=[⟨(bA (e:=aC) eL2 3 0 3 (by decide))⟩,⟨cL1⟩,⟨cL0⟩]
      by_cases cL3:eqI iJ.1 x3=true
      · rw[if_pos cL3] at h
        let u3:List Ans:=[dt,.row [(.int .u8 iJ.1),(.int .i64 iJ.2.1),(.bool iJ.2.2)],dt,dt,dt,dt,dt]
        let w4:List Prf:=[⟨cL3⟩,⟨cL3⟩,⟨cL3⟩,⟨cL3⟩,⟨cL3⟩]++w2
        by_cases cL4:eqI iJ.2.1 x2=true
        · rw[if_pos cL4] at h
          exact LT.next aD (hs:=⟨[(0,[]),(1,[]),(2,[]),(3,[]),(27,[]),(28,[]),(29,[])],[⟨.tmp 0,[],none⟩],false,[],[]⟩) (es:=none) (u3++[df,df,df,df,df]) ([⟨rF⟩,⟨(nF cL4)⟩,⟨(nF cL4)⟩,⟨(nF cL4)⟩,⟨(nF cL4)⟩]++w4) (by kernel_rfl) (jE x1 x2 x3 x4 y k (aN .i64 cP 1) h)
        rw[if_neg cL4] at h;replace cL4:=eqf cL4
        by_cases cL5:x4=true
        · rw[if_pos cL5] at h
          obtain rfl:=osi h
          show LT _ _ _ _ (.fin (.tup [(.sl 3 (List.map aC ((x1,9).1))),(.int .i64 ((x1,9).2))]) [])
          exact LT.done aD (hs:=⟨[],[],false,[],[]⟩) (es:=none) (u3++[dt,dt,dt,dt,dt,dt,dt,dt,.rows (List.map aC x1)]) ([⟨(bJ aC (l:=x1) (n:=x1.length) rfl)⟩,⟨(dJ aC (Nat.le_refl x1.length):0+x1.length≤(List.map aC x1).length)⟩,⟨rT⟩,⟨(nT cL4)⟩,⟨cL5⟩,⟨(nT cL4)⟩,⟨cL5⟩,⟨cL5⟩,⟨(nT cL4)⟩,⟨(nT cL4)⟩]++w4) (by kernel_rfl) (fun s h=>by cases h)
        rw[if_neg cL5] at h;replace cL5:=eqf cL5
        let w8:List Prf:=[⟨(nT cL4)⟩,⟨cL5⟩,⟨(nT cL4)⟩,⟨cL5⟩,⟨cL5⟩,⟨(nT cL4)⟩,⟨(nT cL4)⟩]++w4
        by_cases cL6:iJ.2.2=true
        · rw[if_pos cL6] at h
          obtain rfl:=osi h
          show LT _ _ _ _ (.fin (.tup [(.sl 3 (List.map aC ((x1,9).1))),(.int .i64 ((x1,9).2))]) [])
          exact LT.done aD (hs:=⟨[],[],false,[],[]⟩) (es:=none) (u3++[dt,dt,df,df,dt,df,dt,dt,.rows (List.map aC x1)]) ([⟨(bJ aC (l:=x1) (n:=x1.length) rfl)⟩,⟨(dJ aC (Nat.le_refl x1.length):0+x1.length≤(List.map aC x1).length)⟩,⟨cL6⟩]++w8) (by kernel_rfl) (fun s h=>by cases h)
        rw[if_neg cL6] at h;replace cL6:=eqf cL6
        exact LT.next aD (hs:=⟨[(0,[]),(1,[]),(2,[]),(3,[]),(27,[]),(28,[]),(29,[])],[⟨.tmp 0,[],none⟩],false,[],[]⟩) (es:=none) (u3++[dt,dt,df,df,dt,df,dt,df]) ([⟨cL6⟩]++w8) (by kernel_rfl) (jE x1 x2 x3 x4 y k (aN .i64 cP 1) h)
      rw[if_neg cL3] at h;replace cL3:=eqf cL3
      exact LT.next aD (hs:=⟨[(0,[]),(1,[]),(2,[]),(3,[]),(27,[]),(28,[]),(29,[])],[⟨.tmp 0,[],none⟩],false,[],[]⟩) (es:=none) [dt,.row [(.int .u8 iJ.1),(.int .i64 iJ.2.1),(.bool iJ.2.2)],df,df,df,df,df,df,df,df,df,df] ([⟨rF⟩,⟨rF⟩,⟨rF⟩,⟨rF⟩,⟨rF⟩,⟨cL3⟩,⟨cL3⟩,⟨cL3⟩,⟨cL3⟩,⟨cL3⟩]++w2) (by kernel_rfl) (jE x1 x2 x3 x4 y k (aN .i64 cP 1) h)
    rw[if_neg cL1] at h;replace cL1:=eqf cL1
    cases h
  rw[if_neg cL0] at h;replace cL0:=eqf cL0
  obtain rfl:=osi h
  show LT _ _ _ _ (.st (.exit 0) (aFN x1 x2 x3 x4))
  exact LT.done aD (hs:=⟨[],[],false,[],[]⟩) (es:=(some ⟨[(0,[]),(1,[]),(2,[]),(3,[])],[⟨.tmp 0,[],none⟩],false,[],[]⟩)) [df] [⟨cL0⟩] (by kernel_rfl) (fun s h=>by cases h)
theorem aEQ (k:Nat) (x1:Ty8) (x2:Int) (x3:Int) (x4:Bool) (r:Ty8 × Int) (h:pD k x1 x2 x3 x4=some r):Tri Try.prog 56 [(.sl 3 (List.map aC x1)),(.int .i64 x2),(.int .u8 x3),(.bool x4)] [] (.tup [(.sl 3 (List.map aC r.1)),(.int .i64 r.2)]) []:=by
 unfold pD at h
 obtain⟨x5,e0,h⟩:=bsm h
 obtain⟨x6,e1,h⟩:=bsm h
 let u9:List Ans:=[.call ⟨true,[]⟩ (.ref 3 0 0 0 x1.length .virt) [(.arr 3 (List.map aC x1) 0 0 false)],.call ⟨true,[]⟩ (.bool x6) [],.rows (List.map aC x1)]
 let w10:List Prf:=[⟨(aCU k x1 _ e1)⟩,⟨(bJ aC (l:=x1) (n:=x1.length) rfl)⟩,⟨(dJ aC (Nat.le_refl x1.length):0+x1.length≤(List.map aC x1).length)⟩,⟨(tF k x1 _ e0)⟩]
 by_cases c2:x6=true
 · rw[if_pos c2] at h
   let u11:List Ans:=u9++[df,df,df,.call ⟨true,[]⟩ (.bool (jV x2 x3)) [],df,df]
   let w12:List Prf:=[⟨(nF c2)⟩,⟨(nF c2)⟩,⟨(z9 x2 x3)⟩,⟨(nF c2)⟩,⟨(nF c2)⟩,⟨(nF c2)⟩]++w10
   by_cases c3:(jV x2 x3)=true
   · rw[if_pos c3] at h
     obtain⟨x7,e4,h⟩:=bsm h
     cases x7 with
     | inl x8 =>
      simp only[Sum.elim_inl] at h
      obtain⟨x9,e6,h⟩:=bsm h
      let u15:List Ans:=u11++[df,A56_0,.out (.st .normal (aFN x1 x2 x3 x4)),.call ⟨true,[]⟩ (.tup [(.int .i64 x9.1),(.bool x9.2)]) [],.rows (List.map aC x1)]
      let w16:List Prf:=[⟨(pQ k x1 x3 x2 x4 _ e6)⟩,⟨(bJ aC (l:=x1) (n:=x1.length) rfl)⟩,⟨(dJ aC (Nat.le_refl x1.length):0+x1.length≤(List.map aC x1).length)⟩,⟨(LT.block (jE x1 x2 x3 x4 _ k 0 e4))⟩,⟨(nF c3)⟩]++w12
      by_cases c7:x9.2=true
      · rw[if_pos c7] at h
        by_cases c8:inI x9.1 x1.length=true
        · rw[if_pos c8] at h
          obtain⟨x10,e9,h⟩:=bsm h
          let w18:List Prf:=[⟨(bA (e:=aC) e9 3 2 1 (by decide))⟩,⟨c8⟩,⟨(nF c7)⟩]++w16
          by_cases c10:x10.2.2=true
          · rw[if_pos c10] at h
            obtain rfl:=osi h
            exact Tri.of (x:=X56) aD uS (u15++[df,.row [(.bool x10.2.2)],dt,dt,.rows (List.map aC (List.set x1 (tN x9.1) (x10.1,x10.2.1,true))),.rows (List.map aC (List.set x1 (tN x9.1) (x10.1,x10.2.1,true)))]) ([⟨(bJ aC (l:=(List.set x1 (tN x9.1) (x10.1,x10.2.1,true))) (n:=x1.length) (by simp:x1.length=List.length (α:=Int × Int × Bool) (List.set x1 (tN x9.1) (x10.1,x10.2.1,true))))⟩,⟨(dJ aC (Nat.le_of_eq (by simp:x1.length=List.length (α:=Int × Int × Bool) (List.set x1 (tN x9.1) (x10.1,x10.2.1,true)))))⟩,⟨(rP (e:=aC) e9 2 [(.bool true)] (x10.1,x10.2.1,true) rfl)⟩,⟨c8⟩,⟨c10⟩,⟨c10⟩]++w18) (by kernel_rfl)
          rw[if_neg c10] at h;replace c10:=eqf c10
          obtain rfl:=osi h
          exact Tri.of (x:=X56) aD uS (u15++[df,.row [(.bool x10.2.2)],df,df,.rows (List.map aC (List.set x1 (tN x9.1) (x10.1,x10.2.1,x4))),.rows (List.map aC (List.set x1 (tN x9.1) (x10.1,x10.2.1,x4)))]) ([⟨(bJ aC (l:=(List.set x1 (tN x9.1) (x10.1,x10.2.1,x4))) (n:=x1.length) (by simp:x1.length=List.length (α:=Int × Int × Bool) (List.set x1 (tN x9.1) (x10.1,x10.2.1,x4))))⟩,⟨(dJ aC (Nat.le_of_eq (by simp:x1.length=List.length (α:=Int × Int × Bool) (List.set x1 (tN x9.1) (x10.1,x10.2.1,x4)))))⟩,⟨(rP (e:=aC) e9 2 [(.bool x4)] (x10.1,x10.2.1,x4) rfl)⟩,⟨c8⟩,⟨c10⟩,⟨c10⟩]++w18) (by kernel_rfl)
        rw[if_neg c8] at h;replace c8:=eqf c8
        cases h
      rw[if_neg c7] at h;replace c7:=eqf c7
      obtain⟨x10,e8,h⟩:=bsm h
      obtain rfl:=osi h
      exact Tri.of (x:=X56) aD uS (u15++[dt,.call ⟨false,[]⟩ (.ref 3 0 1 0 x10.length .full) [(.arr 3 (List.map aC x10) 1 1 false),(.arr 3 (List.map aC [(x3,x2,x4)]) 0 0 false)],.rows (List.map aC x10)]) ([⟨(bJ aC (l:=x10) (n:=x10.length) rfl)⟩,⟨(dJ aC (Nat.le_refl x10.length):0+x10.length≤(List.map aC x10).length)⟩,⟨(y8 k x9.1 x1 [(x3,x2,x4)] _ e8)⟩,⟨(nT c7)⟩]++w16) (by kernel_rfl)
     | inr x8 =>
      simp only[Sum.elim_inr] at h
      obtain rfl:=osi h
      exact Tri.of (x:=X56) aD uS (u11++[df,A56_0,.out (.fin (.tup [(.sl 3 (List.map aC x8.1)),(.int .i64 x8.2)]) [])]) ([⟨(LT.blockFin (id:=0) (jE x1 x2 x3 x4 _ k 0 e4))⟩,⟨(nF c3)⟩]++w12) (by kernel_rfl)
   rw[if_neg c3] at h;replace c3:=eqf c3
   obtain rfl:=osi h
   exact Tri.of (x:=X56) aD uS (u11++[dt,.rows (List.map aC x1)]) ([⟨(bJ aC (l:=x1) (n:=x1.length) rfl)⟩,⟨(dJ aC (Nat.le_refl x1.length):0+x1.length≤(List.map aC x1).length)⟩,⟨(nT c3)⟩]++w12) (by kernel_rfl)
 rw[if_neg c2] at h;replace c2:=eqf c2
 obtain rfl:=osi h
 exact Tri.of (x:=X56) aD uS (u9++[dt,dt,dt,dt,dt,dt,.rows (List.map aC x1)]) ([⟨(bJ aC (l:=x1) (n:=x1.length) rfl)⟩,⟨(dJ aC (Nat.le_refl x1.length):0+x1.length≤(List.map aC x1).length)⟩,⟨rT⟩,⟨(nT c2)⟩,⟨(nT c2)⟩,⟨(nT c2)⟩,⟨(nT c2)⟩,⟨(nT c2)⟩]++w10) (by kernel_rfl)
end Go.Ws

namespace Go.Ws
open Go.Proofs
set_option linter.unusedSimpArgs false
set_option linter.unusedVariables false
set_option maxRecDepth 1000000
set_option maxHeartbeats 4000000
noncomputable def X36_1001:Ctx:=⟨Try.f36,[],false⟩
theorem rL (k:Nat) (x1:aG) (r:Unit) (h:eU k x1=some r):Tri Try.prog 36 [(.inl 2 (List.map aA x1))] [] (.ref 2 0 0 0 x1.length .virt) [(.arr 2 (List.map aA x1) 0 0 false)]:=by
 unfold eU at h
 by_cases c0:fD (x1.length*16)=true
 · rw[if_pos c0] at h
   obtain rfl:=osi h
   exact Tri.of (x:=X36_1001) aD aIX [df,.n x1.length,.norm 0 ⟨[(2,[])],[⟨.tmp 2,[],some 2⟩],false,[],[]⟩,.n x1.length,.rows (List.map aA x1)] [⟨(cM aA (l:=x1) (n:=x1.length) rfl)⟩,⟨(rfl:x1.length=x1.length)⟩,⟨(zle x1.length)⟩,⟨c0⟩,⟨(aL aA x1)⟩,⟨rF⟩] (by kernel_rfl)
 rw[if_neg c0] at h;replace c0:=eqf c0
 cases h
end Go.Ws

namespace Go.Ws
open Go.Proofs
set_option linter.unusedSimpArgs false
set_option linter.unusedVariables false
set_option maxRecDepth 1000000
set_option maxHeartbeats 4000000
noncomputable def X36_1002:Ctx:=⟨Try.f36,[],false⟩
theorem rD:Tri Try.prog 36 [.nils] [] (.ref 2 0 0 0 0 .virt) [(.arr 2 (List.map aA []) 0 0 false)]:=by
 obtain⟨r,h⟩:∃r,jX=r:=⟨_,rfl⟩
 try rw[h]
 unfold jX at h
 obtain rfl:=h
 exact Tri.of (x:=X36_1002) aD aIX [dt,.norm 0 ⟨[(2,[])],[⟨.tmp 2,[],some 2⟩],false,[],[]⟩,.n 0,.rows (List.map aA [])] [⟨(cM aA (l:=[]) (n:=0) rfl)⟩,⟨(rfl:0=0)⟩,⟨(zle 0)⟩,⟨rT⟩] (by kernel_rfl)
end Go.Ws

namespace Go.Ws
open Go.Proofs
set_option linter.unusedSimpArgs false
set_option linter.unusedVariables false
set_option maxRecDepth 1000000
set_option maxHeartbeats 4000000
theorem gJ (k:Nat) (x1:aG) (r:Unit) (h:eQ k x1=some r):Tri Try.prog 36 [(.sl 2 (List.map aA x1))] [] (.ref 2 0 0 0 x1.length .virt) [(.arr 2 (List.map aA x1) 0 0 false)]:=by
 refine Tri.slOf (rL k x1 r h) fun h0=>?_
 have hx:x1=[]:=by simpa using h0
 subst hx
 exact rD
end Go.Ws

namespace Go.Ws
open Go.Proofs
set_option linter.unusedSimpArgs false
set_option linter.unusedVariables false
set_option maxRecDepth 1000000
set_option maxHeartbeats 4000000
noncomputable def X73:Ctx:=⟨Try.f73,[],false⟩
theorem zP (k:Nat) (x1:Int) (x2:aG) (x3:Bool) (x4:Int) (r:Unit) (h:jH k x1 x2 x3 x4=some r):Tri Try.prog 73 [(.agg [(.int .i64 x1),(.sl 2 (List.map aA x2)),(.bool x3),(.int .i64 x4)])] [] (.agg [(.int .i64 x1),(.ref 2 0 0 0 x2.length .virt),(.bool x3),(.int .i64 x4)]) [(.arr 2 (List.map aA x2) 0 0 false)]:=by
 unfold jH at h
 obtain⟨x5,e0,h⟩:=bsm h
 obtain rfl:=osi h
 exact Tri.of (x:=X73) aD aJF [.call ⟨true,[]⟩ (.ref 2 0 0 0 x2.length .virt) [(.arr 2 (List.map aA x2) 0 0 false)],.norm 0 ⟨[(2,[])],[⟨.tmp 2,[],none⟩,⟨.cell 0 1,[],none⟩],false,[],[]⟩] [⟨(gJ k x2 _ e0)⟩] (by kernel_rfl)
end Go.Ws

namespace Go.Ws
open Go.Proofs
set_option linter.unusedSimpArgs false
set_option linter.unusedVariables false
set_option maxRecDepth 1000000
set_option maxHeartbeats 4000000
noncomputable def X75:Ctx:=⟨Try.f75,[],true⟩
theorem xN (x1:Int) (x2:Int):Tri Try.prog 75 [(.agg [(.int .u8 x1),(.int .i64 x2)])] [] (.bool (iD x1 x2)) []:=by
 obtain⟨r,h⟩:∃r,iD x1 x2=r:=⟨_,rfl⟩
 try rw[h]
 unfold iD at h
 obtain rfl:=h
 exact Tri.of (x:=X75) aD facts75 [] [] (by kernel_rfl)
end Go.Ws

namespace Go.Ws
open Go.Proofs
set_option linter.unusedSimpArgs false
set_option linter.unusedVariables false
set_option maxRecDepth 1000000
set_option maxHeartbeats 4000000
noncomputable def X50:Ctx:=⟨Try.f50,[],true⟩
noncomputable def L50_0:Code:=at_ Try.f50 [1,0,1,4,5]
def S50_0 (x1:aG) (dD:Int):St:=⟨mkT 19 [(0,(.sl 2 (List.map aA x1))),(1,(.fn 75 [])),(7,(.int .i64 (nI x1.length))),(8,(.int .i64 dD))],[]⟩
def aD9:St:=⟨mkT 19 [],[]⟩
def O50_0 (x1:aG) (y:(Sum (Unit) (Int))):GX:=match y with
 | .inl y=>.st (.exit 0) (aD9)
 | .inr y=>.fin (.int .i64 y) []
theorem iM (x1:aG) (y:(Sum (Unit) (Int))):∀(k:Nat) (dD:Int),cH k x1 dD=some y→LT Try.prog X50 L50_0 (S50_0 x1 dD) (O50_0 x1 y)
 | 0,dD,h=>by cases h
 | k+1,dD,h=>by
  rw[cH] at h
  by_cases cL0:ltI dD (nI x1.length)=true
  · rw[if_pos cL0] at h
    by_cases cL1:inI dD x1.length=true
    · rw[if_pos cL1] at h
      obtain⟨j1,eL2,h⟩:=bsm h
      let u1:List Ans:=[dt,.n x1.length,.row [(.int .u8 j1.1),(.int .i64 j1.2)],.call ⟨true,[]⟩ (.bool (iD j1.1 j1.2)) []]
      let w2:List Prf:=[⟨(xN j1.1 j1.2)⟩,⟨(bA (e:=aA) eL2 2 0 2 (by decide))⟩,⟨cL1⟩,⟨(aL aA x1)⟩,⟨cL0⟩]
      by_cases cL3:(iD j1.1 j1.2)=true
      · rw[if_pos cL3] at h
        obtain rfl:=osi h
        show LT _ _ _ _ (.fin (.int .i64 dD) [])
        exact LT.done aD (hs:=⟨[],[],false,[],[]⟩) (es:=none) (u1++[dt]) ([⟨cL3⟩]++w2) (by kernel_rfl) (fun s h=>by cases h)
      rw[if_neg cL3] at h;replace cL3:=eqf cL3
      exact LT.next aD (hs:=⟨[(0,[]),(1,[]),(7,[]),(8,[])],[],false,[],[]⟩) (es:=none) (u1++[df]) ([⟨cL3⟩]++w2) (by kernel_rfl) (iM x1 y k (aN .i64 dD 1) h)
    rw[if_neg cL1] at h;replace cL1:=eqf cL1
    cases h
  rw[if_neg cL0] at h;replace cL0:=eqf cL0
  obtain rfl:=osi h
  show LT _ _ _ _ (.st (.exit 0) (aD9))
  exact LT.done aD (hs:=⟨[],[],false,[],[]⟩) (es:=(some ⟨[],[],false,[],[]⟩)) [df] [⟨cL0⟩] (by kernel_rfl) (fun s h=>by cases h)
theorem vP (k:Nat) (x1:aG) (r:Int) (h:gB k x1=some r):Tri Try.prog 50 [(.sl 2 (List.map aA x1)),(.fn 75 [])] [] (.int .i64 r) []:=by
 unfold gB at h
 let u3:List Ans:=[.n x1.length,.norm 2 ⟨[(0,[]),(1,[]),(7,[]),(8,[])],[],false,[],[]⟩]
 obtain⟨x2,e0,h⟩:=bsm h
 cases x2 with
 | inl x3 =>
  simp only[Sum.elim_inl] at h
  obtain rfl:=osi h
  exact Tri.of (x:=X50) aD aAY (u3++[.out (.st .normal (aD9))]) [⟨(LT.block (iM x1 _ k 0 e0))⟩,⟨(aL aA x1)⟩] (by kernel_rfl)
 | inr x3 =>
  simp only[Sum.elim_inr] at h
  obtain rfl:=osi h
  exact Tri.of (x:=X50) aD aAY (u3++[.out (.fin (.int .i64 x3) [])]) [⟨(LT.blockFin (id:=0) (iM x1 _ k 0 e0))⟩,⟨(aL aA x1)⟩] (by kernel_rfl)
end Go.Ws

namespace Go.Ws
open Go.Proofs
set_option linter.unusedSimpArgs false
set_option linter.unusedVariables false
set_option maxRecDepth 1000000
set_option maxHeartbeats 4000000
noncomputable def X42:Ctx:=⟨Try.f42,[],true⟩
theorem r6 (k:Nat) (x1:aG) (r:Bool) (h:fG k x1=some r):Tri Try.prog 42 [(.sl 2 (List.map aA x1)),(.fn 75 [])] [] (.bool r) []:=by
 unfold fG at h
 obtain⟨x2,e0,h⟩:=bsm h
 obtain rfl:=osi h
 exact Tri.of (x:=X42) aD aJY [.call ⟨true,[]⟩ (.int .i64 x2) []] [⟨(vP k x1 _ e0)⟩] (by kernel_rfl)
end Go.Ws

namespace Go.Ws
open Go.Proofs
set_option linter.unusedSimpArgs false
set_option linter.unusedVariables false
set_option maxRecDepth 1000000
set_option maxHeartbeats 4000000
noncomputable def X74:Ctx:=⟨Try.f74,[],true⟩
theorem nO (k:Nat) (x1:Int) (x2:aG) (x3:Bool) (x4:Int) (r:Bool) (h:i5 k x1 x2 x3 x4=some r):Tri Try.prog 74 [(.agg [(.int .i64 x1),(.sl 2 (List.map aA x2)),(.bool x3),(.int .i64 x4)])] [] (.bool r) []:=by
 unfold i5 at h
 by_cases c0:ltI x1 0=true
 · rw[if_pos c0] at h
   obtain rfl:=osi h
   exact Tri.of (x:=X74) aD lG [dt,dt,dt,dt,dt,dt,dt,dt,dt,dt,dt,dt,dt,dt] [⟨rT⟩,⟨rT⟩,⟨rT⟩,⟨rT⟩,⟨rT⟩,⟨rT⟩,⟨rT⟩,⟨rT⟩,⟨rT⟩,⟨rT⟩,⟨c0⟩,⟨c0⟩,⟨c0⟩,⟨c0⟩] (by kernel_rfl)
 rw[if_neg c0] at h;replace c0:=eqf c0
 by_cases c1:ltI 3 x1=true
 · rw[if_pos c1] at h
   obtain rfl:=osi h
   exact Tri.of (x:=X74) aD lG [df,df,df,df,dt,dt,dt,dt,dt,dt,dt,dt,dt,dt] [⟨rT⟩,⟨rT⟩,⟨rT⟩,⟨rT⟩,⟨rT⟩,⟨c1⟩,⟨c1⟩,⟨c1⟩,⟨c1⟩,⟨c1⟩,⟨c0⟩,⟨c0⟩,⟨c0⟩,⟨c0⟩] (by kernel_rfl)
 rw[if_neg c1] at h;replace c1:=eqf c1
 let u3:List Ans:=[df,df,df,df,df,df,df,.n x2.length,df,df]
 let w4:List Prf:=[⟨c1⟩,⟨c1⟩,⟨(aL aA x2)⟩,⟨c1⟩,⟨c1⟩,⟨c1⟩,⟨c0⟩,⟨c0⟩,⟨c0⟩,⟨c0⟩]
 by_cases c2:ltI 50 (nI x2.length)=true
 · rw[if_pos c2] at h
   obtain rfl:=osi h
   exact Tri.of (x:=X74) aD lG (u3++[dt,dt,dt,dt,dt]) ([⟨rT⟩,⟨c2⟩,⟨c2⟩,⟨c2⟩,⟨c2⟩]++w4) (by kernel_rfl)
 rw[if_neg c2] at h;replace c2:=eqf c2
 obtain⟨x5,e3,h⟩:=bsm h
 let u5:List Ans:=u3++[df,df,df,.call ⟨true,[]⟩ (.bool x5) [],df]
 let w6:List Prf:=[⟨c2⟩,⟨(r6 k x2 _ e3)⟩,⟨c2⟩,⟨c2⟩,⟨c2⟩]++w4
 by_cases c4:x5=true
 · rw[if_pos c4] at h
   obtain rfl:=osi h
   exact Tri.of (x:=X74) aD lG (u5++[dt]) ([⟨c4⟩]++w6) (by kernel_rfl)
 rw[if_neg c4] at h;replace c4:=eqf c4
 by_cases c5:eqI x4 1=true
 · rw[if_pos c5] at h
   by_cases c6:eqI x1 3=true
   · rw[if_pos c6] at h
     obtain rfl:=osi h
     exact Tri.of (x:=X74) aD lG (u5++[df,dt,dt,dt,dt,dt]) ([⟨c6⟩,⟨c5⟩,⟨c5⟩,⟨c5⟩,⟨c5⟩,⟨c4⟩]++w6) (by kernel_rfl)
   rw[if_neg c6] at h;replace c6:=eqf c6
   let w12:List Prf:=[⟨c6⟩,⟨c5⟩,⟨c5⟩,⟨c5⟩,⟨c5⟩,⟨c4⟩]++w6
   by_cases c7:eqI x4 0=true
   · rw[if_pos c7] at h
     let u13:List Ans:=u5++[df,dt,dt,dt,dt,df,dt,dt,dt,dt]
     by_cases c8:x3=true
     · rw[if_pos c8] at h
       obtain rfl:=osi h
       exact Tri.of (x:=X74) aD lG (u13++[df,df,df,dt,df,dt]) ([⟨c7⟩,⟨(nF c8)⟩,⟨c7⟩,⟨(nF c8)⟩,⟨(nF c8)⟩,⟨(nF c8)⟩,⟨c7⟩,⟨c7⟩,⟨c7⟩,⟨c7⟩]++w12) (by kernel_rfl)
     rw[if_neg c8] at h;replace c8:=eqf c8
     obtain rfl:=osi h
     exact Tri.of (x:=X74) aD lG (u13++[dt,dt,dt,dt,dt,dt]) ([⟨c7⟩,⟨(nT c8)⟩,⟨c7⟩,⟨(nT c8)⟩,⟨(nT c8)⟩,⟨(nT c8)⟩,⟨c7⟩,⟨c7⟩,⟨c7⟩,⟨c7⟩]++w12) (by kernel_rfl)
   rw[if_neg c7] at h;replace c7:=eqf c7
   obtain rfl:=osi h
   exact Tri.of (x:=X74) aD lG (u5++[df,dt,dt,dt,dt,df,df,df,df,df,df,df]) ([⟨c7⟩,⟨c7⟩,⟨c7⟩,⟨c7⟩,⟨c7⟩,⟨c7⟩]++w12) (by kernel_rfl)
 rw[if_neg c5] at h;replace c5:=eqf c5
 by_cases c6:eqI x1 3=true
 · rw[if_pos c6] at h
   obtain rfl:=osi h
   exact Tri.of (x:=X74) aD lG (u5++[df,df,df,df,df,dt]) ([⟨c6⟩,⟨c5⟩,⟨c5⟩,⟨c5⟩,⟨c5⟩,⟨c4⟩]++w6) (by kernel_rfl)
 rw[if_neg c6] at h;replace c6:=eqf c6
 let w18:List Prf:=[⟨c6⟩,⟨c5⟩,⟨c5⟩,⟨c5⟩,⟨c5⟩,⟨c4⟩]++w6
 by_cases c7:eqI x4 0=true
 · rw[if_pos c7] at h
   let u19:List Ans:=u5++[df,df,df,df,df,df,dt,dt,dt,dt]
   by_cases c8:x3=true
   · rw[if_pos c8] at h
     obtain rfl:=osi h
     exact Tri.of (x:=X74) aD lG (u19++[df,df,df,dt,df,dt]) ([⟨c7⟩,⟨(nF c8)⟩,⟨c7⟩,⟨(nF c8)⟩,⟨(nF c8)⟩,⟨(nF c8)⟩,⟨c7⟩,⟨c7⟩,⟨c7⟩,⟨c7⟩]++w18) (by kernel_rfl)
   rw[if_neg c8] at h;replace c8:=eqf c8
   obtain rfl:=osi h
   exact Tri.of (x:=X74) aD lG (u19++[dt,dt,dt,dt,dt,dt]) ([⟨c7⟩,⟨(nT c8)⟩,⟨c7⟩,⟨(nT c8)⟩,⟨(nT c8)⟩,⟨(nT c8)⟩,⟨c7⟩,⟨c7⟩,⟨c7⟩,⟨c7⟩]++w18) (by kernel_rfl)
 rw[if_neg c7] at h;replace c7:=eqf c7
 obtain rfl:=osi h
 exact Tri.of (x:=X74) aD lG (u5++[df,df,df,df,df,df,df,df,df,df,df,df]) ([⟨c7⟩,⟨c7⟩,⟨c7⟩,⟨c7⟩,⟨c7⟩,⟨c7⟩]++w18) (by kernel_rfl)
end Go.Ws

namespace Go.Ws
open Go.Proofs
set_option linter.unusedSimpArgs false
set_option linter.unusedVariables false
set_option maxRecDepth 1000000
set_option maxHeartbeats 4000000
noncomputable def X57:Ctx:=⟨Try.f57,[],true⟩
theorem aF5 (k:Nat) (x1:Int) (x2:aG) (x3:Bool) (x4:Int) (x5:Int) (x6:Int) (r:Int × aG × Bool × Int × Int) (h:qW k x1 x2 x3 x4 x5 x6=some r):Tri Try.prog 57 [(.agg [(.int .i64 x1),(.sl 2 (List.map aA x2)),(.bool x3),(.int .i64 x4)]),(.agg [(.int .u8 x5),(.int .i64 x6)])] [] (.tup [(.agg [(.int .i64 r.1),(.sl 2 (List.map aA r.2.1)),(.bool r.2.2.1),(.int .i64 r.2.2.2.1)]),(.int .i64 r.2.2.2.2)]) []:=by
 unfold qW at h
 obtain⟨x7,e0,h⟩:=bsm h
 obtain⟨x8,e1,h⟩:=bsm h
 let u1:List Ans:=[.call ⟨true,[]⟩ (.agg [(.int .i64 x1),(.ref 2 0 0 0 x2.length .virt),(.bool x3),(.int .i64 x4)]) [(.arr 2 (List.map aA x2) 0 0 false)],.call ⟨true,[]⟩ (.bool x8) [],.rows (List.map aA x2)]
 let w2:List Prf:=[⟨(nO k x1 x2 x3 x4 _ e1)⟩,⟨(bJ aA (l:=x2) (n:=x2.length) rfl)⟩,⟨(dJ aA (Nat.le_refl x2.length):0+x2.length≤(List.map aA x2).length)⟩,⟨(zP k x1 x2 x3 x4 _ e0)⟩]
 by_cases c2:x8=true
 · rw[if_pos c2] at h
   let u3:List Ans:=u1++[df,df,.call ⟨true,[]⟩ (.bool (iD x5 x6)) [],df]
   let w4:List Prf:=[⟨(nF c2)⟩,⟨(xN x5 x6)⟩,⟨(nF c2)⟩,⟨(nF c2)⟩]++w2
   by_cases c3:(iD x5 x6)=true
   · rw[if_pos c3] at h
     obtain rfl:=osi h
     exact Tri.of (x:=X57) aD yM (u3++[dt,.rows (List.map aA x2)]) ([⟨(bJ aA (l:=x2) (n:=x2.length) rfl)⟩,⟨(dJ aA (Nat.le_refl x2.length):0+x2.length≤(List.map aA x2).length)⟩,⟨c3⟩]++w4) (by kernel_rfl)
   rw[if_neg c3] at h;replace c3:=eqf c3
   by_cases c4:eqI x1 0=true
   · rw[if_pos c4] at h
     by_cases c5:ltI (nI x2.length) 50=true
     · rw[if_pos c5] at h
       by_cases c6:fD (((x2++[(x5,x6)]).length)*16)=true
       · rw[if_pos c6] at h
         obtain rfl:=osi h
         exact Tri.of (x:=X57) aD yM (u3++[df,df,df,.rows (List.map aA [(x5,x6)]),.n ((x2++[(x5,x6)]).length),.n x2.length,dt,.rows (List.map aA (x2++[(x5,x6)])),.rows (List.map aA (x2++[(x5,x6)]))]) ([⟨(bJ aA (l:=(x2++[(x5,x6)])) (n:=((x2++[(x5,x6)]).length)) rfl)⟩,⟨(dJ aA (Nat.le_refl ((x2++[(x5,x6)]).length)):0+(x2++[(x5,x6)]).length≤(List.map aA (x2++[(x5,x6)])).length)⟩,⟨(sE aA x2 [(x5,x6)])⟩,⟨(rG x2.length)⟩,⟨(aL aA x2)⟩,⟨c6⟩,⟨(by simp only[wl,List.length_map,List.map_nil,List.map_cons]<;>omega:x2.length+(List.map aA [(x5,x6)]).length=(x2++[(x5,x6)]).length)⟩,⟨(bJ aA (l:=[(x5,x6)]) (n:=1) rfl)⟩,⟨(dJ aA (Nat.le_refl 1):0+1≤(List.map aA [(x5,x6)]).length)⟩,⟨(nF c5)⟩,⟨(nF c4)⟩,⟨c3⟩]++w4) (by kernel_rfl)
       rw[if_neg c6] at h;replace c6:=eqf c6
       cases h
     rw[if_neg c5] at h;replace c5:=eqf c5
     obtain rfl:=osi h
     exact Tri.of (x:=X57) aD yM (u3++[df,df,dt,.rows (List.map aA x2)]) ([⟨(bJ aA (l:=x2) (n:=x2.length) rfl)⟩,⟨(dJ aA (Nat.le_refl x2.length):0+x2.length≤(List.map aA x2).length)⟩,⟨(nT c5)⟩,⟨(nF c4)⟩,⟨c3⟩]++w4) (by kernel_rfl)
   rw[if_neg c4] at h;replace c4:=eqf c4
   obtain rfl:=osi h
   exact Tri.of (x:=X57) aD yM (u3++[df,dt,.rows (List.map aA x2)]) ([⟨(bJ aA (l:=x2) (n:=x2.length) rfl)⟩,⟨(dJ aA (Nat.le_refl x2.length):0+x2.length≤(List.map aA x2).length)⟩,⟨(nT c4)⟩,⟨c3⟩]++w4) (by kernel_rfl)
 rw[if_neg c2] at h;replace c2:=eqf c2
 obtain rfl:=osi h
 exact Tri.of (x:=X57) aD yM (u1++[dt,dt,dt,dt,.rows (List.map aA x2)]) ([⟨(bJ aA (l:=x2) (n:=x2.length) rfl)⟩,⟨(dJ aA (Nat.le_refl x2.length):0+x2.length≤(List.map aA x2).length)⟩,⟨rT⟩,⟨(nT c2)⟩,⟨(nT c2)⟩,⟨(nT c2)⟩]++w2) (by kernel_rfl)
end Go.Ws

namespace Go.Ws
open Go.Proofs
set_option linter.unusedSimpArgs false
set_option linter.unusedVariables false
set_option maxRecDepth 1000000
set_option maxHeartbeats 4000000
noncomputable def X37:Ctx:=⟨Try.f37,[],true⟩
noncomputable def L37_0:Code:=at_ Try.f37 [1,0,1,4,5]
def S37_0 (x1:aG) (x2:Int) (dQ:Int):St:=⟨mkT 20 [(1,(.int .u8 x2)),(7,(.sl 2 (List.map aA x1))),(8,(.int .i64 (nI x1.length))),(9,(.int .i64 dQ))],[]⟩
def aD1:St:=⟨mkT 20 [],[]⟩
def O37_0 (x1:aG) (x2:Int) (y:(Sum (Unit) (Int))):GX:=match y with
 | .inl y=>.st (.exit 0) (aD1)
 | .inr y=>.fin (.int .i64 y) []
theorem nK (x1:aG) (x2:Int) (y:(Sum (Unit) (Int))):∀(k:Nat) (dQ:Int),eZ k x1 x2 dQ=some y→LT Try.prog X37 L37_0 (S37_0 x1 x2 dQ) (O37_0 x1 x2 y)
 | 0,dQ,h=>by cases h
 | k+1,dQ,h=>by
  rw[eZ] at h
  by_cases cL0:ltI dQ (nI x1.length)=true
  · rw[if_pos cL0] at h
    by_cases cL1:inI dQ x1.length=true
    · rw[if_pos cL1] at h
      obtain⟨pY,eL2,h⟩:=bsm h
      let u1:List Ans:=[dt,.n x1.length,.row [(.int .u8 pY.1),(.int .i64 pY.2)]]
      let w2:List Prf:=[⟨(bA (e:=aA) eL2 2 0 2 (by decide))⟩,⟨cL1⟩,⟨(aL aA x1)⟩,⟨cL0⟩]
      by_cases cL3:eqI pY.1 x2=true
      · rw[if_pos cL3] at h
        obtain rfl:=osi h
        show LT _ _ _ _ (.fin (.int .i64 pY.2) [])
        exact LT.done aD (hs:=⟨[],[],false,[],[]⟩) (es:=none) (u1++[dt]) ([⟨cL3⟩]++w2) (by kernel_rfl) (fun s h=>by cases h)
      rw[if_neg cL3] at h;replace cL3:=eqf cL3
      exact LT.next aD (hs:=⟨[(1,[]),(7,[]),(8,[]),(9,[])],[],false,[],[]⟩) (es:=none) (u1++[df]) ([⟨cL3⟩]++w2) (by kernel_rfl) (nK x1 x2 y k (aN .i64 dQ 1) h)
    rw[if_neg cL1] at h;replace cL1:=eqf cL1
    cases h
  rw[if_neg cL0] at h;replace cL0:=eqf cL0
  obtain rfl:=osi h
  show LT _ _ _ _ (.st (.exit 0) (aD1))
  exact LT.done aD (hs:=⟨[],[],false,[],[]⟩) (es:=(some ⟨[],[],false,[],[]⟩)) [df] [⟨cL0⟩] (by kernel_rfl) (fun s h=>by cases h)
theorem aCS (k:Nat) (x1:aG) (x2:Int) (r:Int) (h:nC k x1 x2=some r):Tri Try.prog 37 [(.sl 2 (List.map aA x1)),(.int .u8 x2)] [] (.int .i64 r) []:=by
 unfold nC at h
 let u3:List Ans:=[.n x1.length,.norm 2 ⟨[(1,[]),(7,[]),(8,[]),(9,[])],[],false,[],[]⟩]
 obtain⟨x3,e0,h⟩:=bsm h
 cases x3 with
 | inl x4 =>
  simp only[Sum.elim_inl] at h
  obtain rfl:=osi h
  exact Tri.of (x:=X37) aD aIY (u3++[.out (.st .normal (aD1))]) [⟨(LT.block (nK x1 x2 _ k 0 e0))⟩,⟨(aL aA x1)⟩] (by kernel_rfl)
 | inr x4 =>
  simp only[Sum.elim_inr] at h
  obtain rfl:=osi h
  exact Tri.of (x:=X37) aD aIY (u3++[.out (.fin (.int .i64 x4) [])]) [⟨(LT.blockFin (id:=0) (nK x1 x2 _ k 0 e0))⟩,⟨(aL aA x1)⟩] (by kernel_rfl)
end Go.Ws

namespace Go.Ws
open Go.Proofs
set_option linter.unusedSimpArgs false
set_option linter.unusedVariables false
set_option maxRecDepth 1000000
set_option maxHeartbeats 4000000
noncomputable def X73_1:Ctx:=⟨Try.f73,[],true⟩
theorem lI (k:Nat) (x1:Int) (x2:aG) (x3:Bool) (x4:Int) (r:Int × aG × Bool × Int) (h:fK k x1 x2 x3 x4=some r):Tri Try.prog 73 [(.agg [(.int .i64 x1),(.sl 2 (List.map aA x2)),(.bool x3),(.int .i64 x4)])] [] (.agg [(.int .i64 r.1),(.sl 2 (List.map aA r.2.1)),(.bool r.2.2.1),(.int .i64 r.2.2.2)]) []:=by
 unfold fK at h
 obtain⟨x5,e0,h⟩:=bsm h
 obtain rfl:=osi h
 exact Tri.of (x:=X73_1) aD aJF [.call ⟨true,[]⟩ (.ref 2 0 0 0 x2.length .virt) [(.arr 2 (List.map aA x2) 0 0 false)],.rows (List.map aA x2)] [⟨(bJ aA (l:=x2) (n:=x2.length) rfl)⟩,⟨(dJ aA (Nat.le_refl x2.length):0+x2.length≤(List.map aA x2).length)⟩,⟨(gJ k x2 _ e0)⟩] (by kernel_rfl)
end Go.Ws

namespace Go.Ws
open Go.Proofs
set_option linter.unusedSimpArgs false
set_option linter.unusedVariables false
set_option maxRecDepth 1000000
set_option maxHeartbeats 4000000
noncomputable def X58:Ctx:=⟨Try.f58,[],true⟩
theorem aEW (k:Nat) (x1:Int) (x2:aG) (x3:Bool) (x4:Int) (x5:Bool) (r:Int × aG × Bool × Int × Int) (h:pA k x1 x2 x3 x4 x5=some r):Tri Try.prog 58 [(.agg [(.int .i64 x1),(.sl 2 (List.map aA x2)),(.bool x3),(.int .i64 x4)]),(.bool x5)] [] (.tup [(.agg [(.int .i64 r.1),(.sl 2 (List.map aA r.2.1)),(.bool r.2.2.1),(.int .i64 r.2.2.2.1)]),(.int .i64 r.2.2.2.2)]) []:=by
 unfold pA at h
 obtain⟨x6,e0,h⟩:=bsm h
 obtain⟨x7,e1,h⟩:=bsm h
 let u1:List Ans:=[.call ⟨true,[]⟩ (.agg [(.int .i64 x6.1),(.sl 2 (List.map aA x6.2.1)),(.bool x6.2.2.1),(.int .i64 x6.2.2.2)]) [],.call ⟨true,[]⟩ (.bool x7) []]
 let w2:List Prf:=[⟨(nO k x6.1 x6.2.1 x6.2.2.1 x6.2.2.2 _ e1)⟩,⟨(lI k x1 x2 x3 x4 _ e0)⟩]
 by_cases c2:x7=true
 · rw[if_pos c2] at h
   by_cases c3:eqI x6.1 0=true
   · rw[if_pos c3] at h
     by_cases c4:x5=true
     · rw[if_pos c4] at h
       obtain rfl:=osi h
       exact Tri.of (x:=X58) aD aA5 (u1++[df,df,dt]) ([⟨c4⟩,⟨(nF c3)⟩,⟨(nF c2)⟩]++w2) (by kernel_rfl)
     rw[if_neg c4] at h;replace c4:=eqf c4
     obtain rfl:=osi h
     exact Tri.of (x:=X58) aD aA5 (u1++[df,df,df]) ([⟨c4⟩,⟨(nF c3)⟩,⟨(nF c2)⟩]++w2) (by kernel_rfl)
   rw[if_neg c3] at h;replace c3:=eqf c3
   obtain rfl:=osi h
   exact Tri.of (x:=X58) aD aA5 (u1++[df,dt]) ([⟨(nT c3)⟩,⟨(nF c2)⟩]++w2) (by kernel_rfl)
 rw[if_neg c2] at h;replace c2:=eqf c2
 obtain rfl:=osi h
 exact Tri.of (x:=X58) aD aA5 (u1++[dt]) ([⟨(nT c2)⟩]++w2) (by kernel_rfl)
end Go.Ws

namespace Go.Ws
open Go.Proofs
set_option linter.unusedSimpArgs false
set_option linter.unusedVariables false
set_option maxRecDepth 1000000
set_option maxHeartbeats 4000000
noncomputable def X40_1001:Ctx:=⟨Try.f40,[],false⟩
theorem rM (k:Nat) (x1:aG) (r:Unit) (h:eV k x1=some r):Tri Try.prog 40 [(.inl 2 (List.map aA x1))] [] (.ref 2 0 0 0 x1.length .virt) [(.arr 2 (List.map aA x1) 0 0 false)]:=by
 unfold eV at h
 by_cases c0:fD (x1.length*16)=true
 · rw[if_pos c0] at h
   obtain rfl:=osi h
   exact Tri.of (x:=X40_1001) aD aJZ [df,.n x1.length,.norm 0 ⟨[(2,[])],[⟨.tmp 2,[],some 2⟩],false,[],[]⟩,.n x1.length,.rows (List.map aA x1)] [⟨(cM aA (l:=x1) (n:=x1.length) rfl)⟩,⟨(rfl:x1.length=x1.length)⟩,⟨(zle x1.length)⟩,⟨c0⟩,⟨(aL aA x1)⟩,⟨rF⟩] (by kernel_rfl)
 rw[if_neg c0] at h;replace c0:=eqf c0
 cases h
end Go.Ws

namespace Go.Ws
open Go.Proofs
set_option linter.unusedSimpArgs false
set_option linter.unusedVariables false
set_option maxRecDepth 1000000
set_option maxHeartbeats 4000000
noncomputable def X40_1002:Ctx:=⟨Try.f40,[],false⟩
theorem rU:Tri Try.prog 40 [.nils] [] (.ref 2 0 0 0 0 .virt) [(.arr 2 (List.map aA []) 0 0 false)]:=by
 obtain⟨r,h⟩:∃r,jS=r:=⟨_,rfl⟩
 try rw[h]
 unfold jS at h
 obtain rfl:=h
 exact Tri.of (x:=X40_1002) aD aJZ [dt,.norm 0 ⟨[(2,[])],[⟨.tmp 2,[],some 2⟩],false,[],[]⟩,.n 0,.rows (List.map aA [])] [⟨(cM aA (l:=[]) (n:=0) rfl)⟩,⟨(rfl:0=0)⟩,⟨(zle 0)⟩,⟨rT⟩] (by kernel_rfl)
end Go.Ws

namespace Go.Ws
open Go.Proofs
set_option linter.unusedSimpArgs false
set_option linter.unusedVariables false
set_option maxRecDepth 1000000
set_option maxHeartbeats 4000000
theorem wC (k:Nat) (x1:aG) (r:Unit) (h:jF k x1=some r):Tri Try.prog 40 [(.sl 2 (List.map aA x1))] [] (.ref 2 0 0 0 x1.length .virt) [(.arr 2 (List.map aA x1) 0 0 false)]:=by
 refine Tri.slOf (rM k x1 r h) fun h0=>?_
 have hx:x1=[]:=by simpa using h0
 subst hx
 exact rU
end Go.Ws

namespace Go.Ws
open Go.Proofs
set_option linter.unusedSimpArgs false
set_option linter.unusedVariables false
set_option maxRecDepth 1000000
set_option maxHeartbeats 4000000
noncomputable def X41:Ctx:=⟨Try.f41,[],true⟩
noncomputable def L41_0:Code:=at_ Try.f41 [1,0,1,4,5]
def S41_0 (x1:aG) (b5:Int):St:=⟨mkT 36 [(0,(.sl 2 (List.map aA x1))),(5,(.sl 2 (List.map aA x1))),(6,(.int .i64 (nI x1.length))),(7,(.int .i64 b5))],[]⟩
def aFG:St:=⟨mkT 36 [],[]⟩
def O41_0 (x1:aG) (y:aAI):GX:=match y with
 | .inl y=>.st (.exit 0) (aFG)
 | .inr y=>.fin (.bool y) []
theorem i7 (x1:aG) (y:aAI):∀(k:Nat) (b5:Int),dM k x1 b5=some y→LT Try.prog X41 L41_0 (S41_0 x1 b5) (O41_0 x1 y)
 | 0,b5,h=>by cases h
 | k+1,b5,h=>by
  rw[dM] at h
  by_cases cL0:ltI b5 (nI x1.length)=true
  · rw[if_pos cL0] at h
    by_cases cL1:inI b5 x1.length=true
    · rw[if_pos cL1] at h
      obtain⟨mY,eL2,h⟩:=bsm h
      let u1:List Ans:=[dt,.n x1.length,.row [(.int .u8 mY.1),(.int .i64 mY.2)]]
      let w2:List Prf:=[⟨(bA (e:=aA) eL2 2 0 2 (by decide))⟩,⟨cL1⟩,⟨(aL aA x1)⟩,⟨cL0⟩]
      by_cases cL3:ltI mY.1 64=true
      · rw[if_pos cL3] at h
        let w4:List Prf:=[⟨(nF cL3)⟩,⟨(nF cL3)⟩,⟨(nF cL3)⟩,⟨(nF cL3)⟩]++w2
        by_cases cL4:eqI mY.2 0=true
        · rw[if_pos cL4] at h
          obtain rfl:=osi h
          show LT _ _ _ _ (.fin (.bool false) [])
          exact LT.done aD (hs:=⟨[],[],false,[],[]⟩) (es:=none) (u1++[df,df,df,df,dt,dt,dt,dt,dt,dt]) ([⟨rT⟩,⟨cL4⟩,⟨cL4⟩,⟨cL4⟩,⟨cL4⟩,⟨cL4⟩]++w4) (by kernel_rfl) (fun s h=>by cases h)
        rw[if_neg cL4] at h;replace cL4:=eqf cL4
        by_cases cL5:ltI 0 b5=true
        · rw[if_pos cL5] at h
          by_cases cL6:inI (isub .i64 b5 1) x1.length=true
          · rw[if_pos cL6] at h
            obtain⟨y2,eL7,h⟩:=bsm h
            let u7:List Ans:=u1++[df,df,df,df,df,df,df,dt,dt,dt,dt,.n x1.length,dt,dt,.row [(.int .u8 y2.1)],dt,dt,dt,df,dt,df]
            let w8:List Prf:=[⟨cL4⟩,⟨cL5⟩,⟨cL4⟩,⟨cL5⟩,⟨cL5⟩,⟨cL5⟩,⟨(bA (e:=aA) eL7 2 0 1 (by decide))⟩,⟨cL5⟩,⟨cL5⟩,⟨cL6⟩,⟨(aL aA x1)⟩,⟨cL5⟩,⟨cL5⟩,⟨cL5⟩,⟨cL5⟩,⟨cL4⟩,⟨cL4⟩,⟨cL4⟩]++w4
            by_cases cL8:ltI y2.1 mY.1=true
            · rw[if_pos cL8] at h
              exact LT.next aD (hs:=⟨[(0,[]),(5,[]),(6,[]),(7,[])],[],false,[],[]⟩) (es:=none) (u7++[df]) ([⟨(nF cL8)⟩]++w8) (by kernel_rfl) (i7 x1 y k (aN .i64 b5 1) h)
            rw[if_neg cL8] at h;replace cL8:=eqf cL8
            obtain rfl:=osi h
            show LT _ _ _ _ (.fin (.bool false) [])
            exact LT.done aD (hs:=⟨[],[],false,[],[]⟩) (es:=none) (u7++[dt]) ([⟨(nT cL8)⟩]++w8) (by kernel_rfl) (fun s h=>by cases h)
          rw[if_neg cL6] at h;replace cL6:=eqf cL6
          cases h
        rw[if_neg cL5] at h;replace cL5:=eqf cL5
        exact LT.next aD (hs:=⟨[(0,[]),(5,[]),(6,[]),(7,[])],[],false,[],[]⟩) (es:=none) (u1++[df,df,df,df,df,df,df,df,df,df,df,df,df,df,df,df,df,df,df,df]) ([⟨rF⟩,⟨cL4⟩,⟨cL5⟩,⟨cL4⟩,⟨cL5⟩,⟨cL5⟩,⟨cL5⟩,⟨cL5⟩,⟨cL5⟩,⟨cL5⟩,⟨cL5⟩,⟨cL5⟩,⟨cL5⟩,⟨cL4⟩,⟨cL4⟩,⟨cL4⟩]++w4) (by kernel_rfl) (i7 x1 y k (aN .i64 b5 1) h)
      rw[if_neg cL3] at h;replace cL3:=eqf cL3
      obtain rfl:=osi h
      show LT _ _ _ _ (.fin (.bool false) [])
      exact LT.done aD (hs:=⟨[],[],false,[],[]⟩) (es:=none) (u1++[dt,dt,dt,dt,dt,dt,dt,dt,dt,dt]) ([⟨rT⟩,⟨rT⟩,⟨rT⟩,⟨rT⟩,⟨rT⟩,⟨rT⟩,⟨(nT cL3)⟩,⟨(nT cL3)⟩,⟨(nT cL3)⟩,⟨(nT cL3)⟩]++w2) (by kernel_rfl) (fun s h=>by cases h)
    rw[if_neg cL1] at h;replace cL1:=eqf cL1
    cases h
  rw[if_neg cL0] at h;replace cL0:=eqf cL0
  obtain rfl:=osi h
  show LT _ _ _ _ (.st (.exit 0) (aFG))
  exact LT.done aD (hs:=⟨[],[],false,[],[]⟩) (es:=(some ⟨[],[],false,[],[]⟩)) [df] [⟨cL0⟩] (by kernel_rfl) (fun s h=>by cases h)
theorem aAN (k:Nat) (x1:aG) (r:Bool) (h:j7 k x1=some r):Tri Try.prog 41 [(.sl 2 (List.map aA x1))] [] (.bool r) []:=by
 unfold j7 at h
 let u9:List Ans:=[.n x1.length,.norm 2 ⟨[(0,[]),(5,[]),(6,[]),(7,[])],[],false,[],[]⟩]
 obtain⟨x2,e0,h⟩:=bsm h
 cases x2 with
 | inl x3 =>
  simp only[Sum.elim_inl] at h
  obtain rfl:=osi h
  exact Tri.of (x:=X41) aD aI2 (u9++[.out (.st .normal (aFG))]) [⟨(LT.block (i7 x1 _ k 0 e0))⟩,⟨(aL aA x1)⟩] (by kernel_rfl)
 | inr x3 =>
  simp only[Sum.elim_inr] at h
  obtain rfl:=osi h
  exact Tri.of (x:=X41) aD aI2 (u9++[.out (.fin (.bool x3) [])]) [⟨(LT.blockFin (id:=0) (i7 x1 _ k 0 e0))⟩,⟨(aL aA x1)⟩] (by kernel_rfl)
end Go.Ws

namespace Go.Ws
open Go.Proofs
set_option linter.unusedSimpArgs false
set_option linter.unusedVariables false
set_option maxRecDepth 1000000
set_option maxHeartbeats 4000000
noncomputable def X39:Ctx:=⟨Try.f39,[],false⟩
theorem aAP (x1:Int) (x2:Int):Tri Try.prog 39 [(.agg [(.int .u8 x1),(.int .i64 x2)])] [] (.bool (!ltI x1 64)) []:=by
 obtain⟨r,h⟩:∃r,sB x1 x2=r:=⟨_,rfl⟩
 try rw[h]
 unfold sB at h
 obtain rfl:=h
 exact Tri.of (x:=X39) aD facts39 [.norm 0 ⟨[(2,[])],[],false,[],[]⟩] [] (by kernel_rfl)
end Go.Ws

namespace Go.Ws
open Go.Proofs
set_option linter.unusedSimpArgs false
set_option linter.unusedVariables false
set_option maxRecDepth 1000000
set_option maxHeartbeats 4000000
noncomputable def X50_1:Ctx:=⟨Try.f50,[],true⟩
noncomputable def L50_1_0:Code:=at_ Try.f50 [1,0,1,4,5]
def S50_1_0 (x1:aG) (b8:Int):St:=⟨mkT 19 [(0,(.sl 2 (List.map aA x1))),(1,(.fn 39 [])),(7,(.int .i64 (nI x1.length))),(8,(.int .i64 b8))],[]⟩
def zB:St:=⟨mkT 19 [],[]⟩
def O50_1_0 (x1:aG) (y:(Sum (Unit) (Int))):GX:=match y with
 | .inl y=>.st (.exit 0) (zB)
 | .inr y=>.fin (.int .i64 y) []
theorem g4 (x1:aG) (y:(Sum (Unit) (Int))):∀(k:Nat) (b8:Int),bZ k x1 b8=some y→LT Try.prog X50_1 L50_1_0 (S50_1_0 x1 b8) (O50_1_0 x1 y)
 | 0,b8,h=>by cases h
 | k+1,b8,h=>by
  rw[bZ] at h
  by_cases cL0:ltI b8 (nI x1.length)=true
  · rw[if_pos cL0] at h
    by_cases cL1:inI b8 x1.length=true
    · rw[if_pos cL1] at h
      obtain⟨l6,eL2,h⟩:=bsm h
      let u1:List Ans:=[dt,.n x1.length,.row [(.int .u8 l6.1),(.int .i64 l6.2)],.call ⟨false,[]⟩ (.bool (!ltI l6.1 64)) []]
      let w2:List Prf:=[⟨(aAP l6.1 l6.2)⟩,⟨(bA (e:=aA) eL2 2 0 2 (by decide))⟩,⟨cL1⟩,⟨(aL aA x1)⟩,⟨cL0⟩]
      by_cases cL3:ltI l6.1 64=true
      · rw[if_pos cL3] at h
        exact LT.next aD (hs:=⟨[(0,[]),(1,[]),(7,[]),(8,[])],[],false,[],[]⟩) (es:=none) (u1++[df]) ([⟨(nF cL3)⟩]++w2) (by kernel_rfl) (g4 x1 y k (aN .i64 b8 1) h)
      rw[if_neg cL3] at h;replace cL3:=eqf cL3
      obtain rfl:=osi h
      show LT _ _ _ _ (.fin (.int .i64 b8) [])
      exact LT.done aD (hs:=⟨[],[],false,[],[]⟩) (es:=none) (u1++[dt]) ([⟨(nT cL3)⟩]++w2) (by kernel_rfl) (fun s h=>by cases h)
    rw[if_neg cL1] at h;replace cL1:=eqf cL1
    cases h
  rw[if_neg cL0] at h;replace cL0:=eqf cL0
  obtain rfl:=osi h
  show LT _ _ _ _ (.st (.exit 0) (zB))
  exact LT.done aD (hs:=⟨[],[],false,[],[]⟩) (es:=(some ⟨[],[],false,[],[]⟩)) [df] [⟨cL0⟩] (by kernel_rfl) (fun s h=>by cases h)
theorem tH (k:Nat) (x1:aG) (r:Int) (h:fQ k x1=some r):Tri Try.prog 50 [(.sl 2 (List.map aA x1)),(.fn 39 [])] [] (.int .i64 r) []:=by
 unfold fQ at h
 let u3:List Ans:=[.n x1.length,.norm 2 ⟨[(0,[]),(1,[]),(7,[]),(8,[])],[],false,[],[]⟩]
 obtain⟨x2,e0,h⟩:=bsm h
 cases x2 with
 | inl x3 =>
  simp only[Sum.elim_inl] at h
  obtain rfl:=osi h
  exact Tri.of (x:=X50_1) aD aAY (u3++[.out (.st .normal (zB))]) [⟨(LT.block (g4 x1 _ k 0 e0))⟩,⟨(aL aA x1)⟩] (by kernel_rfl)
 | inr x3 =>
  simp only[Sum.elim_inr] at h
  obtain rfl:=osi h
  exact Tri.of (x:=X50_1) aD aAY (u3++[.out (.fin (.int .i64 x3) [])]) [⟨(LT.blockFin (id:=0) (g4 x1 _ k 0 e0))⟩,⟨(aL aA x1)⟩] (by kernel_rfl)
end Go.Ws

namespace Go.Ws
open Go.Proofs
set_option linter.unusedSimpArgs false
set_option linter.unusedVariables false
set_option maxRecDepth 1000000
set_option maxHeartbeats 4000000
noncomputable def X42_1:Ctx:=⟨Try.f42,[],true⟩
theorem qS (k:Nat) (x1:aG) (r:Bool) (h:eM k x1=some r):Tri Try.prog 42 [(.sl 2 (List.map aA x1)),(.fn 39 [])] [] (.bool r) []:=by
 unfold eM at h
 obtain⟨x2,e0,h⟩:=bsm h
 obtain rfl:=osi h
 exact Tri.of (x:=X42_1) aD aJY [.call ⟨true,[]⟩ (.int .i64 x2) []] [⟨(tH k x1 _ e0)⟩] (by kernel_rfl)
end Go.Ws

namespace Go.Ws
open Go.Proofs
set_option linter.unusedSimpArgs false
set_option linter.unusedVariables false
set_option maxRecDepth 1000000
set_option maxHeartbeats 4000000
noncomputable def X52:Ctx:=⟨Try.f52,[],false⟩
theorem q7 (x1:Int) (x2:Int) (x3:Int):Tri Try.prog 52 [(.agg [(.int .u8 x1),(.int .i64 x2)]),(.int .u8 x3)] [] (.int .i64 (cN x1 x3)) []:=by
 obtain⟨r,h⟩:∃r,qP x1 x2 x3=r:=⟨_,rfl⟩
 try rw[h]
 unfold qP at h
 obtain rfl:=h
 exact Tri.of (x:=X52) aD facts52 [.call ⟨true,[]⟩ (.int .i64 (cN x1 x3)) [],.norm 0 ⟨[(4,[])],[],false,[],[]⟩] [⟨(tL x1 x3)⟩] (by kernel_rfl)
end Go.Ws

namespace Go.Ws
open Go.Proofs
set_option linter.unusedSimpArgs false
set_option linter.unusedVariables false
set_option maxRecDepth 1000000
set_option maxHeartbeats 4000000
noncomputable def X51:Ctx:=⟨Try.f51,[],true⟩
noncomputable def L51_0:Code:=at_ Try.f51 [1,1,1,0,4,5]
def S51_0 (x1:aG) (x2:Int) (cD:Int) (cQ:Int):St:=⟨mkT 49 [(0,(.sl 2 (List.map aA x1))),(1,(.int .u8 x2)),(2,(.fn 52 [])),(8,(.int .i64 (nI x1.length))),(9,(.int .i64 cD)),(10,(.int .i64 cQ))],[]⟩
def aER (x1:aG) (x2:Int) (v51002_1:Int):St:=⟨mkT 49 [(0,(.sl 2 (List.map aA x1))),(1,(.int .u8 x2)),(2,(.fn 52 [])),(8,(.int .i64 (nI x1.length))),(9,(.int .i64 v51002_1))],[]⟩
def O51_0 (x1:aG) (x2:Int) (y:(Int)):GX:=.st (.exit 0) (aER x1 x2 y)
theorem fB (x1:aG) (x2:Int) (y:(Int)):∀(k:Nat) (cD:Int) (cQ:Int),aQ k x1 x2 cD cQ=some y→LT Try.prog X51 L51_0 (S51_0 x1 x2 cD cQ) (O51_0 x1 x2 y)
 | 0,cD,cQ,h=>by cases h
 | k+1,cD,cQ,h=>by
  rw[aQ] at h
  by_cases cL0:ltI cD cQ=true
  · rw[if_pos cL0] at h
    by_cases cL1:inI (conv .i64 (tK .u64 (conv .u64 (aN .i64 cD cQ)) 1)) x1.length=true
    · rw[if_pos cL1] at h
      obtain⟨oK,eL2,h⟩:=bsm h
      let u1:List Ans:=[dt,.n x1.length,.row [(.int .u8 oK.1),(.int .i64 oK.2)],.call ⟨false,[]⟩ (.int .i64 (cN oK.1 x2)) []]
      let w2:List Prf:=[⟨(q7 oK.1 oK.2 x2)⟩,⟨(bA (e:=aA) eL2 2 0 2 (by decide))⟩,⟨cL1⟩,⟨(aL aA x1)⟩,⟨cL0⟩]
      by_cases cL3:ltI (cN oK.1 x2) 0=true
      · rw[if_pos cL3] at h
        exact LT.next aD (hs:=⟨[(0,[]),(1,[]),(2,[]),(8,[]),(9,[]),(10,[])],[],false,[],[]⟩) (es:=none) (u1++[dt]) ([⟨cL3⟩]++w2) (by kernel_rfl) (fB x1 x2 y k (aN .i64 (conv .i64 (tK .u64 (conv .u64 (aN .i64 cD cQ)) 1)) 1) cQ h)
      rw[if_neg cL3] at h;replace cL3:=eqf cL3
      exact LT.next aD (hs:=⟨[(0,[]),(1,[]),(2,[]),(8,[]),(9,[]),(10,[])],[],false,[],[]⟩) (es:=none) (u1++[df]) ([⟨cL3⟩]++w2) (by kernel_rfl) (fB x1 x2 y k cD (conv .i64 (tK .u64 (conv .u64 (aN .i64 cD cQ)) 1)) h)
    rw[if_neg cL1] at h;replace cL1:=eqf cL1
    cases h
  rw[if_neg cL0] at h;replace cL0:=eqf cL0
  obtain rfl:=osi h
  show LT _ _ _ _ (.st (.exit 0) (aER x1 x2 cD))
  exact LT.done aD (hs:=⟨[],[],false,[],[]⟩) (es:=(some ⟨[(0,[]),(1,[]),(2,[]),(8,[]),(9,[])],[],false,[],[]⟩)) [df] [⟨cL0⟩] (by kernel_rfl) (fun s h=>by cases h)
theorem n8 (k:Nat) (x1:aG) (x2:Int) (r:Int × Bool) (h:dC k x1 x2=some r):Tri Try.prog 51 [(.sl 2 (List.map aA x1)),(.int .u8 x2),(.fn 52 [])] [] (.tup [(.int .i64 r.1),(.bool r.2)]) []:=by
 unfold dC at h
 obtain⟨x4,e0,h⟩:=bsm h
 let u3:List Ans:=[.n x1.length,.norm 2 ⟨[(0,[]),(1,[]),(2,[]),(8,[]),(9,[]),(10,[])],[],false,[],[]⟩,.out (.st .normal (aER x1 x2 x4))]
 let w4:List Prf:=[⟨(LT.block (fB x1 x2 _ k 0 (nI x1.length) e0))⟩,⟨(aL aA x1)⟩]
 by_cases c2:ltI x4 (nI x1.length)=true
 · rw[if_pos c2] at h
   by_cases c3:inI x4 x1.length=true
   · rw[if_pos c3] at h
     obtain⟨x5,e4,h⟩:=bsm h
     obtain rfl:=osi h
     exact Tri.of (x:=X51) aD aJE (u3++[dt,dt,dt,dt,.n x1.length,dt,.row [(.int .u8 x5.1),(.int .i64 x5.2)],dt,dt,.call ⟨false,[]⟩ (.int .i64 (cN x5.1 x2)) [],dt,dt]) ([⟨c2⟩,⟨c2⟩,⟨(q7 x5.1 x5.2 x2)⟩,⟨c2⟩,⟨c2⟩,⟨(bA (e:=aA) e4 2 0 2 (by decide))⟩,⟨c2⟩,⟨c3⟩,⟨(aL aA x1)⟩,⟨c2⟩,⟨c2⟩,⟨c2⟩,⟨c2⟩]++w4) (by kernel_rfl)
   rw[if_neg c3] at h;replace c3:=eqf c3
   cases h
 rw[if_neg c2] at h;replace c2:=eqf c2
 obtain rfl:=osi h
 exact Tri.of (x:=X51) aD aJE (u3++[df,df,df,df,df,df,df,df,df]) ([⟨c2⟩,⟨c2⟩,⟨c2⟩,⟨c2⟩,⟨c2⟩,⟨c2⟩,⟨c2⟩,⟨c2⟩,⟨c2⟩]++w4) (by kernel_rfl)
end Go.Ws

namespace Go.Ws
open Go.Proofs
set_option linter.unusedSimpArgs false
set_option linter.unusedVariables false
set_option maxRecDepth 1000000
set_option maxHeartbeats 4000000
noncomputable def X43:Ctx:=⟨Try.f43,[],true⟩
theorem aBF (k:Nat) (x1:aG) (x2:Int) (r:Int × Bool) (h:lV k x1 x2=some r):Tri Try.prog 43 [(.sl 2 (List.map aA x1)),(.int .u8 x2)] [] (.tup [(.int .i64 r.1),(.bool r.2)]) []:=by
 unfold lV at h
 obtain⟨x3,e0,h⟩:=bsm h
 obtain rfl:=osi h
 exact Tri.of (x:=X43) aD facts43 [.call ⟨true,[]⟩ (.tup [(.int .i64 x3.1),(.bool x3.2)]) []] [⟨(n8 k x1 x2 _ e0)⟩] (by kernel_rfl)
end Go.Ws

namespace Go.Ws
open Go.Proofs
set_option linter.unusedSimpArgs false
set_option linter.unusedVariables false
set_option maxRecDepth 1000000
set_option maxHeartbeats 4000000
theorem zR (k:Nat) (x1:Int) (x2:Int) (x3:aG) (r:aG) (h:kX k x1 x2 x3=some r):Tri Try.prog 45 [(.ref 2 0 0 0 x3.length .virt),(.int .i64 x1),(.int .i64 x2)] [(.arr 2 (List.map aA x3) 0 0 false)] (.ref 2 0 1 0 r.length .full) [(.arr 2 (List.map aA r) 1 1 false)]:=aF8 _ h
end Go.Ws

namespace Go.Ws
open Go.Proofs
set_option linter.unusedSimpArgs false
set_option linter.unusedVariables false
set_option maxRecDepth 1000000
set_option maxHeartbeats 4000000
theorem vQ (k:Nat) (x1:Int) (x2:aG) (x3:aG) (r:aG) (h:iI k x1 x2 x3=some r):Tri Try.prog 44 [(.ref 2 0 0 0 x2.length .virt),(.int .i64 x1),(.ref 2 1 0 0 x3.length .full)] [(.arr 2 (List.map aA x2) 0 0 false),(.arr 2 (List.map aA x3) 0 0 false)] (.ref 2 0 1 0 r.length .full) [(.arr 2 (List.map aA r) 1 1 false),(.arr 2 (List.map aA x3) 0 0 false)]:=ins_ok44 _ h rfl
end Go.Ws

namespace Go.Ws
open Go.Proofs
set_option linter.unusedSimpArgs false
set_option linter.unusedVariables false
set_option maxRecDepth 1000000
set_option maxHeartbeats 4000000
theorem wT (k:Nat) (x1:Int) (x2:Int) (x3:aG) (r:aG) (h:jB k x1 x2 x3=some r):Tri Try.prog 45 [(.ref 2 0 1 0 x3.length .full),(.int .i64 x1),(.int .i64 x2)] [(.arr 2 (List.map aA x3) 1 1 false)] (.ref 2 0 2 0 r.length .full) [(.arr 2 (List.map aA r) 2 2 false)]:=aF8 _ h
end Go.Ws

namespace Go.Ws
open Go.Proofs
set_option linter.unusedSimpArgs false
set_option linter.unusedVariables false
set_option maxRecDepth 1000000
set_option maxHeartbeats 4000000
noncomputable def X30:Ctx:=⟨Try.f30,[],true⟩
noncomputable def L30_0:Code:=at_ Try.f30 [1,1,1,1,0,1,4,5]
def S30_0 (x2:aG) (cE:Int) (aS:aG):St:=⟨mkT 67 [(0,(.ref 2 0 0 0 aS.length .virt)),(22,(.sl 2 (List.map aA x2))),(23,(.int .i64 (nI x2.length))),(24,(.int .i64 cE))],[(.arr 2 (List.map aA aS) 0 0 false)]⟩
def aE3 (aHB:aG):St:=⟨mkT 67 [(0,(.ref 2 0 0 0 aHB.length .virt))],[(.arr 2 (List.map aA aHB) 0 0 false)]⟩
def O30_0 (x2:aG) (y:(aG)):GX:=.st (.exit 0) (aE3 y)
theorem hU (x2:aG) (y:(aG)):∀(k:Nat) (cE:Int) (aS:aG),dU k x2 cE aS=some y→LT Try.prog X30 L30_0 (S30_0 x2 cE aS) (O30_0 x2 y)
 | 0,cE,aS,h=>by cases h
 | k+1,cE,aS,h=>by
  rw[dU] at h
  by_cases cL0:ltI cE (nI x2.length)=true
  · rw[if_pos cL0] at h
    by_cases cL1:inI cE x2.length=true
    · rw[if_pos cL1] at h
      obtain⟨bT,eL2,h⟩:=bsm h
      obtain⟨aX,eL3,h⟩:=bsm h
      let u1:List Ans:=[dt,.n x2.length,.row [(.int .u8 bT.1),(.int .i64 bT.2)],.call ⟨true,[]⟩ (.tup [(.int .i64 aX.1),(.bool aX.2)]) [],.rows (List.map aA aS)]
      let w2:List Prf:=[⟨(aBF k aS bT.1 _ eL3)⟩,⟨(bJ aA (l:=aS) (n:=aS.length) rfl)⟩,⟨(dJ aA (Nat.le_refl aS.length):0+aS.length≤(List.map aA aS).length)⟩,⟨(bA (e:=aA) eL2 2 0 2 (by decide))⟩,⟨cL1⟩,⟨(aL aA x2)⟩,⟨cL0⟩]
      by_cases cL4:aX.2=true
      · rw[if_pos cL4] at h
        by_cases cL5:inI aX.1 aS.length=true
        · rw[if_pos cL5] at h
          obtain⟨aR,eL6,h⟩:=bsm h
          obtain⟨bY,eL7,h⟩:=bsm h
          let u3:List Ans:=u1++[df,.row [(.int .i64 aR.2)],.rows (List.map aA (List.set aS (tN aX.1) (aR.1,aN .i64 aR.2 bT.2))),.row [(.int .i64 bY.2)]]
          let w4:List Prf:=[⟨(bA (e:=aA) eL7 2 1 1 (by decide))⟩,⟨cL5⟩,⟨(rP (e:=aA) eL6 1 [(.int .i64 (aN .i64 aR.2 bT.2))] (aR.1,aN .i64 aR.2 bT.2) rfl)⟩,⟨cL5⟩,⟨(bA (e:=aA) eL6 2 1 1 (by decide))⟩,⟨cL5⟩,⟨(nF cL4)⟩]++w2
          by_cases cL8:eqI bY.2 0=true
          · rw[if_pos cL8] at h
            obtain⟨fT,eL9,h⟩:=bsm h
            exact LT.next aD (hs:=⟨[(0,[]),(22,[]),(23,[]),(24,[])],[⟨.tmp 0,[],some 2⟩],false,[],[]⟩) (es:=none) (u3++[dt,.call ⟨false,[]⟩ (.ref 2 0 1 0 fT.length .full) [(.arr 2 (List.map aA fT) 1 1 false)],.n fT.length,.rows (List.map aA fT)]) ([⟨(cM aA (l:=fT) (n:=fT.length) rfl)⟩,⟨(rfl:fT.length=fT.length)⟩,⟨(zle fT.length)⟩,⟨(by have hh:=(zR k aX.1 (aN .i64 aX.1 1) (List.set aS (tN aX.1) (aR.1,aN .i64 aR.2 bT.2)) _ eL9);simp only[List.length_set] at hh;exact hh)⟩,⟨cL8⟩]++w4) (by kernel_rfl) (hU x2 y k (aN .i64 cE 1) fT h)
          rw[if_neg cL8] at h;replace cL8:=eqf cL8
          exact LT.next aD (hs:=⟨[(0,[]),(22,[]),(23,[]),(24,[])],[⟨.tmp 0,[],some 2⟩],false,[],[]⟩) (es:=none) (u3++[df,.n ((List.set aS (tN aX.1) (aR.1,aN .i64 aR.2 bT.2)).length),.rows (List.map aA (List.set aS (tN aX.1) (aR.1,aN .i64 aR.2 bT.2)))]) ([⟨(cM aA (l:=(List.set aS (tN aX.1) (aR.1,aN .i64 aR.2 bT.2))) (n:=aS.length) (by simp:aS.length=(List.set aS (tN aX.1) (aR.1,aN .i64 aR.2 bT.2)).length))⟩,⟨((by simp:aS.length=List.length (α:=Int × Int) (List.set aS (tN aX.1) (aR.1,aN .i64 aR.2 bT.2))):aS.length=(List.set aS (tN aX.1) (aR.1,aN .i64 aR.2 bT.2)).length)⟩,⟨(zle aS.length)⟩,⟨cL8⟩]++w4) (by kernel_rfl) (hU x2 y k (aN .i64 cE 1) (List.set aS (tN aX.1) (aR.1,aN .i64 aR.2 bT.2)) h)
        rw[if_neg cL5] at h;replace cL5:=eqf cL5
        cases h
      rw[if_neg cL4] at h;replace cL4:=eqf cL4
      obtain⟨aR,eL5,h⟩:=bsm h
      by_cases cL6:inI aX.1 aR.length=true
      · rw[if_pos cL6] at h
        obtain⟨bY,eL7,h⟩:=bsm h
        obtain⟨fT,eL8,h⟩:=bsm h
        let u5:List Ans:=u1++[dt,.call ⟨false,[]⟩ (.ref 2 0 1 0 aR.length .full) [(.arr 2 (List.map aA aR) 1 1 false),(.arr 2 (List.map aA [(bT.1,0)]) 0 0 false)],.row [(.int .i64 bY.2)],.rows (List.map aA (List.set aR (tN aX.1) (bY.1,aN .i64 bY.2 bT.2))),.row [(.int .i64 fT.2)]]
        let w6:List Prf:=[⟨(bA (e:=aA) eL8 2 1 1 (by decide))⟩,⟨cL6⟩,⟨(rP (e:=aA) eL7 1 [(.int .i64 (aN .i64 bY.2 bT.2))] (bY.1,aN .i64 bY.2 bT.2) rfl)⟩,⟨cL6⟩,⟨(bA (e:=aA) eL7 2 1 1 (by decide))⟩,⟨cL6⟩,⟨(vQ k aX.1 aS [(bT.1,0)] _ eL5)⟩,⟨(nT cL4)⟩]++w2
        by_cases cL9:eqI fT.2 0=true
        · rw[if_pos cL9] at h
          obtain⟨jG,eL10,h⟩:=bsm h
          exact LT.next aD (hs:=⟨[(0,[]),(22,[]),(23,[]),(24,[])],[⟨.tmp 0,[],some 2⟩],false,[],[]⟩) (es:=none) (u5++[dt,.call ⟨false,[]⟩ (.ref 2 0 2 0 jG.length .full) [(.arr 2 (List.map aA jG) 2 2 false)],.n jG.length,.rows (List.map aA jG)]) ([⟨(cM aA (l:=jG) (n:=jG.length) rfl)⟩,⟨(rfl:jG.length=jG.length)⟩,⟨(zle jG.length)⟩,⟨(by have hh:=(wT k aX.1 (aN .i64 aX.1 1) (List.set aR (tN aX.1) (bY.1,aN .i64 bY.2 bT.2)) _ eL10);simp only[List.length_set] at hh;exact hh)⟩,⟨cL9⟩]++w6) (by kernel_rfl) (hU x2 y k (aN .i64 cE 1) jG h)
        rw[if_neg cL9] at h;replace cL9:=eqf cL9
        exact LT.next aD (hs:=⟨[(0,[]),(22,[]),(23,[]),(24,[])],[⟨.tmp 0,[],some 2⟩],false,[],[]⟩) (es:=none) (u5++[df,.n ((List.set aR (tN aX.1) (bY.1,aN .i64 bY.2 bT.2)).length),.rows (List.map aA (List.set aR (tN aX.1) (bY.1,aN .i64 bY.2 bT.2)))]) ([⟨(cM aA (l:=(List.set aR (tN aX.1) (bY.1,aN .i64 bY.2 bT.2))) (n:=aR.length) (by simp:aR.length=(List.set aR (tN aX.1) (bY.1,aN .i64 bY.2 bT.2)).length))⟩,⟨((by simp:aR.length=List.length (α:=Int × Int) (List.set aR (tN aX.1) (bY.1,aN .i64 bY.2 bT.2))):aR.length=(List.set aR (tN aX.1) (bY.1,aN .i64 bY.2 bT.2)).length)⟩,⟨(zle aR.length)⟩,⟨cL9⟩]++w6) (by kernel_rfl) (hU x2 y k (aN .i64 cE 1) (List.set aR (tN aX.1) (bY.1,aN .i64 bY.2 bT.2)) h)
      rw[if_neg cL6] at h;replace cL6:=eqf cL6
      cases h
    rw[if_neg cL1] at h;replace cL1:=eqf cL1
    cases h
  rw[if_neg cL0] at h;replace cL0:=eqf cL0
  obtain rfl:=osi h
  show LT _ _ _ _ (.st (.exit 0) (aE3 aS))
  exact LT.done aD (hs:=⟨[],[],false,[],[]⟩) (es:=(some ⟨[(0,[])],[⟨.tmp 0,[],none⟩],false,[],[]⟩)) [df] [⟨cL0⟩] (by kernel_rfl) (fun s h=>by cases h)
theorem kR (k:Nat) (x1:aG) (x2:aG) (r:aG × Int) (h:gY k x1 x2=some r):Tri Try.prog 30 [(.sl 2 (List.map aA x1)),(.sl 2 (List.map aA x2))] [] (.tup [(.sl 2 (List.map aA r.1)),(.int .i64 r.2)]) []:=by
 unfold gY at h
 obtain⟨x3,e0,h⟩:=bsm h
 obtain⟨x4,e1,h⟩:=bsm h
 let u7:List Ans:=[.call ⟨true,[]⟩ (.ref 2 0 0 0 x1.length .virt) [(.arr 2 (List.map aA x1) 0 0 false)],.call ⟨true,[]⟩ (.bool x4) [],.rows (List.map aA x1)]
 let w8:List Prf:=[⟨(aAN k x1 _ e1)⟩,⟨(bJ aA (l:=x1) (n:=x1.length) rfl)⟩,⟨(dJ aA (Nat.le_refl x1.length):0+x1.length≤(List.map aA x1).length)⟩,⟨(wC k x1 _ e0)⟩]
 by_cases c2:x4=true
 · rw[if_pos c2] at h
   obtain⟨x5,e3,h⟩:=bsm h
   let u9:List Ans:=u7++[df,df,df,.call ⟨true,[]⟩ (.bool x5) [],df]
   let w10:List Prf:=[⟨(nF c2)⟩,⟨(qS k x2 _ e3)⟩,⟨(nF c2)⟩,⟨(nF c2)⟩,⟨(nF c2)⟩]++w8
   by_cases c4:x5=true
   · rw[if_pos c4] at h
     obtain rfl:=osi h
     exact Tri.of (x:=X30) aD aFU (u9++[dt,.rows (List.map aA x1)]) ([⟨(bJ aA (l:=x1) (n:=x1.length) rfl)⟩,⟨(dJ aA (Nat.le_refl x1.length):0+x1.length≤(List.map aA x1).length)⟩,⟨c4⟩]++w10) (by kernel_rfl)
   rw[if_neg c4] at h;replace c4:=eqf c4
   obtain⟨x7,e5,h⟩:=bsm h
   obtain rfl:=osi h
   exact Tri.of (x:=X30) aD aFU (u9++[df,.n x2.length,.norm 2 ⟨[(0,[]),(22,[]),(23,[]),(24,[])],[⟨.tmp 0,[],some 2⟩],false,[],[]⟩,.n x1.length,.rows (List.map aA x1),.out (.st .normal (aE3 x7)),.rows (List.map aA x7)]) ([⟨(bJ aA (l:=x7) (n:=x7.length) rfl)⟩,⟨(dJ aA (Nat.le_refl x7.length):0+x7.length≤(List.map aA x7).length)⟩,⟨(LT.block (hU x2 _ k 0 x1 e5))⟩,⟨(cM aA (l:=x1) (n:=x1.length) rfl)⟩,⟨(rfl:x1.length=x1.length)⟩,⟨(zle x1.length)⟩,⟨(aL aA x2)⟩,⟨c4⟩]++w10) (by kernel_rfl)
 rw[if_neg c2] at h;replace c2:=eqf c2
 obtain rfl:=osi h
 exact Tri.of (x:=X30) aD aFU (u7++[dt,dt,dt,dt,dt,.rows (List.map aA x1)]) ([⟨(bJ aA (l:=x1) (n:=x1.length) rfl)⟩,⟨(dJ aA (Nat.le_refl x1.length):0+x1.length≤(List.map aA x1).length)⟩,⟨rT⟩,⟨(nT c2)⟩,⟨(nT c2)⟩,⟨(nT c2)⟩,⟨(nT c2)⟩]++w8) (by kernel_rfl)
end Go.Ws

namespace Go.Ws
open Go.Proofs
set_option linter.unusedSimpArgs false
set_option linter.unusedVariables false
set_option maxRecDepth 1000000
set_option maxHeartbeats 4000000
noncomputable def X78 (x4:Int):Ctx:=⟨Try.f78,[(.row [(.int .i64 x4)])],false⟩
theorem tS (x1:Int) (x2:Int) (x3:Bool) (x4:Int):Tri Try.prog 78 [(.agg [(.int .u8 x1),(.int .i64 x2),(.bool x3)]),(.hp 0 0)] [(.row [(.int .i64 x4)])] (.bool (eqI x2 x4)) [(.row [(.int .i64 x4)])]:=by
 obtain⟨r,h⟩:∃r,uC x1 x2 x3 x4=r:=⟨_,rfl⟩
 try rw[h]
 unfold uC at h
 obtain rfl:=h
 exact Tri.of (x:=(X78 x4)) aD facts78 [.norm 0 ⟨[(3,[])],[],false,[],[]⟩] [] (by kernel_rfl)
end Go.Ws

namespace Go.Ws
open Go.Proofs
set_option linter.unusedSimpArgs false
set_option linter.unusedVariables false
set_option maxRecDepth 1000000
set_option maxHeartbeats 4000000
noncomputable def X92 (x1:Ty8) (x2:Int):Ctx:=⟨Try.f92,[(.arr 3 (List.map aC x1) 0 0 false),(.row [(.int .i64 x2)])],false⟩
noncomputable def L92_0:Code:=at_ Try.f92 [1,0,1,4,5]
def S92_0 (x1:Ty8) (x2:Int) (dE:Int):St:=⟨mkT 19 [(0,(.ref 3 0 0 0 x1.length .virt)),(1,(.fn 78 [(.hp 1 0)])),(7,(.int .i64 (nI x1.length))),(8,(.int .i64 dE))],[(.arr 3 (List.map aC x1) 0 0 false),(.row [(.int .i64 x2)])]⟩
def aFV (x1:Ty8) (x2:Int):St:=⟨mkT 19 [],[(.arr 3 (List.map aC x1) 0 0 false),(.row [(.int .i64 x2)])]⟩
def O92_0 (x1:Ty8) (x2:Int) (y:(Sum (Unit) (Int))):GX:=match y with
 | .inl y=>.st (.exit 0) (aFV x1 x2)
 | .inr y=>.fin (.int .i64 y) [(.arr 3 (List.map aC x1) 0 0 false),(.row [(.int .i64 x2)])]
theorem gM (x1:Ty8) (x2:Int) (y:(Sum (Unit) (Int))):∀(k:Nat) (dE:Int),bU k x1 x2 dE=some y→LT Try.prog (X92 x1 x2) L92_0 (S92_0 x1 x2 dE) (O92_0 x1 x2 y)
 | 0,dE,h=>by cases h
 | k+1,dE,h=>by
  rw[bU] at h
  by_cases cL0:ltI dE (nI x1.length)=true
  · rw[if_pos cL0] at h
    by_cases cL1:inI dE x1.length=true
    · rw[if_pos cL1] at h
      obtain⟨k9,eL2,h⟩:=bsm h
      let u1:List Ans:=[dt,.row [(.int .u8 k9.1),(.int .i64 k9.2.1),(.bool k9.2.2)],.call ⟨false,[]⟩ (.bool (eqI k9.2.1 x2)) [(.row [(.int .i64 x2)])]]
      let w2:List Prf:=[⟨(tS k9.1 k9.2.1 k9.2.2 x2)⟩,⟨(bA (e:=aC) eL2 3 0 3 (by decide))⟩,⟨cL1⟩,⟨cL0⟩]
      by_cases cL3:eqI k9.2.1 x2=true
      · rw[if_pos cL3] at h
        obtain rfl:=osi h
        show LT _ _ _ _ (.fin (.int .i64 dE) [(.arr 3 (List.map aC x1) 0 0 false),(.row [(.int .i64 x2)])])
        exact LT.done aD (hs:=⟨[],[],false,[],[]⟩) (es:=none) (u1++[dt,.norm 0 ⟨[(4,[])],[],false,[],[]⟩]) ([⟨cL3⟩]++w2) (by kernel_rfl) (fun s h=>by cases h)
      rw[if_neg cL3] at h;replace cL3:=eqf cL3
      exact LT.next aD (hs:=⟨[(0,[]),(1,[]),(7,[]),(8,[])],[],false,[],[]⟩) (es:=none) (u1++[df]) ([⟨cL3⟩]++w2) (by kernel_rfl) (gM x1 x2 y k (aN .i64 dE 1) h)
    rw[if_neg cL1] at h;replace cL1:=eqf cL1
    cases h
  rw[if_neg cL0] at h;replace cL0:=eqf cL0
  obtain rfl:=osi h
  show LT _ _ _ _ (.st (.exit 0) (aFV x1 x2))
  exact LT.done aD (hs:=⟨[],[],false,[],[]⟩) (es:=(some ⟨[],[],false,[],[]⟩)) [df] [⟨cL0⟩] (by kernel_rfl) (fun s h=>by cases h)
theorem sF (k:Nat) (x1:Ty8) (x2:Int) (r:Int) (h:fH k x1 x2=some r):Tri Try.prog 92 [(.ref 3 0 0 0 x1.length .virt),(.fn 78 [(.hp 1 0)])] [(.arr 3 (List.map aC x1) 0 0 false),(.row [(.int .i64 x2)])] (.int .i64 r) [(.arr 3 (List.map aC x1) 0 0 false),(.row [(.int .i64 x2)])]:=by
 unfold fH at h
 obtain⟨x3,e0,h⟩:=bsm h
 cases x3 with
 | inl x4 =>
  simp only[Sum.elim_inl] at h
  obtain rfl:=osi h
  exact Tri.of (x:=(X92 x1 x2)) aD aJN [.norm 2 ⟨[(0,[]),(1,[]),(7,[]),(8,[])],[],false,[],[]⟩,.out (.st .normal (aFV x1 x2)),.norm 0 ⟨[(4,[])],[],false,[],[]⟩] [⟨(LT.block (gM x1 x2 _ k 0 e0))⟩] (by kernel_rfl)
 | inr x4 =>
  simp only[Sum.elim_inr] at h
  obtain rfl:=osi h
  exact Tri.of (x:=(X92 x1 x2)) aD aJN [.norm 2 ⟨[(0,[]),(1,[]),(7,[]),(8,[])],[],false,[],[]⟩,.out (.fin (.int .i64 x4) [(.arr 3 (List.map aC x1) 0 0 false),(.row [(.int .i64 x2)])])] [⟨(LT.blockFin (id:=0) (gM x1 x2 _ k 0 e0))⟩] (by kernel_rfl)
end Go.Ws

namespace Go.Ws
open Go.Proofs
set_option linter.unusedSimpArgs false
set_option linter.unusedVariables false
set_option maxRecDepth 1000000
set_option maxHeartbeats 4000000
noncomputable def X77 (x1:Ty8) (x2:Int):Ctx:=⟨Try.f77,[(.arr 3 (List.map aC x1) 0 0 false),(.row [(.int .i64 x2)])],false⟩
noncomputable def L77_0:Code:=at_ Try.f77 [1,1,1,0,1,4,5]
def S77_0 (x1:Ty8) (x2:Int) (dF:Int) (cI:Int) (dG:Ty8):St:=⟨mkT 42 [(0,(.ref 3 0 0 0 x1.length .virt)),(1,(.fn 78 [(.hp 1 0)])),(5,(.int .i64 cI)),(6,(.int .i64 dF))],[(.arr 3 (List.map aC dG) 0 0 false),(.row [(.int .i64 x2)])]⟩
def aEP (x1:Ty8) (x2:Int) (v77002_1:Int) (v77002_2:Ty8):St:=⟨mkT 42 [(0,(.ref 3 0 0 0 x1.length .virt)),(5,(.int .i64 v77002_1))],[(.arr 3 (List.map aC v77002_2) 0 0 false),(.row [(.int .i64 x2)])]⟩
def O77_0 (x1:Ty8) (x2:Int) (y:(Int × Ty8)):GX:=.st (.exit 0) (aEP x1 x2 y.1 y.2)
theorem iF (x1:Ty8) (x2:Int) (y:(Int × Ty8)):∀(k:Nat) (dF:Int) (cI:Int) (dG:Ty8),bV k x1 x2 dF cI dG=some y→LT Try.prog (X77 x1 x2) L77_0 (S77_0 x1 x2 dF cI dG) (O77_0 x1 x2 y)
 | 0,dF,cI,dG,h=>by cases h
 | k+1,dF,cI,dG,h=>by
  rw[bV] at h
  by_cases cL0:ltI dF (nI x1.length)=true
  · rw[if_pos cL0] at h
    by_cases cL1:inI dF x1.length=true
    · rw[if_pos cL1] at h
      obtain⟨fU,eL2,h⟩:=bsm h
      let u1:List Ans:=[dt,.row [(.int .u8 fU.1),(.int .i64 fU.2.1),(.bool fU.2.2)],.call ⟨false,[]⟩ (.bool (eqI fU.2.1 x2)) [(.row [(.int .i64 x2)])]]
      let w2:List Prf:=[⟨(tS fU.1 fU.2.1 fU.2.2 x2)⟩,⟨(bA (e:=aC) eL2 3 0 3 (by decide))⟩,⟨cL1⟩,⟨cL0⟩]
      by_cases cL3:eqI fU.2.1 x2=true
      · rw[if_pos cL3] at h
        exact LT.next aD (hs:=⟨[(0,[]),(1,[]),(5,[]),(6,[])],[],false,[],[]⟩) (es:=none) (u1++[df]) ([⟨(nF cL3)⟩]++w2) (by kernel_rfl) (iF x1 x2 y k (aN .i64 dF 1) cI dG h)
      rw[if_neg cL3] at h;replace cL3:=eqf cL3
      by_cases cL4:inI cI x1.length=true
      · rw[if_pos cL4] at h
        obtain⟨v77000_2,eL5,h⟩:=bsm h
        exact LT.next aD (hs:=⟨[(0,[]),(1,[]),(5,[]),(6,[])],[],false,[],[]⟩) (es:=none) (u1++[dt,.rows (List.map aC (List.set dG (tN cI) fU))]) ([⟨(rP (e:=aC) eL5 0 [(.int .u8 fU.1),(.int .i64 fU.2.1),(.bool fU.2.2)] fU rfl)⟩,⟨cL4⟩,⟨(nT cL3)⟩]++w2) (by kernel_rfl) (iF x1 x2 y k (aN .i64 dF 1) (aN .i64 cI 1) (List.set dG (tN cI) fU) h)
      rw[if_neg cL4] at h;replace cL4:=eqf cL4
      cases h
    rw[if_neg cL1] at h;replace cL1:=eqf cL1
    cases h
  rw[if_neg cL0] at h;replace cL0:=eqf cL0
  obtain rfl:=osi h
  show LT _ _ _ _ (.st (.exit 0) (aEP x1 x2 cI dG))
  exact LT.done aD (hs:=⟨[],[],false,[],[]⟩) (es:=(some ⟨[(0,[]),(5,[])],[],false,[],[]⟩)) [df] [⟨cL0⟩] (by kernel_rfl) (fun s h=>by cases h)
theorem tX (k:Nat) (x1:Ty8) (x2:Int) (r:Nat × Ty8) (h:f3 k x1 x2=some r):Tri Try.prog 77 [(.ref 3 0 0 0 x1.length .virt),(.fn 78 [(.hp 1 0)])] [(.arr 3 (List.map aC x1) 0 0 false),(.row [(.int .i64 x2)])] (.ref 3 0 0 0 r.1 .virt) [(.arr 3 (List.map aC r.2) 0 0 false),(.row [(.int .i64 x2)])]:=by
 unfold f3 at h
 obtain⟨x3,e0,h⟩:=bsm h
 let w4:List Prf:=[⟨(sF k x1 x2 _ e0)⟩]
 by_cases c1:eqI x3 (-1)=true
 · rw[if_pos c1] at h
   obtain rfl:=osi h
   exact Tri.of (x:=(X77 x1 x2)) aD aEI [.call ⟨false,[]⟩ (.int .i64 x3) [(.arr 3 (List.map aC x1) 0 0 false),(.row [(.int .i64 x2)])],dt,.norm 0 ⟨[(4,[])],[],false,[],[]⟩] ([⟨c1⟩]++w4) (by kernel_rfl)
 rw[if_neg c1] at h;replace c1:=eqf c1
 obtain⟨x5,e2,h⟩:=bsm h
 by_cases c4:isZ x1.length=true
 · rw[if_pos c4] at h
   cases h
 rw[if_neg c4] at h;replace c4:=eqf c4
 by_cases c5:oP x1.length x5.2.length=true
 · rw[if_pos c5] at h
   by_cases c6:leI x5.1 x1.length=true
   · rw[if_pos c6] at h
     let u5:List Ans:=[.call ⟨false,[]⟩ (.int .i64 x3) [(.arr 3 (List.map aC x1) 0 0 false),(.row [(.int .i64 x2)])],df,.norm 2 ⟨[(0,[]),(1,[]),(5,[]),(6,[])],[],false,[],[]⟩,.out (.st .normal (aEP x1 x2 x5.1 x5.2)),df,.n x5.2.length,.n x5.2.length,.n (tN x5.1),.n (x1.length - (tN x5.1))]
     let w6:List Prf:=[⟨(rfl:x1.length - (tN x5.1)=x1.length - (tN x5.1))⟩,⟨((Nat.zero_add _):0+(tN x5.1)=tN x5.1)⟩,⟨c6⟩,⟨(rfl:x5.2.length - 0=x5.2.length)⟩,⟨(aD2 ((aCN c5):x1.length≤x5.2.length))⟩,⟨(aL aC x5.2)⟩,⟨c4⟩,⟨(LT.block (iF x1 x2 _ k (aN .i64 x3 1) x3 x1 e2))⟩,⟨c1⟩]++w4
     by_cases c7:isZ (x1.length - (tN x5.1))=true
     · rw[if_pos c7] at h
       by_cases c8:leI x5.1 x5.2.length=true
       · rw[if_pos c8] at h
         obtain rfl:=osi h
         exact Tri.of (x:=(X77 x1 x2)) aD aEI (u5++[dt,df,.n x5.2.length,.n x5.2.length,.n 0,.n (tN x5.1),.norm 0 ⟨[(4,[])],[],false,[],[]⟩]) ([⟨(rfl:(tN x5.1) - 0=tN x5.1)⟩,⟨((Nat.zero_add _):0+0=0)⟩,⟨c8⟩,⟨(rfl:x5.2.length - 0=x5.2.length)⟩,⟨(aD2 ((aCN c5):x1.length≤x5.2.length))⟩,⟨(aL aC x5.2)⟩,⟨c4⟩,⟨c7⟩]++w6) (by kernel_rfl)
       rw[if_neg c8] at h;replace c8:=eqf c8
       cases h
     rw[if_neg c7] at h;replace c7:=eqf c7
     by_cases c8:oP (tN x5.1+(x1.length - (tN x5.1))) x5.2.length=true
     · rw[if_pos c8] at h
       by_cases c9:oP (tN x5.1) x5.2.length=true
       · rw[if_pos c9] at h
         by_cases c10:oP x1.length ((((List.take (tN x5.1) x5.2)++(List.replicate (x1.length - (tN x5.1)) (0,0,false)))++(List.drop (tN x5.1+(x1.length - (tN x5.1))) x5.2)).length)=true
         · rw[if_pos c10] at h
           by_cases c11:leI x5.1 ((((List.take (tN x5.1) x5.2)++(List.replicate (x1.length - (tN x5.1)) (0,0,false)))++(List.drop (tN x5.1+(x1.length - (tN x5.1))) x5.2)).length)=true
           · rw[if_pos c11] at h
             obtain rfl:=osi h
             exact Tri.of (x:=(X77 x1 x2)) aD aEI (u5++[df,.rows (List.map aC (((List.take (tN x5.1) x5.2)++(List.replicate (x1.length - (tN x5.1)) (0,0,false)))++(List.drop (tN x5.1+(x1.length - (tN x5.1))) x5.2))),df,.n ((((List.take (tN x5.1) x5.2)++(List.replicate (x1.length - (tN x5.1)) (0,0,false)))++(List.drop (tN x5.1+(x1.length - (tN x5.1))) x5.2)).length),.n ((((List.take (tN x5.1) x5.2)++(List.replicate (x1.length - (tN x5.1)) (0,0,false)))++(List.drop (tN x5.1+(x1.length - (tN x5.1))) x5.2)).length),.n 0,.n (tN x5.1),.norm 0 ⟨[(4,[])],[],false,[],[]⟩]) ([⟨(rfl:(tN x5.1) - 0=tN x5.1)⟩,⟨((Nat.zero_add _):0+0=0)⟩,⟨c11⟩,⟨(rfl:((((List.take (tN x5.1) x5.2)++(List.replicate (x1.length - (tN x5.1)) (0,0,false)))++(List.drop (tN x5.1+(x1.length - (tN x5.1))) x5.2)).length) - 0=(((List.take (tN x5.1) x5.2)++(List.replicate (x1.length - (tN x5.1)) (0,0,false)))++(List.drop (tN x5.1+(x1.length - (tN x5.1))) x5.2)).length)⟩,⟨(aD2 ((aCN c10):x1.length≤(((List.take (tN x5.1) x5.2)++(List.replicate (x1.length - (tN x5.1)) (0,0,false)))++(List.drop (tN x5.1+(x1.length - (tN x5.1))) x5.2)).length))⟩,⟨(aL aC (((List.take (tN x5.1) x5.2)++(List.replicate (x1.length - (tN x5.1)) (0,0,false)))++(List.drop (tN x5.1+(x1.length - (tN x5.1))) x5.2)))⟩,⟨c4⟩,⟨(aKJ aC x5.2 (tN x5.1) (x1.length - (tN x5.1)) (0,0,false))⟩,⟨(le_mapI aC (aCN c8))⟩,⟨c7⟩]++w6) (by kernel_rfl)
           rw[if_neg c11] at h;replace c11:=eqf c11
           cases h
         rw[if_neg c10] at h;replace c10:=eqf c10
         cases h
       rw[if_neg c9] at h;replace c9:=eqf c9
       cases h
     rw[if_neg c8] at h;replace c8:=eqf c8
     cases h
   rw[if_neg c6] at h;replace c6:=eqf c6
   cases h
 rw[if_neg c5] at h;replace c5:=eqf c5
 cases h
end Go.Ws

namespace Go.Ws
open Go.Proofs
set_option linter.unusedSimpArgs false
set_option linter.unusedVariables false
set_option maxRecDepth 1000000
set_option maxHeartbeats 4000000
noncomputable def X61:Ctx:=⟨Try.f61,[],true⟩
theorem o5 (k:Nat) (x1:Ty8) (x2:Int) (r:Ty8) (h:kD k x1 x2=some r):Tri Try.prog 61 [(.sl 3 (List.map aC x1)),(.int .i64 x2)] [] (.sl 3 (List.map aC r)) []:=by
 unfold kD at h
 obtain⟨x3,e0,h⟩:=bsm h
 obtain⟨x4,e1,h⟩:=bsm h
 by_cases c2:oP x4.1 x4.2.length=true
 · rw[if_pos c2] at h
   obtain rfl:=osi h
   exact Tri.of (x:=X61) aD facts61 [.call ⟨true,[]⟩ (.ref 3 0 0 0 x1.length .virt) [(.arr 3 (List.map aC x1) 0 0 false)],.call ⟨false,[]⟩ (.ref 3 0 0 0 x4.1 .virt) [(.arr 3 (List.map aC x4.2) 0 0 false),(.row [(.int .i64 x2)])],.rows (List.map aC (List.take x4.1 x4.2))] [⟨(aJ6 aC x4.2 x4.1)⟩,⟨(dJ aC (aCN c2))⟩,⟨(tX k x1 x2 _ e1)⟩,⟨(tF k x1 _ e0)⟩] (by kernel_rfl)
 rw[if_neg c2] at h;replace c2:=eqf c2
 cases h
end Go.Ws

namespace Go.Ws
open Go.Proofs
set_option linter.unusedSimpArgs false
set_option linter.unusedVariables false
set_option maxRecDepth 1000000
set_option maxHeartbeats 4000000
noncomputable def X59:Ctx:=⟨Try.f59,[],true⟩
def A59_0:Ans:=.norm 0 ⟨[(2,[]),(3,[(0,2)]),(4,[])],[⟨.tmp 2,[],none⟩],false,[],[]⟩
theorem aCY (k:Nat) (x1:Int) (x2:aG) (x3:Bool) (x4:Int) (r:Int × aG × Bool × Int × aG × Int) (h:nH k x1 x2 x3 x4=some r):Tri Try.prog 59 [(.agg [(.int .i64 x1),(.sl 2 (List.map aA x2)),(.bool x3),(.int .i64 x4)])] [] (.tup [(.agg [(.int .i64 r.1),(.sl 2 (List.map aA r.2.1)),(.bool r.2.2.1),(.int .i64 r.2.2.2.1)]),(.sl 2 (List.map aA r.2.2.2.2.1)),(.int .i64 r.2.2.2.2.2)]) []:=by
 unfold nH at h
 obtain⟨x5,e0,h⟩:=bsm h
 obtain⟨x6,e1,h⟩:=bsm h
 let u1:List Ans:=[.call ⟨true,[]⟩ (.agg [(.int .i64 x5.1),(.sl 2 (List.map aA x5.2.1)),(.bool x5.2.2.1),(.int .i64 x5.2.2.2)]) [],.call ⟨true,[]⟩ (.bool x6) []]
 let w2:List Prf:=[⟨(nO k x5.1 x5.2.1 x5.2.2.1 x5.2.2.2 _ e1)⟩,⟨(lI k x1 x2 x3 x4 _ e0)⟩]
 by_cases c2:x6=true
 · rw[if_pos c2] at h
   by_cases c3:eqI x5.1 1=true
   · rw[if_pos c3] at h
     by_cases c4:x5.2.2.1=true
     · rw[if_pos c4] at h
       obtain rfl:=osi h
       exact Tri.of (x:=X59) aD aA1 (u1++[df,df,dt,A59_0]) ([⟨c4⟩,⟨(nF c3)⟩,⟨(nF c2)⟩]++w2) (by kernel_rfl)
     rw[if_neg c4] at h;replace c4:=eqf c4
     obtain⟨x7,e5,h⟩:=bsm h
     obtain rfl:=osi h
     exact Tri.of (x:=X59) aD aA1 (u1++[df,df,df,.call ⟨true,[]⟩ (.ref 2 0 0 0 x5.2.1.length .virt) [(.arr 2 (List.map aA x5.2.1) 0 0 false)],.rows (List.map aA x5.2.1)]) ([⟨(bJ aA (l:=x5.2.1) (n:=x5.2.1.length) rfl)⟩,⟨(dJ aA (Nat.le_refl x5.2.1.length):0+x5.2.1.length≤(List.map aA x5.2.1).length)⟩,⟨(gJ k x5.2.1 _ e5)⟩,⟨c4⟩,⟨(nF c3)⟩,⟨(nF c2)⟩]++w2) (by kernel_rfl)
   rw[if_neg c3] at h;replace c3:=eqf c3
   obtain rfl:=osi h
   exact Tri.of (x:=X59) aD aA1 (u1++[df,dt,A59_0]) ([⟨(nT c3)⟩,⟨(nF c2)⟩]++w2) (by kernel_rfl)
 rw[if_neg c2] at h;replace c2:=eqf c2
 obtain rfl:=osi h
 exact Tri.of (x:=X59) aD aA1 (u1++[dt,A59_0]) ([⟨(nT c2)⟩]++w2) (by kernel_rfl)
end Go.Ws

namespace Go.Ws
open Go.Proofs
set_option linter.unusedSimpArgs false
set_option linter.unusedVariables false
set_option maxRecDepth 1000000
set_option maxHeartbeats 4000000
theorem qE (k:Nat) (x1:aG) (r:aG) (h:iG k x1=some r):Tri Try.prog 76 [(.sl 2 (List.map aA x1))] [] (.ref 2 0 0 0 r.length .virt) [(.arr 2 (List.map aA r) 0 0 false)]:=opp_tri h
end Go.Ws

namespace Go.Ws
open Go.Proofs
set_option linter.unusedSimpArgs false
set_option linter.unusedVariables false
set_option maxRecDepth 1000000
set_option maxHeartbeats 4000000
noncomputable def X60:Ctx:=⟨Try.f60,[],true⟩
def xT:Ans:=.norm 0 ⟨[(4,[]),(5,[(0,2)]),(6,[])],[⟨.tmp 4,[],none⟩],false,[],[]⟩
theorem tR (k:Nat) (x1:Int) (x2:aG) (x3:Bool) (x4:Int) (x5:Int) (r:Int × aG × Bool × Int × aG × Int) (h:jR k x1 x2 x3 x4 x5=some r):Tri Try.prog 60 [(.agg [(.int .i64 x1),(.sl 2 (List.map aA x2)),(.bool x3),(.int .i64 x4)]),(.int .i64 x5)] [] (.tup [(.agg [(.int .i64 r.1),(.sl 2 (List.map aA r.2.1)),(.bool r.2.2.1),(.int .i64 r.2.2.2.1)]),(.sl 2 (List.map aA r.2.2.2.2.1)),(.int .i64 r.2.2.2.2.2)]) []:=by
 unfold jR at h
 obtain⟨x6,e0,h⟩:=bsm h
 obtain⟨x7,e1,h⟩:=bsm h
 let u1:List Ans:=[.call ⟨true,[]⟩ (.agg [(.int .i64 x6.1),(.sl 2 (List.map aA x6.2.1)),(.bool x6.2.2.1),(.int .i64 x6.2.2.2)]) [],.call ⟨true,[]⟩ (.bool x7) []]
 let w2:List Prf:=[⟨(nO k x6.1 x6.2.1 x6.2.2.1 x6.2.2.2 _ e1)⟩,⟨(lI k x1 x2 x3 x4 _ e0)⟩]
 by_cases c2:x7=true
 · rw[if_pos c2] at h
   let w4:List Prf:=[⟨(nF c2)⟩,⟨(nF c2)⟩,⟨(nF c2)⟩]++w2
   by_cases c3:eqI x5 1=true
   · rw[if_pos c3] at h
     let u5:List Ans:=u1++[df,df,df,df,df,df,df,df,df]
     let w6:List Prf:=[⟨rF⟩,⟨(nF c2)⟩,⟨(nF c3)⟩,⟨(nF c2)⟩,⟨(nF c3)⟩,⟨(nF c3)⟩]++w4
     by_cases c4:eqI x6.2.2.2 x5=true
     · rw[if_pos c4] at h
       obtain rfl:=osi h
       exact Tri.of (x:=X60) aD j8 (u5++[dt,xT]) ([⟨c4⟩]++w6) (by kernel_rfl)
     rw[if_neg c4] at h;replace c4:=eqf c4
     by_cases c5:eqI x6.1 3=true
     · rw[if_pos c5] at h
       obtain rfl:=osi h
       exact Tri.of (x:=X60) aD j8 (u5++[df,dt,dt,dt,dt,dt,dt,xT]) ([⟨rT⟩,⟨c5⟩,⟨c5⟩,⟨c5⟩,⟨c5⟩,⟨c5⟩,⟨c4⟩]++w6) (by kernel_rfl)
     rw[if_neg c5] at h;replace c5:=eqf c5
     let u9:List Ans:=u5++[df,df,df,df,dt,dt,dt,df,dt,df]
     let w10:List Prf:=[⟨c5⟩,⟨c3⟩,⟨c5⟩,⟨c3⟩,⟨c3⟩,⟨c3⟩,⟨c5⟩,⟨c5⟩,⟨c5⟩,⟨c4⟩]++w6
     by_cases c6:eqI x6.1 1=true
     · rw[if_pos c6] at h
       by_cases c7:eqB (eqI x5 1) x6.2.2.1=true
       · rw[if_pos c7] at h
         obtain rfl:=osi h
         exact Tri.of (x:=X60) aD j8 (u9++[df,dt,xT]) ([⟨c7⟩,⟨(nF c6)⟩]++w10) (by kernel_rfl)
       rw[if_neg c7] at h;replace c7:=eqf c7
       by_cases c8:x6.2.2.1=true
       · rw[if_pos c8] at h
         obtain⟨x8,e9,h⟩:=bsm h
         obtain rfl:=osi h
         exact Tri.of (x:=X60) aD j8 (u9++[df,df,dt,.call ⟨true,[]⟩ (.ref 2 0 0 0 x8.length .virt) [(.arr 2 (List.map aA x8) 0 0 false)],.rows (List.map aA x8)]) ([⟨(bJ aA (l:=x8) (n:=x8.length) rfl)⟩,⟨(dJ aA (Nat.le_refl x8.length):0+x8.length≤(List.map aA x8).length)⟩,⟨(qE k x6.2.1 _ e9)⟩,⟨c8⟩,⟨c7⟩,⟨(nF c6)⟩]++w10) (by kernel_rfl)
       rw[if_neg c8] at h;replace c8:=eqf c8
       obtain⟨x8,e9,h⟩:=bsm h
       obtain rfl:=osi h
       exact Tri.of (x:=X60) aD j8 (u9++[df,df,df,.call ⟨true,[]⟩ (.ref 2 0 0 0 x6.2.1.length .virt) [(.arr 2 (List.map aA x6.2.1) 0 0 false)],.rows (List.map aA x6.2.1)]) ([⟨(bJ aA (l:=x6.2.1) (n:=x6.2.1.length) rfl)⟩,⟨(dJ aA (Nat.le_refl x6.2.1.length):0+x6.2.1.length≤(List.map aA x6.2.1).length)⟩,⟨(gJ k x6.2.1 _ e9)⟩,⟨c8⟩,⟨c7⟩,⟨(nF c6)⟩]++w10) (by kernel_rfl)
     rw[if_neg c6] at h;replace c6:=eqf c6
     obtain rfl:=osi h
     exact Tri.of (x:=X60) aD j8 (u9++[dt,xT]) ([⟨(nT c6)⟩]++w10) (by kernel_rfl)
   rw[if_neg c3] at h;replace c3:=eqf c3
   let u15:List Ans:=u1++[df,df,df,dt,dt,df,dt,df]
   let w16:List Prf:=[⟨(nF c2)⟩,⟨(nT c3)⟩,⟨(nF c2)⟩,⟨(nT c3)⟩,⟨(nT c3)⟩]++w4
   by_cases c4:eqI x5 2=true
   · rw[if_pos c4] at h
     by_cases c5:eqI x6.2.2.2 x5=true
     · rw[if_pos c5] at h
       obtain rfl:=osi h
       exact Tri.of (x:=X60) aD j8 (u15++[df,dt,xT]) ([⟨c5⟩,⟨(nF c4)⟩]++w16) (by kernel_rfl)
     rw[if_neg c5] at h;replace c5:=eqf c5
     by_cases c6:eqI x6.1 3=true
     · rw[if_pos c6] at h
       obtain rfl:=osi h
       exact Tri.of (x:=X60) aD j8 (u15++[df,df,dt,dt,dt,dt,dt,dt,xT]) ([⟨rT⟩,⟨c6⟩,⟨c6⟩,⟨c6⟩,⟨c6⟩,⟨c6⟩,⟨c5⟩,⟨(nF c4)⟩]++w16) (by kernel_rfl)
     rw[if_neg c6] at h;replace c6:=eqf c6
     let u21:List Ans:=u15++[df,df,df,df,df,df,df,df,df,df,df,df]
     let w22:List Prf:=[⟨rF⟩,⟨c6⟩,⟨c3⟩,⟨c6⟩,⟨c3⟩,⟨c3⟩,⟨c3⟩,⟨c6⟩,⟨c6⟩,⟨c6⟩,⟨c5⟩,⟨(nF c4)⟩]++w16
     by_cases c7:eqB (eqI x5 1) x6.2.2.1=true
     · rw[if_pos c7] at h
       obtain rfl:=osi h
       exact Tri.of (x:=X60) aD j8 (u21++[dt,xT]) ([⟨c7⟩]++w22) (by kernel_rfl)
     rw[if_neg c7] at h;replace c7:=eqf c7
     by_cases c8:x6.2.2.1=true
     · rw[if_pos c8] at h
       obtain⟨x8,e9,h⟩:=bsm h
       obtain rfl:=osi h
       exact Tri.of (x:=X60) aD j8 (u21++[df,dt,.call ⟨true,[]⟩ (.ref 2 0 0 0 x8.length .virt) [(.arr 2 (List.map aA x8) 0 0 false)],.rows (List.map aA x8)]) ([⟨(bJ aA (l:=x8) (n:=x8.length) rfl)⟩,⟨(dJ aA (Nat.le_refl x8.length):0+x8.length≤(List.map aA x8).length)⟩,⟨(qE k x6.2.1 _ e9)⟩,⟨c8⟩,⟨c7⟩]++w22) (by kernel_rfl)
     rw[if_neg c8] at h;replace c8:=eqf c8
     obtain⟨x8,e9,h⟩:=bsm h
     obtain rfl:=osi h
     exact Tri.of (x:=X60) aD j8 (u21++[df,df,.call ⟨true,[]⟩ (.ref 2 0 0 0 x6.2.1.length .virt) [(.arr 2 (List.map aA x6.2.1) 0 0 false)],.rows (List.map aA x6.2.1)]) ([⟨(bJ aA (l:=x6.2.1) (n:=x6.2.1.length) rfl)⟩,⟨(dJ aA (Nat.le_refl x6.2.1.length):0+x6.2.1.length≤(List.map aA x6.2.1).length)⟩,⟨(gJ k x6.2.1 _ e9)⟩,⟨c8⟩,⟨c7⟩]++w22) (by kernel_rfl)
   rw[if_neg c4] at h;replace c4:=eqf c4
   obtain rfl:=osi h
   exact Tri.of (x:=X60) aD j8 (u15++[dt,xT]) ([⟨(nT c4)⟩]++w16) (by kernel_rfl)
 rw[if_neg c2] at h;replace c2:=eqf c2
 obtain rfl:=osi h
 exact Tri.of (x:=X60) aD j8 (u1++[dt,dt,dt,dt,dt,dt,xT]) ([⟨rT⟩,⟨(nT c2)⟩,⟨(nT c2)⟩,⟨(nT c2)⟩,⟨(nT c2)⟩,⟨(nT c2)⟩]++w2) (by kernel_rfl)
end Go.Ws

namespace Go.Ws
open Go.Proofs
set_option linter.unusedSimpArgs false
set_option linter.unusedVariables false
set_option maxRecDepth 1000000
set_option maxHeartbeats 4000000
noncomputable def X33_3 (x1:aG) (x2:Ty8) (x3:Ty2) (x4:Ty7):Ctx:=⟨Try.f33,[(.row [(.sl 2 (List.map aA x1)),(.sl 3 (List.map aC x2)),(.mp 1),(.ref 4 2 0 0 x4.length .virt)]),(.map (bK .i64 (fun y=>AV.agg (aE y)) x3) x3.length),(.arr 4 (List.map aB x4) 0 0 false)],false⟩
theorem vT (x1:aG) (x2:Ty8) (x3:Ty2) (x4:Ty7):Tri Try.prog 33 [(.hp 0 0)] [(.row [(.sl 2 (List.map aA x1)),(.sl 3 (List.map aC x2)),(.mp 1),(.ref 4 2 0 0 x4.length .virt)]),(.map (bK .i64 (fun y=>AV.agg (aE y)) x3) x3.length),(.arr 4 (List.map aB x4) 0 0 false)] (.bool (!false)) [(.row [(.sl 2 (List.map aA x1)),(.sl 3 (List.map aC x2)),(.mp 1),(.ref 4 2 0 0 x4.length .virt)]),(.map (bK .i64 (fun y=>AV.agg (aE y)) x3) x3.length),(.arr 4 (List.map aB x4) 0 0 false)]:=by
 obtain⟨r,h⟩:∃r,nL x1 x2 x3 x4=r:=⟨_,rfl⟩
 try rw[h]
 unfold nL at h
 obtain rfl:=h
 exact Tri.of (x:=(X33_3 x1 x2 x3 x4)) aD facts33 [dt,dt,dt,dt,dt,dt,.norm 0 ⟨[(2,[])],[],false,[],[]⟩] [⟨(nT rfl)⟩,⟨(nT rfl)⟩,⟨(nT rfl)⟩,⟨(nT rfl)⟩,⟨(nT rfl)⟩,⟨(nT rfl)⟩] (by kernel_rfl)
end Go.Ws

namespace Go.Ws
open Go.Proofs
set_option linter.unusedSimpArgs false
set_option linter.unusedVariables false
set_option maxRecDepth 1000000
set_option maxHeartbeats 4000000
noncomputable def aCI (x9:aG) (x10:Ty8) (x11:Ty2) (x12:Ty7):Ctx:=⟨Try.f47,[(.row [(.sl 2 (List.map aA x9)),(.sl 3 (List.map aC x10)),(.mp 1),(.ref 4 2 0 0 x12.length .virt)]),(.map (bK .i64 (fun y=>AV.agg (aE y)) x11) x11.length),(.arr 4 (List.map aB x12) 0 0 false)],false⟩
noncomputable def L47_3_0:Code:=at_ Try.f47 [1,1,1,1,1,1,1,0,1,4,5]
def S47_3_0 (x2:aG) (x5:Int) (x6:Int) (x7:Int) (x8:Int) (x9:aG) (x11:Ty2) (x12:Ty7) (x13:Ty8 × Int) (cU:Int) (b9:Int):St:=⟨mkT 92 [(5,(.hp 3 0)),(10,(.int .i64 cU)),(75,(.sl 2 (List.map aA x2))),(76,(.int .i64 (nI x2.length))),(77,(.int .i64 b9))],[(.row [(.sl 2 (List.map aA x9)),(.sl 3 (List.map aC x13.1)),(.mp 1),(.ref 4 2 0 0 x12.length .virt)]),(.map (bK .i64 (fun y=>AV.agg (aE y)) x11) x11.length),(.arr 4 (List.map aB x12) 0 0 false),(.row [(.int .i64 x5),(.int .i64 x6),(.int .u8 x7),(.int .i64 x8)])]⟩
def y5 (x9:aG) (x11:Ty2) (x12:Ty7) (x13:Ty8 × Int) (aK7:Int):St:=⟨mkT 92 [(10,(.int .i64 aK7))],[(.row [(.sl 2 (List.map aA x9)),(.sl 3 (List.map aC x13.1)),(.mp 1),(.ref 4 2 0 0 x12.length .virt)]),(.map (bK .i64 (fun y=>AV.agg (aE y)) x11) x11.length),(.arr 4 (List.map aB x12) 0 0 false)]⟩
def O47_3_0 (x2:aG) (x5:Int) (x6:Int) (x7:Int) (x8:Int) (x9:aG) (x10:Ty8) (x11:Ty2) (x12:Ty7) (x13:Ty8 × Int) (y:(Int)):GX:=.st (.exit 0) (y5 x9 x11 x12 x13 y)
def aEX (x13:Ty8 × Int):Ans:=.call ⟨true,[]⟩ (.tup [(.sl 3 (List.map aC x13.1)),(.int .i64 x13.2)]) []
def vD:Ans:=.norm 0 ⟨[(6,[]),(7,[])],[],false,[],[]⟩
theorem g5 (x2:aG) (x5:Int) (x6:Int) (x7:Int) (x8:Int) (x9:aG) (x10:Ty8) (x11:Ty2) (x12:Ty7) (x13:Ty8 × Int) (y:(Int)):∀(k:Nat) (cU:Int) (b9:Int),bR k x2 x5 x6 x7 x8 x9 x10 x11 x12 x13 cU b9=some y→LT Try.prog (aCI x9 x10 x11 x12) L47_3_0 (S47_3_0 x2 x5 x6 x7 x8 x9 x11 x12 x13 cU b9) (O47_3_0 x2 x5 x6 x7 x8 x9 x10 x11 x12 x13 y)
 | 0,cU,b9,h=>by cases h
 | k+1,cU,b9,h=>by
  rw[bR] at h
  by_cases cL0:ltI b9 (nI x2.length)=true
  · rw[if_pos cL0] at h
    by_cases cL1:inI b9 x2.length=true
    · rw[if_pos cL1] at h
      obtain⟨nM,eL2,h⟩:=bsm h
      let u1:List Ans:=[dt,.n x2.length,.row [(.int .u8 nM.1),(.int .i64 nM.2)]]
      let w2:List Prf:=[⟨(bA (e:=aA) eL2 2 0 2 (by decide))⟩,⟨cL1⟩,⟨(aL aA x2)⟩,⟨cL0⟩]
      by_cases cL3:eqI nM.1 x7=true
      · rw[if_pos cL3] at h
        exact LT.next aD (hs:=⟨[(5,[]),(10,[]),(75,[]),(76,[]),(77,[])],[⟨.tmp 5,[],none⟩],false,[],[]⟩) (es:=none) (u1++[dt]) ([⟨cL3⟩]++w2) (by kernel_rfl) (g5 x2 x5 x6 x7 x8 x9 x10 x11 x12 x13 y k (aN .i64 cU nM.2) (aN .i64 b9 1) h)
      rw[if_neg cL3] at h;replace cL3:=eqf cL3
      exact LT.next aD (hs:=⟨[(5,[]),(10,[]),(75,[]),(76,[]),(77,[])],[⟨.tmp 5,[],none⟩],false,[],[]⟩) (es:=none) (u1++[df]) ([⟨cL3⟩]++w2) (by kernel_rfl) (g5 x2 x5 x6 x7 x8 x9 x10 x11 x12 x13 y k cU (aN .i64 b9 1) h)
    rw[if_neg cL1] at h;replace cL1:=eqf cL1
    cases h
  rw[if_neg cL0] at h;replace cL0:=eqf cL0
  obtain rfl:=osi h
  show LT _ _ _ _ (.st (.exit 0) (y5 x9 x11 x12 x13 cU))
  exact LT.done aD (hs:=⟨[],[],false,[],[]⟩) (es:=(some ⟨[(10,[])],[],false,[],[]⟩)) [df] [⟨cL0⟩] (by kernel_rfl) (fun s h=>by cases h)
theorem m8 (k:Nat) (x1:Int) (x2:aG) (x3:Bool) (x4:Int) (x5:Int) (x6:Int) (x7:Int) (x8:Int) (x9:aG) (x10:Ty8) (x11:Ty2) (x12:Ty7) (r:Ty8 × Ty2 × Int × Int) (h:eT k x1 x2 x3 x4 x5 x6 x7 x8 x9 x10 x11 x12=some r):Tri Try.prog 47 [(.hp 0 0),(.agg [(.int .i64 x1),(.sl 2 (List.map aA x2)),(.bool x3),(.int .i64 x4)]),(.agg [(.int .i64 x5),(.int .i64 x6),(.int .u8 x7),(.int .i64 x8)])] [(.row [(.sl 2 (List.map aA x9)),(.sl 3 (List.map aC x10)),(.mp 1),(.ref 4 2 0 0 x12.length .virt)]),(.map (bK .i64 (fun y=>AV.agg (aE y)) x11) x11.length),(.arr 4 (List.map aB x12) 0 0 false)] (.tup [(.int .i64 r.2.2.2),(.int .i64 r.2.2.1)]) [(.row [(.sl 2 (List.map aA x9)),(.sl 3 (List.map aC r.1)),(.mp 1),(.ref 4 2 0 0 x12.length .virt)]),(.map (bK .i64 (fun y=>AV.agg (aE y)) r.2.1) r.2.1.length),(.arr 4 (List.map aB x12) 0 0 false)]:=by
 unfold eT at h
 by_cases c0:eqI x1 0=true
 · rw[if_pos c0] at h
   obtain⟨x13,e1,h⟩:=bsm h
   let w4:List Prf:=[⟨(aEQ k x10 x6 x7 (eqI x5 3) _ e1)⟩,⟨(nF c0)⟩]
   by_cases c2:eqI x13.2 0=true
   · rw[if_pos c2] at h
     by_cases c3:eqI x5 3=true
     · rw[if_pos c3] at h
       obtain⟨x14,e4,h⟩:=bsm h
       let u7:List Ans:=[df,(aEX x13),df,dt,.call ⟨true,[]⟩ (.tup [(.agg [(.int .i64 x14.1),(.sl 2 (List.map aA x14.2.1)),(.bool x14.2.2.1),(.int .i64 x14.2.2.2.1)]),(.int .i64 x14.2.2.2.2)]) []]
       let w8:List Prf:=[⟨(aF5 k x1 x2 x3 x4 x7 x8 _ e4)⟩,⟨c3⟩,⟨(nF c2)⟩]++w4
       by_cases c5:eqI x14.2.2.2.2 0=true
       · rw[if_pos c5] at h
         by_cases c6:jA x11 x6=true
         · rw[if_pos c6] at h
           obtain⟨x15,e7,h⟩:=bsm h
           obtain rfl:=osi h
           exact Tri.of (x:=(aCI x9 x10 x11 x12)) aD uX (u7++[df,.opt (some (.agg [(.int .i64 x15.1),(.sl 2 (List.map aA x15.2.1)),(.bool x15.2.2.1),(.int .i64 x15.2.2.2)])),.n (mIx x11 x6),.ents (bK .i64 (fun y=>AV.agg (aE y)) x11) x11.length,.ents (bK .i64 (fun y=>AV.agg (aE y)) (bG x11 x6 (x14.1,x14.2.1,x14.2.2.1,x14.2.2.2.1))) (bG x11 x6 (x14.1,x14.2.1,x14.2.2.1,x14.2.2.2.1)).length,vD]) ([⟨(aJ1 .i64 (fun y=>AV.agg (aE y)) e7 (x14.1,x14.2.1,x14.2.2.1,x14.2.2.2.1))⟩,⟨(ent_some .i64 (fun y=>AV.agg (aE y)) e7 (.agg [(.int .i64 0),(.sl 2 (List.map aA [])),(.bool false),(.int .i64 0)]))⟩,⟨(aI8 .i64 (fun y=>AV.agg (aE y)) x11 x6)⟩,⟨(eW .i64 (fun y=>AV.agg (aE y)) e7)⟩,⟨(nF c5)⟩]++w8) (by kernel_rfl)
         rw[if_neg c6] at h;replace c6:=eqf c6
         obtain rfl:=osi h
         exact Tri.of (x:=(aCI x9 x10 x11 x12)) aD uX (u7++[df,.opt none,.n (mIx x11 x6),.ents (bK .i64 (fun y=>AV.agg (aE y)) (bG x11 x6 (0,[],false,0))) (bG x11 x6 (0,[],false,0)).length,.ents (bK .i64 (fun y=>AV.agg (aE y)) (bG x11 x6 (x14.1,x14.2.1,x14.2.2.1,x14.2.2.2.1))) (bG x11 x6 (x14.1,x14.2.1,x14.2.2.1,x14.2.2.2.1)).length,vD]) ([⟨(sb_none .i64 (fun y=>AV.agg (aE y)) (l:=x11) (q:=x6) (0,[],false,0) (x14.1,x14.2.1,x14.2.2.1,x14.2.2.2.1))⟩,⟨(ent_none .i64 (fun y=>AV.agg (aE y)) c6 (0,[],false,0))⟩,⟨(aI8 .i64 (fun y=>AV.agg (aE y)) x11 x6)⟩,⟨(gP .i64 (fun y=>AV.agg (aE y)) c6)⟩,⟨(nF c5)⟩]++w8) (by kernel_rfl)
       rw[if_neg c5] at h;replace c5:=eqf c5
       obtain rfl:=osi h
       exact Tri.of (x:=(aCI x9 x10 x11 x12)) aD uX (u7++[dt,vD]) ([⟨(nT c5)⟩]++w8) (by kernel_rfl)
     rw[if_neg c3] at h;replace c3:=eqf c3
     obtain⟨x14,e4,h⟩:=bsm h
     obtain⟨x16,e5,h⟩:=bsm h
     obtain rfl:=osi h
     exact Tri.of (x:=(aCI x9 x10 x11 x12)) aD uX [df,(aEX x13),df,df,.call ⟨true,[]⟩ (.int .i64 x14) [],.n x2.length,.norm 2 ⟨[(5,[]),(10,[]),(75,[]),(76,[]),(77,[])],[⟨.tmp 5,[],none⟩],false,[],[]⟩,.out (.st .normal (y5 x9 x11 x12 x13 x16)),vD] ([⟨(LT.block (g5 x2 x5 x6 x7 x8 x9 x10 x11 x12 x13 _ k x14 0 e5))⟩,⟨(aL aA x2)⟩,⟨(aCS k x9 x7 _ e4)⟩,⟨c3⟩,⟨(nF c2)⟩]++w4) (by kernel_rfl)
   rw[if_neg c2] at h;replace c2:=eqf c2
   obtain rfl:=osi h
   exact Tri.of (x:=(aCI x9 x10 x11 x12)) aD uX [df,(aEX x13),dt,vD] ([⟨(nT c2)⟩]++w4) (by kernel_rfl)
 rw[if_neg c0] at h;replace c0:=eqf c0
 obtain rfl:=osi h
 exact Tri.of (x:=(aCI x9 x10 x11 x12)) aD uX [dt,vD] [⟨(nT c0)⟩] (by kernel_rfl)
end Go.Ws

namespace Go.Ws
open Go.Proofs
set_option linter.unusedSimpArgs false
set_option linter.unusedVariables false
set_option maxRecDepth 1000000
set_option maxHeartbeats 4000000
noncomputable def v5 (x9:aG) (x10:Ty8) (x11:Ty2) (x12:Ty7):Ctx:=⟨Try.f48,[(.row [(.sl 2 (List.map aA x9)),(.sl 3 (List.map aC x10)),(.mp 1),(.ref 4 2 0 0 x12.length .virt)]),(.map (bK .i64 (fun y=>AV.agg (aE y)) x11) x11.length),(.arr 4 (List.map aB x12) 0 0 false)],false⟩
def aJJ (x13:Int × aG × Bool × Int × Int):Ans:=.call ⟨true,[]⟩ (.tup [(.agg [(.int .i64 x13.1),(.sl 2 (List.map aA x13.2.1)),(.bool x13.2.2.1),(.int .i64 x13.2.2.2.1)]),(.int .i64 x13.2.2.2.2)]) []
def aAU (x15:Ty8):Ans:=.call ⟨true,[]⟩ (.sl 3 (List.map aC x15)) []
def aA0 (x13:Int × aG × Bool × Int × aG × Int):Ans:=.call ⟨true,[]⟩ (.tup [(.agg [(.int .i64 x13.1),(.sl 2 (List.map aA x13.2.1)),(.bool x13.2.2.1),(.int .i64 x13.2.2.2.1)]),(.sl 2 (List.map aA x13.2.2.2.2.1)),(.int .i64 x13.2.2.2.2.2)]) []
def aFE (x6:Int) (x11:Ty2) (x13:Int × aG × Bool × Int × aG × Int):Ans:=.ents (bK .i64 (fun y=>AV.agg (aE y)) (bG x11 x6 (x13.1,x13.2.1,x13.2.2.1,x13.2.2.2.1))) (bG x11 x6 (x13.1,x13.2.1,x13.2.2.1,x13.2.2.2.1)).length
def aEV (x14:aG × Int):Ans:=.call ⟨true,[]⟩ (.tup [(.sl 2 (List.map aA x14.1)),(.int .i64 x14.2)]) []
theorem wE (k:Nat) (x1:Int) (x2:aG) (x3:Bool) (x4:Int) (x5:Int) (x6:Int) (x7:Int) (x8:Int) (x9:aG) (x10:Ty8) (x11:Ty2) (x12:Ty7) (r:aG × Ty8 × Ty2 × Int) (h:gQ k x1 x2 x3 x4 x5 x6 x7 x8 x9 x10 x11 x12=some r):Tri Try.prog 48 [(.hp 0 0),(.agg [(.int .i64 x1),(.sl 2 (List.map aA x2)),(.bool x3),(.int .i64 x4)]),(.agg [(.int .i64 x5),(.int .i64 x6),(.int .u8 x7),(.int .i64 x8)])] [(.row [(.sl 2 (List.map aA x9)),(.sl 3 (List.map aC x10)),(.mp 1),(.ref 4 2 0 0 x12.length .virt)]),(.map (bK .i64 (fun y=>AV.agg (aE y)) x11) x11.length),(.arr 4 (List.map aB x12) 0 0 false)] (.int .i64 r.2.2.2) [(.row [(.sl 2 (List.map aA r.1)),(.sl 3 (List.map aC r.2.1)),(.mp 1),(.ref 4 2 0 0 x12.length .virt)]),(.map (bK .i64 (fun y=>AV.agg (aE y)) r.2.2.1) r.2.2.1.length),(.arr 4 (List.map aB x12) 0 0 false)]:=by
 unfold gQ at h
 by_cases c0:eqI x5 4=true
 · rw[if_pos c0] at h
   obtain⟨x13,e1,h⟩:=bsm h
   let w2:List Prf:=[⟨(aEW k x1 x2 x3 x4 (!eqI x8 0) _ e1)⟩,⟨c0⟩]
   by_cases c2:eqI x13.2.2.2.2 0=true
   · rw[if_pos c2] at h
     obtain⟨x14,e3,h⟩:=bsm h
     let u3:List Ans:=[dt,(aJJ x13),df,.ents (bK .i64 (fun y=>AV.agg (aE y)) (bG x11 x6 (x13.1,x13.2.1,x13.2.2.1,x13.2.2.2.1))) (bG x11 x6 (x13.1,x13.2.1,x13.2.2.1,x13.2.2.2.1)).length,.call ⟨true,[[],[(0,2)]]⟩ (.tup [(.sl 2 (List.map aA x14.1)),(.int .i64 x14.2)]) [],df,df,df,df]
     let w4:List Prf:=[⟨(nF c0)⟩,⟨(nF c0)⟩,⟨(nF c0)⟩,⟨(nF c0)⟩,⟨(kR k x9 [] _ e3)⟩,⟨(gK .i64 (fun y=>AV.agg (aE y)) x11 x6 (x13.1,x13.2.1,x13.2.2.1,x13.2.2.2.1))⟩,⟨(nF c2)⟩]++w2
     by_cases c4:eqI x13.1 2=true
     · rw[if_pos c4] at h
       obtain⟨x15,e5,h⟩:=bsm h
       obtain rfl:=osi h
       exact Tri.of (x:=(v5 x9 x10 x11 x12)) aD nZ (u3++[dt,(aAU x15),.norm 0 ⟨[(6,[])],[],false,[],[]⟩]) ([⟨(o5 k x10 x6 _ e5)⟩,⟨c4⟩]++w4) (by kernel_rfl)
     rw[if_neg c4] at h;replace c4:=eqf c4
     obtain rfl:=osi h
     exact Tri.of (x:=(v5 x9 x10 x11 x12)) aD nZ (u3++[df,.norm 0 ⟨[(6,[])],[],false,[],[]⟩]) ([⟨c4⟩]++w4) (by kernel_rfl)
   rw[if_neg c2] at h;replace c2:=eqf c2
   obtain rfl:=osi h
   exact Tri.of (x:=(v5 x9 x10 x11 x12)) aD nZ [dt,(aJJ x13),dt,.norm 0 ⟨[(6,[])],[],false,[],[]⟩] ([⟨(nT c2)⟩]++w2) (by kernel_rfl)
 rw[if_neg c0] at h;replace c0:=eqf c0
 by_cases c1:eqI x5 5=true
 · rw[if_pos c1] at h
   obtain⟨x13,e2,h⟩:=bsm h
   let w8:List Prf:=[⟨(aCY k x1 x2 x3 x4 _ e2)⟩,⟨c1⟩,⟨c0⟩]
   by_cases c3:eqI x13.2.2.2.2.2 0=true
   · rw[if_pos c3] at h
     obtain⟨x14,e4,h⟩:=bsm h
     obtain⟨x15,e5,h⟩:=bsm h
     obtain rfl:=osi h
     exact Tri.of (x:=(v5 x9 x10 x11 x12)) aD nZ [df,dt,(aA0 x13),df,(aFE x6 x11 x13),(aEV x14),dt,dt,dt,dt,dt,(aAU x15),.norm 0 ⟨[(6,[])],[],false,[],[]⟩] ([⟨(o5 k x10 x6 _ e5)⟩,⟨rT⟩,⟨(nT c0)⟩,⟨(nT c0)⟩,⟨(nT c0)⟩,⟨(nT c0)⟩,⟨(kR k x9 x13.2.2.2.2.1 _ e4)⟩,⟨(gK .i64 (fun y=>AV.agg (aE y)) x11 x6 (x13.1,x13.2.1,x13.2.2.1,x13.2.2.2.1))⟩,⟨(nF c3)⟩]++w8) (by kernel_rfl)
   rw[if_neg c3] at h;replace c3:=eqf c3
   obtain rfl:=osi h
   exact Tri.of (x:=(v5 x9 x10 x11 x12)) aD nZ [df,dt,(aA0 x13),dt,.norm 0 ⟨[(6,[])],[],false,[],[]⟩] ([⟨(nT c3)⟩]++w8) (by kernel_rfl)
 rw[if_neg c1] at h;replace c1:=eqf c1
 by_cases c2:eqI x8 1=true
 · rw[if_pos c2] at h
   obtain⟨x13,e3,h⟩:=bsm h
   let u11:List Ans:=[df,df,dt,dt,dt,dt,dt,(aA0 x13)]
   let w12:List Prf:=[⟨(tR k x1 x2 x3 x4 x8 _ e3)⟩,⟨rT⟩,⟨c2⟩,⟨c2⟩,⟨c2⟩,⟨c2⟩,⟨c1⟩,⟨c0⟩]
   by_cases c4:eqI x13.2.2.2.2.2 0=true
   · rw[if_pos c4] at h
     obtain⟨x14,e5,h⟩:=bsm h
     obtain⟨x15,e6,h⟩:=bsm h
     obtain rfl:=osi h
     exact Tri.of (x:=(v5 x9 x10 x11 x12)) aD nZ (u11++[df,(aFE x6 x11 x13),(aEV x14),dt,dt,dt,dt,dt,(aAU x15),.norm 0 ⟨[(6,[])],[],false,[],[]⟩]) ([⟨(o5 k x10 x6 _ e6)⟩,⟨rT⟩,⟨(nT c0)⟩,⟨(nT c0)⟩,⟨(nT c0)⟩,⟨(nT c0)⟩,⟨(kR k x9 x13.2.2.2.2.1 _ e5)⟩,⟨(gK .i64 (fun y=>AV.agg (aE y)) x11 x6 (x13.1,x13.2.1,x13.2.2.1,x13.2.2.2.1))⟩,⟨(nF c4)⟩]++w12) (by kernel_rfl)
   rw[if_neg c4] at h;replace c4:=eqf c4
   obtain rfl:=osi h
   exact Tri.of (x:=(v5 x9 x10 x11 x12)) aD nZ (u11++[dt,.norm 0 ⟨[(6,[])],[],false,[],[]⟩]) ([⟨(nT c4)⟩]++w12) (by kernel_rfl)
 rw[if_neg c2] at h;replace c2:=eqf c2
 let w14:List Prf:=[⟨c2⟩,⟨c2⟩,⟨c2⟩,⟨c2⟩,⟨c1⟩,⟨c0⟩]
 by_cases c3:eqI x8 2=true
 · rw[if_pos c3] at h
   obtain⟨x13,e4,h⟩:=bsm h
   let u15:List Ans:=[df,df,df,df,df,df,dt,(aA0 x13)]
   let w16:List Prf:=[⟨(tR k x1 x2 x3 x4 x8 _ e4)⟩,⟨c3⟩]++w14
   by_cases c5:eqI x13.2.2.2.2.2 0=true
   · rw[if_pos c5] at h
     obtain⟨x14,e6,h⟩:=bsm h
     obtain⟨x15,e7,h⟩:=bsm h
     obtain rfl:=osi h
     exact Tri.of (x:=(v5 x9 x10 x11 x12)) aD nZ (u15++[df,(aFE x6 x11 x13),(aEV x14),dt,dt,dt,dt,dt,(aAU x15),.norm 0 ⟨[(6,[])],[],false,[],[]⟩]) ([⟨(o5 k x10 x6 _ e7)⟩,⟨rT⟩,⟨(nT c0)⟩,⟨(nT c0)⟩,⟨(nT c0)⟩,⟨(nT c0)⟩,⟨(kR k x9 x13.2.2.2.2.1 _ e6)⟩,⟨(gK .i64 (fun y=>AV.agg (aE y)) x11 x6 (x13.1,x13.2.1,x13.2.2.1,x13.2.2.2.1))⟩,⟨(nF c5)⟩]++w16) (by kernel_rfl)
   rw[if_neg c5] at h;replace c5:=eqf c5
   obtain rfl:=osi h
   exact Tri.of (x:=(v5 x9 x10 x11 x12)) aD nZ (u15++[dt,.norm 0 ⟨[(6,[])],[],false,[],[]⟩]) ([⟨(nT c5)⟩]++w16) (by kernel_rfl)
 rw[if_neg c3] at h;replace c3:=eqf c3
 obtain rfl:=osi h
 exact Tri.of (x:=(v5 x9 x10 x11 x12)) aD nZ [df,df,df,df,df,df,df,dt,.norm 0 ⟨[(6,[])],[],false,[],[]⟩] ([⟨(nT (rfl:eqI 2 0=false))⟩,⟨c3⟩]++w14) (by kernel_rfl)
end Go.Ws

namespace Go.Ws
open Go.Proofs
set_option linter.unusedSimpArgs false
set_option linter.unusedVariables false
set_option maxRecDepth 1000000
set_option maxHeartbeats 4000000
noncomputable def X34_3 (x9:aG) (x10:Ty8) (x11:Ty2) (x12:Ty7):Ctx:=⟨Try.f34,[(.row [(.sl 2 (List.map aA x9)),(.sl 3 (List.map aC x10)),(.mp 1),(.ref 4 2 0 0 x12.length .virt)]),(.map (bK .i64 (fun y=>AV.agg (aE y)) x11) x11.length),(.arr 4 (List.map aB x12) 0 0 false)],false⟩
def aA3:Ans:=.norm 0 ⟨[(6,[]),(7,[])],[],false,[],[]⟩
def aJD (x9:aG) (x12:Ty7) (x13:Ty8 × Ty2 × Int × Int):Ans:=.call ⟨true,[]⟩ (.tup [(.int .i64 x13.2.2.2),(.int .i64 x13.2.2.1)]) [(.row [(.sl 2 (List.map aA x9)),(.sl 3 (List.map aC x13.1)),(.mp 1),(.ref 4 2 0 0 x12.length .virt)]),(.map (bK .i64 (fun y=>AV.agg (aE y)) x13.2.1) x13.2.1.length),(.arr 4 (List.map aB x12) 0 0 false)]
theorem oY (k:Nat) (x1:Int) (x2:aG) (x3:Bool) (x4:Int) (x5:Int) (x6:Int) (x7:Int) (x8:Int) (x9:aG) (x10:Ty8) (x11:Ty2) (x12:Ty7) (r:Int × Int × Ty8 × Ty2 × aG) (h:fM k x1 x2 x3 x4 x5 x6 x7 x8 x9 x10 x11 x12=some r):Tri Try.prog 34 [(.hp 0 0),(.agg [(.int .i64 x1),(.sl 2 (List.map aA x2)),(.bool x3),(.int .i64 x4)]),(.agg [(.int .i64 x5),(.int .i64 x6),(.int .u8 x7),(.int .i64 x8)])] [(.row [(.sl 2 (List.map aA x9)),(.sl 3 (List.map aC x10)),(.mp 1),(.ref 4 2 0 0 x12.length .virt)]),(.map (bK .i64 (fun y=>AV.agg (aE y)) x11) x11.length),(.arr 4 (List.map aB x12) 0 0 false)] (.tup [(.int .i64 r.1),(.int .i64 r.2.1)]) [(.row [(.sl 2 (List.map aA r.2.2.2.2)),(.sl 3 (List.map aC r.2.2.1)),(.mp 1),(.ref 4 2 0 0 x12.length .virt)]),(.map (bK .i64 (fun y=>AV.agg (aE y)) r.2.2.2.1) r.2.2.2.1.length),(.arr 4 (List.map aB x12) 0 0 false)]:=by
 unfold fM at h
 by_cases c0:eqI x5 1=true
 · rw[if_pos c0] at h
   obtain rfl:=osi h
   exact Tri.of (x:=(X34_3 x9 x10 x11 x12)) aD aA2 [dt,.ents (bK .i64 (fun y=>AV.agg (aE y)) (bG x11 x6 (x1,x2,x3,x4))) (bG x11 x6 (x1,x2,x3,x4)).length,aA3] [⟨(gK .i64 (fun y=>AV.agg (aE y)) x11 x6 (x1,x2,x3,x4))⟩,⟨c0⟩] (by kernel_rfl)
 rw[if_neg c0] at h;replace c0:=eqf c0
 by_cases c1:eqI x5 2=true
 · rw[if_pos c1] at h
   obtain⟨x13,e2,h⟩:=bsm h
   obtain rfl:=osi h
   exact Tri.of (x:=(X34_3 x9 x10 x11 x12)) aD aA2 [df,dt,dt,(aJD x9 x12 x13),aA3] [⟨(m8 k x1 x2 x3 x4 x5 x6 x7 x8 x9 x10 x11 x12 _ e2)⟩,⟨c1⟩,⟨c1⟩,⟨c0⟩] (by kernel_rfl)
 rw[if_neg c1] at h;replace c1:=eqf c1
 by_cases c2:eqI x5 3=true
 · rw[if_pos c2] at h
   obtain⟨x13,e3,h⟩:=bsm h
   obtain rfl:=osi h
   exact Tri.of (x:=(X34_3 x9 x10 x11 x12)) aD aA2 [df,df,dt,(aJD x9 x12 x13),aA3] [⟨(m8 k x1 x2 x3 x4 x5 x6 x7 x8 x9 x10 x11 x12 _ e3)⟩,⟨c2⟩,⟨c1⟩,⟨c0⟩] (by kernel_rfl)
 rw[if_neg c2] at h;replace c2:=eqf c2
 obtain⟨x13,e3,h⟩:=bsm h
 obtain rfl:=osi h
 exact Tri.of (x:=(X34_3 x9 x10 x11 x12)) aD aA2 [df,df,df,.call ⟨true,[]⟩ (.int .i64 x13.2.2.2) [(.row [(.sl 2 (List.map aA x13.1)),(.sl 3 (List.map aC x13.2.1)),(.mp 1),(.ref 4 2 0 0 x12.length .virt)]),(.map (bK .i64 (fun y=>AV.agg (aE y)) x13.2.2.1) x13.2.2.1.length),(.arr 4 (List.map aB x12) 0 0 false)],aA3] [⟨(wE k x1 x2 x3 x4 x5 x6 x7 x8 x9 x10 x11 x12 _ e3)⟩,⟨c2⟩,⟨c1⟩,⟨c0⟩] (by kernel_rfl)
end Go.Ws

namespace Go.Ws
open Go.Proofs
set_option linter.unusedSimpArgs false
set_option linter.unusedVariables false
set_option maxRecDepth 1000000
set_option maxHeartbeats 4000000
noncomputable def vZ (x5:aG) (x6:Ty8) (x7:Ty2) (x8:Ty7):Ctx:=⟨Try.f21,[(.row [(.sl 2 (List.map aA x5)),(.sl 3 (List.map aC x6)),(.mp 1),(.ref 4 2 0 0 x8.length .virt)]),(.map (bK .i64 (fun y=>AV.agg (aE y)) x7) x7.length),(.arr 4 (List.map aB x8) 0 0 false)],false⟩
def aI3 (x5:aG) (x6:Ty8) (x7:Ty2) (x8:Ty7):Ans:=.call ⟨true,[]⟩ (.bool (!false)) [(.row [(.sl 2 (List.map aA x5)),(.sl 3 (List.map aC x6)),(.mp 1),(.ref 4 2 0 0 x8.length .virt)]),(.map (bK .i64 (fun y=>AV.agg (aE y)) x7) x7.length),(.arr 4 (List.map aB x8) 0 0 false)]
def nV:Ans:=.norm 0 ⟨[(4,[]),(5,[])],[],false,[],[none,none,some 1]⟩
theorem xC (k:Nat) (x1:Int) (x2:Int) (x3:Int) (x4:Int) (x5:aG) (x6:Ty8) (x7:Ty2) (x8:Ty7) (r:Int × Int × aG × Ty8 × Ty2 × Ty7) (h:iE k x1 x2 x3 x4 x5 x6 x7 x8=some r):Tri Try.prog 21 [(.hp 0 0),(.agg [(.int .i64 x1),(.int .i64 x2),(.int .u8 x3),(.int .i64 x4)])] [(.row [(.sl 2 (List.map aA x5)),(.sl 3 (List.map aC x6)),(.mp 1),(.ref 4 2 0 0 x8.length .virt)]),(.map (bK .i64 (fun y=>AV.agg (aE y)) x7) x7.length),(.arr 4 (List.map aB x8) 0 0 false)] (.tup [(.int .i64 r.2.1),(.int .i64 r.1)]) [(.row [(.sl 2 (List.map aA r.2.2.1)),(.sl 3 (List.map aC r.2.2.2.1)),(.mp 1),(.ref 4 2 1 0 r.2.2.2.2.2.length .virt)]),(.map (bK .i64 (fun y=>AV.agg (aE y)) r.2.2.2.2.1) r.2.2.2.2.1.length),(.arr 4 (List.map aB r.2.2.2.2.2) 1 1 false)]:=by
 unfold iE at h
 let w2:List Prf:=[⟨(nF (nT rfl))⟩,⟨(vT x5 x6 x7 x8)⟩]
 by_cases c0:ltI x1 1=true
 · rw[if_pos c0] at h
   obtain rfl:=osi h
   exact Tri.of (x:=(vZ x5 x6 x7 x8)) aD nS [(aI3 x5 x6 x7 x8),df,dt,dt,dt,dt,dt,dt,dt,dt,dt,dt,dt,dt,dt,nV] ([⟨rT⟩,⟨rT⟩,⟨rT⟩,⟨rT⟩,⟨rT⟩,⟨rT⟩,⟨rT⟩,⟨rT⟩,⟨rT⟩,⟨c0⟩,⟨c0⟩,⟨c0⟩,⟨c0⟩]++w2) (by kernel_rfl)
 rw[if_neg c0] at h;replace c0:=eqf c0
 let u3:List Ans:=[(aI3 x5 x6 x7 x8),df,df,df,df,df]
 by_cases c1:ltI 6 x1=true
 · rw[if_pos c1] at h
   obtain rfl:=osi h
   exact Tri.of (x:=(vZ x5 x6 x7 x8)) aD nS (u3++[dt,dt,dt,dt,dt,dt,dt,dt,dt,nV]) ([⟨rT⟩,⟨rT⟩,⟨rT⟩,⟨rT⟩,⟨rT⟩,⟨c1⟩,⟨c1⟩,⟨c1⟩,⟨c1⟩,⟨c0⟩,⟨c0⟩,⟨c0⟩,⟨c0⟩]++w2) (by kernel_rfl)
 rw[if_neg c1] at h;replace c1:=eqf c1
 let w6:List Prf:=[⟨c1⟩,⟨c1⟩,⟨c1⟩,⟨c1⟩,⟨c0⟩,⟨c0⟩,⟨c0⟩,⟨c0⟩]++w2
 by_cases c2:ltI x2 0=true
 · rw[if_pos c2] at h
   obtain rfl:=osi h
   exact Tri.of (x:=(vZ x5 x6 x7 x8)) aD nS (u3++[df,df,df,df,dt,dt,dt,dt,dt,nV]) ([⟨rT⟩,⟨c2⟩,⟨c2⟩,⟨c2⟩,⟨c2⟩]++w6) (by kernel_rfl)
 rw[if_neg c2] at h;replace c2:=eqf c2
 let u7:List Ans:=u3++[df,df,df,df,df,df,df,df]
 by_cases c3:ltI x2 1000=true
 · rw[if_pos c3] at h
   let w10:List Prf:=[⟨(nF c3)⟩,⟨c2⟩,⟨c2⟩,⟨c2⟩,⟨c2⟩]++w6
   by_cases c4:jA x7 x2=true
   · rw[if_pos c4] at h
     obtain⟨x9,e5,h⟩:=bsm h
     let w12:List Prf:=[⟨(eW .i64 (fun y=>AV.agg (aE y)) e5)⟩]++w10
     by_cases c6:eqB true (eqI x1 1)=true
     · rw[if_pos c6] at h
       obtain rfl:=osi h
       exact Tri.of (x:=(vZ x5 x6 x7 x8)) aD nS (u7++[df,.opt (some (.agg [(.int .i64 x9.1),(.sl 2 (List.map aA x9.2.1)),(.bool x9.2.2.1),(.int .i64 x9.2.2.2)])),dt,dt,nV]) ([⟨rT⟩,⟨c6⟩]++w12) (by kernel_rfl)
     rw[if_neg c6] at h;replace c6:=eqf c6
     obtain⟨x10,e7,h⟩:=bsm h
     let u13:List Ans:=u7++[df,.opt (some (.agg [(.int .i64 x9.1),(.sl 2 (List.map aA x9.2.1)),(.bool x9.2.2.1),(.int .i64 x9.2.2.2)])),df,.call ⟨true,[]⟩ (.tup [(.int .i64 x10.1),(.int .i64 x10.2.1)]) [(.row [(.sl 2 (List.map aA x10.2.2.2.2)),(.sl 3 (List.map aC x10.2.2.1)),(.mp 1),(.ref 4 2 0 0 x8.length .virt)]),(.map (bK .i64 (fun y=>AV.agg (aE y)) x10.2.2.2.1) x10.2.2.2.1.length),(.arr 4 (List.map aB x8) 0 0 false)]]
     let w14:List Prf:=[⟨(oY k x9.1 x9.2.1 x9.2.2.1 x9.2.2.2 x1 x2 x3 x4 x5 x6 x7 x8 _ e7)⟩,⟨c6⟩]++w12
     by_cases c8:eqI x10.2.1 0=true
     · rw[if_pos c8] at h
       by_cases c9:fD (((x8++[(x1,x2,x3,x4)]).length)*32)=true
       · rw[if_pos c9] at h
         obtain rfl:=osi h
         exact Tri.of (x:=(vZ x5 x6 x7 x8)) aD nS (u13++[df,.rows (List.map aB [(x1,x2,x3,x4)]),.n ((x8++[(x1,x2,x3,x4)]).length),.n x8.length,dt,.rows (List.map aB (x8++[(x1,x2,x3,x4)])),nV]) ([⟨(sE aB x8 [(x1,x2,x3,x4)])⟩,⟨(rG x8.length)⟩,⟨(aL aB x8)⟩,⟨c9⟩,⟨(by simp only[wl,List.length_map,List.map_nil,List.map_cons]<;>omega:x8.length+(List.map aB [(x1,x2,x3,x4)]).length=(x8++[(x1,x2,x3,x4)]).length)⟩,⟨(bJ aB (l:=[(x1,x2,x3,x4)]) (n:=1) rfl)⟩,⟨(dJ aB (Nat.le_refl 1):0+1≤(List.map aB [(x1,x2,x3,x4)]).length)⟩,⟨(nF c8)⟩]++w14) (by kernel_rfl)
       rw[if_neg c9] at h;replace c9:=eqf c9
       cases h
     rw[if_neg c8] at h;replace c8:=eqf c8
     obtain rfl:=osi h
     exact Tri.of (x:=(vZ x5 x6 x7 x8)) aD nS (u13++[dt,nV]) ([⟨(nT c8)⟩]++w14) (by kernel_rfl)
   rw[if_neg c4] at h;replace c4:=eqf c4
   let w16:List Prf:=[⟨(gP .i64 (fun y=>AV.agg (aE y)) c4)⟩]++w10
   by_cases c5:eqB false (eqI x1 1)=true
   · rw[if_pos c5] at h
     obtain rfl:=osi h
     exact Tri.of (x:=(vZ x5 x6 x7 x8)) aD nS (u7++[df,.opt none,dt,df,nV]) ([⟨rF⟩,⟨c5⟩]++w16) (by kernel_rfl)
   rw[if_neg c5] at h;replace c5:=eqf c5
   obtain⟨x9,e6,h⟩:=bsm h
   let u17:List Ans:=u7++[df,.opt none,df,.call ⟨true,[]⟩ (.tup [(.int .i64 x9.1),(.int .i64 x9.2.1)]) [(.row [(.sl 2 (List.map aA x9.2.2.2.2)),(.sl 3 (List.map aC x9.2.2.1)),(.mp 1),(.ref 4 2 0 0 x8.length .virt)]),(.map (bK .i64 (fun y=>AV.agg (aE y)) x9.2.2.2.1) x9.2.2.2.1.length),(.arr 4 (List.map aB x8) 0 0 false)]]
   let w18:List Prf:=[⟨(oY k 0 [] false 0 x1 x2 x3 x4 x5 x6 x7 x8 _ e6)⟩,⟨c5⟩]++w16
   by_cases c7:eqI x9.2.1 0=true
   · rw[if_pos c7] at h
     by_cases c8:fD (((x8++[(x1,x2,x3,x4)]).length)*32)=true
     · rw[if_pos c8] at h
       obtain rfl:=osi h
       exact Tri.of (x:=(vZ x5 x6 x7 x8)) aD nS (u17++[df,.rows (List.map aB [(x1,x2,x3,x4)]),.n ((x8++[(x1,x2,x3,x4)]).length),.n x8.length,dt,.rows (List.map aB (x8++[(x1,x2,x3,x4)])),nV]) ([⟨(sE aB x8 [(x1,x2,x3,x4)])⟩,⟨(rG x8.length)⟩,⟨(aL aB x8)⟩,⟨c8⟩,⟨(by simp only[wl,List.length_map,List.map_nil,List.map_cons]<;>omega:x8.length+(List.map aB [(x1,x2,x3,x4)]).length=(x8++[(x1,x2,x3,x4)]).length)⟩,⟨(bJ aB (l:=[(x1,x2,x3,x4)]) (n:=1) rfl)⟩,⟨(dJ aB (Nat.le_refl 1):0+1≤(List.map aB [(x1,x2,x3,x4)]).length)⟩,⟨(nF c7)⟩]++w18) (by kernel_rfl)
     rw[if_neg c8] at h;replace c8:=eqf c8
     cases h
   rw[if_neg c7] at h;replace c7:=eqf c7
   obtain rfl:=osi h
   exact Tri.of (x:=(vZ x5 x6 x7 x8)) aD nS (u17++[dt,nV]) ([⟨(nT c7)⟩]++w18) (by kernel_rfl)
 rw[if_neg c3] at h;replace c3:=eqf c3
 obtain rfl:=osi h
 exact Tri.of (x:=(vZ x5 x6 x7 x8)) aD nS (u7++[dt,nV]) ([⟨(nT c3)⟩,⟨c2⟩,⟨c2⟩,⟨c2⟩,⟨c2⟩]++w6) (by kernel_rfl)
end Go.Ws

namespace Go.Ws
open Go.Proofs
set_option linter.unusedSimpArgs false
set_option linter.unusedVariables false
set_option maxRecDepth 1000000
set_option maxHeartbeats 4000000
noncomputable def X27:Ctx:=⟨Try.f27,[],false⟩
noncomputable def L27_0:Code:=at_ Try.f27 [1,1,0,1,4,5]
def S27_0 (x1:Ty7) (dR:Int) (eH:aG) (eI:Ty8) (d7:Ty2) (d8:Ty7):St:=⟨mkT 26 [(4,(.hp 0 0)),(10,(.sl 4 (List.map aB x1))),(11,(.int .i64 (nI x1.length))),(12,(.int .i64 dR))],[(.row [(.sl 2 (List.map aA eH)),(.sl 3 (List.map aC eI)),(.mp 1),(.ref 4 2 0 0 d8.length .virt)]),(.map (bK .i64 (fun y=>AV.agg (aE y)) d7) d7.length),(.arr 4 (List.map aB d8) 0 0 false)]⟩
def aDW (v27002_1:aG) (v27002_2:Ty8) (aHC:Ty2) (aHD:Ty7):St:=⟨mkT 26 [(4,(.hp 0 0))],[(.row [(.sl 2 (List.map aA v27002_1)),(.sl 3 (List.map aC v27002_2)),(.mp 1),(.ref 4 2 0 0 aHD.length .virt)]),(.map (bK .i64 (fun y=>AV.agg (aE y)) aHC) aHC.length),(.arr 4 (List.map aB aHD) 0 0 false)]⟩
def O27_0 (x1:Ty7) (y:Ty0):GX:=match y with
 | .inl y=>.st (.exit 0) (aDW y.1 y.2.1 y.2.2.1 y.2.2.2)
 | .inr y=>.fin (Sum.elim (fun y=>(.tup [(.hp 0 0),(.int .i64 0)])) (fun y=>(.tup [.nilp,(.int .i64 4)])) y) (Sum.elim (fun y=>[(.row [(.sl 2 (List.map aA y.1)),(.sl 3 (List.map aC y.2.1)),(.mp 1),(.ref 4 2 0 0 y.2.2.2.length .virt)]),(.map (bK .i64 (fun y=>AV.agg (aE y)) y.2.2.1) y.2.2.1.length),(.arr 4 (List.map aB y.2.2.2) 0 0 false)]) (fun y=>[]) y)
theorem mK (x1:Ty7) (y:Ty0):∀(k:Nat) (dR:Int) (eH:aG) (eI:Ty8) (d7:Ty2) (d8:Ty7),eP k x1 dR eH eI d7 d8=some y→LT Try.prog X27 L27_0 (S27_0 x1 dR eH eI d7 d8) (O27_0 x1 y)
 | 0,dR,eH,eI,d7,d8,h=>by cases h
 | k+1,dR,eH,eI,d7,d8,h=>by
  rw[eP] at h
  by_cases cL0:ltI dR (nI x1.length)=true
  · rw[if_pos cL0] at h
    by_cases cL1:inI dR x1.length=true
    · rw[if_pos cL1] at h
      obtain⟨iK,eL2,h⟩:=bsm h
      obtain⟨dK,eL3,h⟩:=bsm h
      let u1:List Ans:=[dt,.n x1.length,.row [(.int .i64 iK.1),(.int .i64 iK.2.1),(.int .u8 iK.2.2.1),(.int .i64 iK.2.2.2)],.call ⟨true,[]⟩ (.tup [(.int .i64 dK.2.1),(.int .i64 dK.1)]) [(.row [(.sl 2 (List.map aA dK.2.2.1)),(.sl 3 (List.map aC dK.2.2.2.1)),(.mp 1),(.ref 4 2 1 0 dK.2.2.2.2.2.length .virt)]),(.map (bK .i64 (fun y=>AV.agg (aE y)) dK.2.2.2.2.1) dK.2.2.2.2.1.length),(.arr 4 (List.map aB dK.2.2.2.2.2) 1 1 false)]]
      let w2:List Prf:=[⟨(xC k iK.1 iK.2.1 iK.2.2.1 iK.2.2.2 eH eI d7 d8 _ eL3)⟩,⟨(bA (e:=aB) eL2 4 0 4 (by decide))⟩,⟨cL1⟩,⟨(aL aB x1)⟩,⟨cL0⟩]
      by_cases cL4:eqI dK.1 0=true
      · rw[if_pos cL4] at h
        exact LT.next aD (hs:=⟨[(4,[]),(10,[]),(11,[]),(12,[])],[⟨.tmp 4,[],none⟩,⟨.cell 0 2,[],none⟩,⟨.cell 0 3,[],some 4⟩],false,[],[]⟩) (es:=none) (u1++[df,.n dK.2.2.2.2.2.length,.rows (List.map aB dK.2.2.2.2.2)]) ([⟨(cM aB (l:=dK.2.2.2.2.2) (n:=dK.2.2.2.2.2.length) rfl)⟩,⟨(rfl:dK.2.2.2.2.2.length=dK.2.2.2.2.2.length)⟩,⟨(zle dK.2.2.2.2.2.length)⟩,⟨(nF cL4)⟩]++w2) (by kernel_rfl) (mK x1 y k (aN .i64 dR 1) dK.2.2.1 dK.2.2.2.1 dK.2.2.2.2.1 dK.2.2.2.2.2 h)
      rw[if_neg cL4] at h;replace cL4:=eqf cL4
      obtain rfl:=osi h
      show LT _ _ _ _ (.fin (.tup [.nilp,(.int .i64 4)]) [])
      exact LT.done aD (hs:=⟨[],[],false,[],[]⟩) (es:=none) (u1++[dt,.norm 0 ⟨[(2,[]),(3,[])],[],false,[],[]⟩]) ([⟨(nT cL4)⟩]++w2) (by kernel_rfl) (fun s h=>by cases h)
    rw[if_neg cL1] at h;replace cL1:=eqf cL1
    cases h
  rw[if_neg cL0] at h;replace cL0:=eqf cL0
  obtain rfl:=osi h
  show LT _ _ _ _ (.st (.exit 0) (aDW eH eI d7 d8))
  exact LT.done aD (hs:=⟨[],[],false,[],[]⟩) (es:=(some ⟨[(4,[])],[⟨.tmp 4,[],none⟩,⟨.cell 0 2,[],none⟩,⟨.cell 0 3,[],none⟩],false,[],[]⟩)) [df] [⟨cL0⟩] (by kernel_rfl) (fun s h=>by cases h)
theorem tT (k:Nat) (x1:Ty7) (r:Ty1) (h:lY k x1=some r):Tri Try.prog 27 [(.sl 4 (List.map aB x1))] [] (Sum.elim (fun y=>(.tup [(.hp 0 0),(.int .i64 0)])) (fun y=>(.tup [.nilp,(.int .i64 4)])) r) (Sum.elim (fun y=>[(.row [(.sl 2 (List.map aA y.1)),(.sl 3 (List.map aC y.2.1)),(.mp 1),(.ref 4 2 0 0 y.2.2.2.length .virt)]),(.map (bK .i64 (fun y=>AV.agg (aE y)) y.2.2.1) y.2.2.1.length),(.arr 4 (List.map aB y.2.2.2) 0 0 false)]) (fun y=>[]) r):=by
 unfold lY at h
 let u3:List Ans:=[.call ⟨true,[]⟩ (.hp 0 0) [(.row [.nils,.nils,(.mp 1),.nils]),(.map (bK .i64 (fun y=>AV.agg (aE y)) ([]:Ty2)) ([]:Ty2).length)],.n x1.length,.norm 2 ⟨[(4,[]),(10,[]),(11,[]),(12,[])],[⟨.tmp 4,[(0,2),(1,3)],none⟩,⟨.cell 0 2,[],none⟩,⟨.cell 0 3,[],some 4⟩],false,[],[]⟩,.n 0,.rows (List.map aB [])]
 let w4:List Prf:=[⟨(cM aB (l:=[]) (n:=0) rfl)⟩,⟨(rfl:0=0)⟩,⟨(zle 0)⟩,⟨(aL aB x1)⟩,⟨(aGN)⟩]
 obtain⟨x2,e0,h⟩:=bsm h
 cases x2 with
 | inl x3 =>
  simp only[Sum.elim_inl] at h
  obtain rfl:=osi h
  exact Tri.of (x:=X27) aD aJQ (u3++[.out (.st .normal (aDW x3.1 x3.2.1 x3.2.2.1 x3.2.2.2)),.norm 0 ⟨[(2,[]),(3,[])],[⟨.tmp 2,[],none⟩,⟨.cell 0 2,[],none⟩,⟨.cell 0 3,[],none⟩],false,[],[]⟩]) ([⟨(LT.block (mK x1 _ k 0 [] [] ([]:Ty2) [] e0))⟩]++w4) (by kernel_rfl)
 | inr x3 =>
  simp only[Sum.elim_inr] at h
  obtain rfl:=osi h
  exact Tri.of (x:=X27) aD aJQ (u3++[.out (.fin (Sum.elim (fun y=>(.tup [(.hp 0 0),(.int .i64 0)])) (fun y=>(.tup [.nilp,(.int .i64 4)])) x3) (Sum.elim (fun y=>[(.row [(.sl 2 (List.map aA y.1)),(.sl 3 (List.map aC y.2.1)),(.mp 1),(.ref 4 2 0 0 y.2.2.2.length .virt)]),(.map (bK .i64 (fun y=>AV.agg (aE y)) y.2.2.1) y.2.2.1.length),(.arr 4 (List.map aB y.2.2.2) 0 0 false)]) (fun y=>[]) x3))]) ([⟨(LT.blockFin (id:=0) (mK x1 _ k 0 [] [] ([]:Ty2) [] e0))⟩]++w4) (by kernel_rfl)
end Go.Ws

namespace Go.Ws
open Go.Proofs
set_option linter.unusedSimpArgs false
set_option linter.unusedVariables false
set_option maxRecDepth 1000000
set_option maxHeartbeats 4000000
noncomputable def X9:Ctx:=⟨Try.f9,[],false⟩
noncomputable def L9_0:Code:=at_ Try.f9 [1,1,1,0,1,4,5]
def S9_0 (x1:Ty7) (eF:Int) (dY:aG):St:=⟨mkT 33 [(6,(.mp 0)),(17,(.sl 4 (List.map aB x1))),(18,(.int .i64 (nI x1.length))),(19,(.int .i64 eF))],[(.map (bK .i64 (fun y=>(aO y).headD aI) dY) dY.length)]⟩
def aIK (aJ2:aG):St:=⟨mkT 33 [(6,(.mp 0))],[(.map (bK .i64 (fun y=>(aO y).headD aI) aJ2) aJ2.length)]⟩
def O9_0 (x1:Ty7) (y:(aG)):GX:=.st (.exit 0) (aIK y)
theorem nB (x1:Ty7) (y:(aG)):∀(k:Nat) (eF:Int) (dY:aG),eO k x1 eF dY=some y→LT Try.prog X9 L9_0 (S9_0 x1 eF dY) (O9_0 x1 y)
 | 0,eF,dY,h=>by cases h
 | k+1,eF,dY,h=>by
  rw[eO] at h
  by_cases cL0:ltI eF (nI x1.length)=true
  · rw[if_pos cL0] at h
    by_cases cL1:inI eF x1.length=true
    · rw[if_pos cL1] at h
      obtain⟨gW,eL2,h⟩:=bsm h
      let u1:List Ans:=[dt,.n x1.length,.row [(.int .i64 gW.1),(.int .i64 gW.2.1),(.int .u8 gW.2.2.1),(.int .i64 gW.2.2.2)]]
      let w2:List Prf:=[⟨(bA (e:=aB) eL2 4 0 4 (by decide))⟩,⟨cL1⟩,⟨(aL aB x1)⟩,⟨cL0⟩]
      by_cases cL3:eqI gW.1 6=true
      · rw[if_pos cL3] at h
        exact LT.next aD (hs:=⟨[(6,[]),(17,[]),(18,[]),(19,[])],[⟨.tmp 6,[],none⟩],false,[],[]⟩) (es:=none) (u1++[dt,.ents (bK .i64 (fun y=>(aO y).headD aI) (bG dY gW.2.1 gW.2.2.2)) (bG dY gW.2.1 gW.2.2.2).length]) ([⟨(gK .i64 (fun y=>(aO y).headD aI) dY gW.2.1 gW.2.2.2)⟩,⟨cL3⟩]++w2) (by kernel_rfl) (nB x1 y k (aN .i64 eF 1) (bG dY gW.2.1 gW.2.2.2) h)
      rw[if_neg cL3] at h;replace cL3:=eqf cL3
      exact LT.next aD (hs:=⟨[(6,[]),(17,[]),(18,[]),(19,[])],[⟨.tmp 6,[],none⟩],false,[],[]⟩) (es:=none) (u1++[df]) ([⟨cL3⟩]++w2) (by kernel_rfl) (nB x1 y k (aN .i64 eF 1) dY h)
    rw[if_neg cL1] at h;replace cL1:=eqf cL1
    cases h
  rw[if_neg cL0] at h;replace cL0:=eqf cL0
  obtain rfl:=osi h
  show LT _ _ _ _ (.st (.exit 0) (aIK dY))
  exact LT.done aD (hs:=⟨[],[],false,[],[]⟩) (es:=(some ⟨[(6,[])],[⟨.tmp 6,[],none⟩],false,[],[]⟩)) [df] [⟨cL0⟩] (by kernel_rfl) (fun s h=>by cases h)
theorem eY (k:Nat) (x1:Ty7) (r:(Sum (aG) (Unit))) (h:g7 k x1=some r):Tri Try.prog 9 [(.sl 4 (List.map aB x1))] [] (Sum.elim (fun y=>(.tup [(.mp 0),(.int .i64 0)])) (fun y=>(.tup [.mapn,(.int .i64 4)])) r) (Sum.elim (fun y=>[(.map (bK .i64 (fun y=>(aO y).headD aI) y) y.length)]) (fun y=>[]) r):=by
 unfold g7 at h
 obtain⟨x2,e0,h⟩:=bsm h
 cases x2 with
 | inl x3 =>
  simp only[Sum.elim_inl] at h
  obtain⟨x5,e2,h⟩:=bsm h
  obtain rfl:=osi h
  exact Tri.of (x:=X9) aD facts9 [.call ⟨true,[]⟩ (.tup [(.hp 0 0),(.int .i64 0)]) [(.row [(.sl 2 (List.map aA x3.1)),(.sl 3 (List.map aC x3.2.1)),(.mp 1),(.ref 4 2 0 0 x3.2.2.2.length .virt)]),(.map (bK .i64 (fun y=>AV.agg (aE y)) x3.2.2.1) x3.2.2.1.length),(.arr 4 (List.map aB x3.2.2.2) 0 0 false)],df,.n x1.length,.norm 2 ⟨[(6,[]),(17,[]),(18,[]),(19,[])],[⟨.tmp 6,[],none⟩],false,[],[]⟩,.out (.st .normal (aIK x5)),.norm 0 ⟨[(2,[]),(3,[])],[⟨.tmp 2,[],none⟩],false,[],[]⟩] [⟨(LT.block (nB x1 _ k 0 ([]:aG) e2))⟩,⟨(aL aB x1)⟩,⟨(nF (rfl:eqI 0 0=true))⟩,⟨(tT k x1 (.inl x3) e0)⟩] (by kernel_rfl)
 | inr x3 =>
  simp only[Sum.elim_inr] at h
  obtain rfl:=osi h
  exact Tri.of (x:=X9) aD facts9 [.call ⟨true,[]⟩ (.tup [.nilp,(.int .i64 4)]) [],dt,.norm 0 ⟨[(2,[]),(3,[])],[],false,[],[]⟩] [⟨(nT (rfl:eqI 4 0=false))⟩,⟨(tT k x1 (.inr x3) e0)⟩] (by kernel_rfl)
end Go.Ws

namespace Go.Ws
open Go.Proofs
set_option linter.unusedSimpArgs false
set_option linter.unusedVariables false
set_option maxRecDepth 1000000
set_option maxHeartbeats 4000000
noncomputable def X14:Ctx:=⟨Try.f14,[],true⟩
noncomputable def L14_2:Code:=at_ Try.f14 [1,1,1,0,1,4,5]
def S14_2 (x1:Ty7) (dS:Int):St:=⟨mkT 39 [(4,.mapn),(5,(.int .i64 4)),(6,(.int .i64 0)),(14,(.sl 4 (List.map aB x1))),(15,(.int .i64 (nI x1.length))),(16,(.int .i64 dS))],[]⟩
def aFB:St:=⟨mkT 39 [(5,(.int .i64 4)),(6,(.int .i64 0))],[]⟩
def O14_2 (x1:Ty7) (y:(Unit)):GX:=.st (.exit 0) (aFB)
noncomputable def L14_1:Code:=at_ Try.f14 [1,1,1,0,1,4,5]
def S14_1 (x1:Ty7) (x3:aG) (cV:Int) (cF:Int):St:=⟨mkT 39 [(4,(.mp 0)),(5,(.int .i64 0)),(6,(.int .i64 cV)),(14,(.sl 4 (List.map aB x1))),(15,(.int .i64 (nI x1.length))),(16,(.int .i64 cF))],[(.map (bK .i64 (fun y=>(aO y).headD aI) x3) x3.length)]⟩
def aEK (v14012_1:Int):St:=⟨mkT 39 [(5,(.int .i64 0)),(6,(.int .i64 v14012_1))],[]⟩
def O14_1 (x1:Ty7) (x3:aG) (y:(Int)):GX:=.st (.exit 0) (aEK y)
theorem pK (x1:Ty7) (y:(Unit)):∀(k:Nat) (dS:Int),eC k x1 dS=some y→LT Try.prog X14 L14_2 (S14_2 x1 dS) (O14_2 x1 y)
 | 0,dS,h=>by cases h
 | k+1,dS,h=>by
  rw[eC] at h
  by_cases cL0:ltI dS (nI x1.length)=true
  · rw[if_pos cL0] at h
    by_cases cL1:inI dS x1.length=true
    · rw[if_pos cL1] at h
      obtain⟨uQ,eL2,h⟩:=bsm h
      exact LT.next aD (hs:=⟨[(4,[]),(5,[]),(6,[]),(14,[]),(15,[]),(16,[])],[],false,[],[]⟩) (es:=none) [dt,.n x1.length,.row [(.int .i64 uQ.1),(.int .i64 uQ.2.1),(.int .u8 uQ.2.2.1),(.int .i64 uQ.2.2.2)],df,df,df,df,df,df,df,df,df,df,df] [⟨rF⟩,⟨rF⟩,⟨rF⟩,⟨rF⟩,⟨rF⟩,⟨rF⟩,⟨rF⟩,⟨(rfl:eqI 4 0=false)⟩,⟨(rfl:eqI 4 0=false)⟩,⟨(rfl:eqI 4 0=false)⟩,⟨(rfl:eqI 4 0=false)⟩,⟨(bA (e:=aB) eL2 4 0 4 (by decide))⟩,⟨cL1⟩,⟨(aL aB x1)⟩,⟨cL0⟩] (by kernel_rfl) (pK x1 y k (aN .i64 dS 1) h)
    rw[if_neg cL1] at h;replace cL1:=eqf cL1
    cases h
  rw[if_neg cL0] at h;replace cL0:=eqf cL0
  obtain rfl:=osi h
  show LT _ _ _ _ (.st (.exit 0) (aFB))
  exact LT.done aD (hs:=⟨[],[],false,[],[]⟩) (es:=(some ⟨[(5,[]),(6,[])],[],false,[],[]⟩)) [df] [⟨cL0⟩] (by kernel_rfl) (fun s h=>by cases h)
theorem gE (x1:Ty7) (x3:aG) (y:(Int)):∀(k:Nat) (cV:Int) (cF:Int),cK k x1 x3 cV cF=some y→LT Try.prog X14 L14_1 (S14_1 x1 x3 cV cF) (O14_1 x1 x3 y)
 | 0,cV,cF,h=>by cases h
 | k+1,cV,cF,h=>by
  rw[cK] at h
  by_cases cL0:ltI cF (nI x1.length)=true
  · rw[if_pos cL0] at h
    by_cases cL1:inI cF x1.length=true
    · rw[if_pos cL1] at h
      obtain⟨lA,eL2,h⟩:=bsm h
      let u1:List Ans:=[dt,.n x1.length,.row [(.int .i64 lA.1),(.int .i64 lA.2.1),(.int .u8 lA.2.2.1),(.int .i64 lA.2.2.2)],dt,dt,dt,dt]
      let w2:List Prf:=[⟨(rfl:eqI 0 0=true)⟩,⟨(rfl:eqI 0 0=true)⟩,⟨(rfl:eqI 0 0=true)⟩,⟨(rfl:eqI 0 0=true)⟩,⟨(bA (e:=aB) eL2 4 0 4 (by decide))⟩,⟨cL1⟩,⟨(aL aB x1)⟩,⟨cL0⟩]
      by_cases cL3:eqI lA.1 5=true
      · rw[if_pos cL3] at h
        by_cases cL4:jA x3 lA.2.1=true
        · rw[if_pos cL4] at h
          obtain⟨y3,eL5,h⟩:=bsm h
          let u5:List Ans:=u1++[dt,dt,dt,dt,.opt (some (.int .i64 y3)),dt,dt]
          let w6:List Prf:=[⟨cL3⟩,⟨cL3⟩,⟨(eW .i64 (fun y=>(aO y).headD aI) eL5)⟩,⟨cL3⟩,⟨cL3⟩,⟨cL3⟩,⟨cL3⟩]++w2
          by_cases cL6:eqI y3 2=true
          · rw[if_pos cL6] at h
            exact LT.next aD (hs:=⟨[(4,[]),(5,[]),(6,[]),(14,[]),(15,[]),(16,[])],[⟨.tmp 4,[],none⟩],false,[],[]⟩) (es:=none) (u5++[dt]) ([⟨cL6⟩]++w6) (by kernel_rfl) (gE x1 x3 y k (aN .i64 cV 1) (aN .i64 cF 1) h)
          rw[if_neg cL6] at h;replace cL6:=eqf cL6
          exact LT.next aD (hs:=⟨[(4,[]),(5,[]),(6,[]),(14,[]),(15,[]),(16,[])],[⟨.tmp 4,[],none⟩],false,[],[]⟩) (es:=none) (u5++[df]) ([⟨cL6⟩]++w6) (by kernel_rfl) (gE x1 x3 y k cV (aN .i64 cF 1) h)
        rw[if_neg cL4] at h;replace cL4:=eqf cL4
        exact LT.next aD (hs:=⟨[(4,[]),(5,[]),(6,[]),(14,[]),(15,[]),(16,[])],[⟨.tmp 4,[],none⟩],false,[],[]⟩) (es:=none) (u1++[dt,dt,dt,dt,.opt none,dt,dt,df]) ([⟨(rfl:eqI 0 2=false)⟩,⟨cL3⟩,⟨cL3⟩,⟨(gP .i64 (fun y=>(aO y).headD aI) cL4)⟩,⟨cL3⟩,⟨cL3⟩,⟨cL3⟩,⟨cL3⟩]++w2) (by kernel_rfl) (gE x1 x3 y k cV (aN .i64 cF 1) h)
      rw[if_neg cL3] at h;replace cL3:=eqf cL3
      exact LT.next aD (hs:=⟨[(4,[]),(5,[]),(6,[]),(14,[]),(15,[]),(16,[])],[⟨.tmp 4,[],none⟩],false,[],[]⟩) (es:=none) (u1++[df,df,df,df,df,df,df]) ([⟨rF⟩,⟨cL3⟩,⟨cL3⟩,⟨cL3⟩,⟨cL3⟩,⟨cL3⟩,⟨cL3⟩]++w2) (by kernel_rfl) (gE x1 x3 y k cV (aN .i64 cF 1) h)
    rw[if_neg cL1] at h;replace cL1:=eqf cL1
    cases h
  rw[if_neg cL0] at h;replace cL0:=eqf cL0
  obtain rfl:=osi h
  show LT _ _ _ _ (.st (.exit 0) (aEK cV))
  exact LT.done aD (hs:=⟨[],[],false,[],[]⟩) (es:=(some ⟨[(5,[]),(6,[])],[],false,[],[]⟩)) [df] [⟨cL0⟩] (by kernel_rfl) (fun s h=>by cases h)
theorem tE (k:Nat) (x1:Ty7) (r:Int × Int) (h:iN k x1=some r):Tri Try.prog 14 [(.sl 4 (List.map aB x1))] [] (.tup [(.int .i64 r.1),(.int .i64 r.2)]) []:=by
 unfold iN at h
 obtain⟨x2,e0,h⟩:=bsm h
 cases x2 with
 | inl x3 =>
  simp only[Sum.elim_inl] at h
  obtain⟨x5,e2,h⟩:=bsm h
  obtain rfl:=osi h
  exact Tri.of (x:=X14) aD aJK [.call ⟨true,[]⟩ (.tup [(.mp 0),(.int .i64 0)]) [(.map (bK .i64 (fun y=>(aO y).headD aI) x3) x3.length)],.n x1.length,.norm 2 ⟨[(4,[]),(5,[]),(6,[]),(14,[]),(15,[]),(16,[])],[⟨.tmp 4,[],none⟩],false,[],[]⟩,.out (.st .normal (aEK x5))] [⟨(LT.block (gE x1 x3 _ k 0 0 e2))⟩,⟨(aL aB x1)⟩,⟨(eY k x1 (.inl x3) e0)⟩] (by kernel_rfl)
 | inr x3 =>
  simp only[Sum.elim_inr] at h
  obtain⟨x5,e2,h⟩:=bsm h
  obtain rfl:=osi h
  exact Tri.of (x:=X14) aD aJK [.call ⟨true,[]⟩ (.tup [.mapn,(.int .i64 4)]) [],.n x1.length,.norm 2 ⟨[(4,[]),(5,[]),(6,[]),(14,[]),(15,[]),(16,[])],[],false,[],[]⟩,.out (.st .normal (aFB))] [⟨(LT.block (pK x1 _ k 0 e2))⟩,⟨(aL aB x1)⟩,⟨(eY k x1 (.inr x3) e0)⟩] (by kernel_rfl)
end Go.Ws

namespace Go.Ws
open Go.Proofs
set_option linter.unusedSimpArgs false
set_option linter.unusedVariables false
set_option maxRecDepth 1000000
set_option maxHeartbeats 4000000
noncomputable def X12:Ctx:=⟨Try.f12,[],true⟩
noncomputable def L12_0:Code:=at_ Try.f12 [1,1,1,1,0,1,4,5]
def S12_0 (x1:Ty7) (x3:aG) (cG:Int) (aM:aG):St:=⟨mkT 46 [(4,(.mp 0)),(6,(.ref 2 1 0 0 aM.length .virt)),(17,(.sl 4 (List.map aB x1))),(18,(.int .i64 (nI x1.length))),(19,(.int .i64 cG))],[(.map (bK .i64 (fun y=>(aO y).headD aI) x3) x3.length),(.arr 2 (List.map aA aM) 0 0 false)]⟩
def aE9 (aHE:aG):St:=⟨mkT 46 [(6,(.ref 2 0 0 0 aHE.length .virt))],[(.arr 2 (List.map aA aHE) 0 0 false)]⟩
def O12_0 (x1:Ty7) (x3:aG) (y:(aG)):GX:=.st (.exit 0) (aE9 y)
theorem gI (x1:Ty7) (x3:aG) (y:(aG)):∀(k:Nat) (cG:Int) (aM:aG),cJ k x1 x3 cG aM=some y→LT Try.prog X12 L12_0 (S12_0 x1 x3 cG aM) (O12_0 x1 x3 y)
 | 0,cG,aM,h=>by cases h
 | k+1,cG,aM,h=>by
  rw[cJ] at h
  by_cases cL0:ltI cG (nI x1.length)=true
  · rw[if_pos cL0] at h
    by_cases cL1:inI cG x1.length=true
    · rw[if_pos cL1] at h
      obtain⟨cR,eL2,h⟩:=bsm h
      let u1:List Ans:=[dt,.n x1.length,.row [(.int .i64 cR.1),(.int .i64 cR.2.1),(.int .u8 cR.2.2.1),(.int .i64 cR.2.2.2)]]
      let w2:List Prf:=[⟨(bA (e:=aB) eL2 4 0 4 (by decide))⟩,⟨cL1⟩,⟨(aL aB x1)⟩,⟨cL0⟩]
      by_cases cL3:eqI cR.1 3=true
      · rw[if_pos cL3] at h
        by_cases cL4:jA x3 cR.2.1=true
        · rw[if_pos cL4] at h
          obtain⟨y4,eL5,h⟩:=bsm h
          let u5:List Ans:=u1++[dt,dt,dt,dt,.opt (some (.int .i64 y4)),dt,dt]
          let w6:List Prf:=[⟨cL3⟩,⟨cL3⟩,⟨(eW .i64 (fun y=>(aO y).headD aI) eL5)⟩,⟨cL3⟩,⟨cL3⟩,⟨cL3⟩,⟨cL3⟩]++w2
          by_cases cL6:eqI y4 1=true
          · rw[if_pos cL6] at h
            by_cases cL7:fD (((aM++[cR.2.2]).length)*16)=true
            · rw[if_pos cL7] at h
              exact LT.next aD (hs:=⟨[(4,[]),(6,[]),(17,[]),(18,[]),(19,[])],[⟨.tmp 4,[],none⟩,⟨.tmp 6,[],some 2⟩],false,[],[]⟩) (es:=none) (u5++[dt,.rows (List.map aA [cR.2.2]),.n ((aM++[cR.2.2]).length),.n aM.length,dt,.rows (List.map aA (aM++[cR.2.2])),.n ((aM++[cR.2.2]).length),.rows (List.map aA (aM++[cR.2.2]))]) ([⟨(cM aA (l:=(aM++[cR.2.2])) (n:=((aM++[cR.2.2]).length)) rfl)⟩,⟨(rfl:(aM++[cR.2.2]).length=(aM++[cR.2.2]).length)⟩,⟨(zle ((aM++[cR.2.2]).length))⟩,⟨(sE aA aM [cR.2.2])⟩,⟨(rG aM.length)⟩,⟨(aL aA aM)⟩,⟨cL7⟩,⟨(by simp only[wl,List.length_map,List.map_nil,List.map_cons]<;>omega:aM.length+(List.map aA [cR.2.2]).length=(aM++[cR.2.2]).length)⟩,⟨(bJ aA (l:=[cR.2.2]) (n:=1) rfl)⟩,⟨(dJ aA (Nat.le_refl 1):0+1≤(List.map aA [cR.2.2]).length)⟩,⟨cL6⟩]++w6) (by kernel_rfl) (gI x1 x3 y k (aN .i64 cG 1) (aM++[cR.2.2]) h)
            rw[if_neg cL7] at h;replace cL7:=eqf cL7
            cases h
          rw[if_neg cL6] at h;replace cL6:=eqf cL6
          exact LT.next aD (hs:=⟨[(4,[]),(6,[]),(17,[]),(18,[]),(19,[])],[⟨.tmp 4,[],none⟩,⟨.tmp 6,[],some 2⟩],false,[],[]⟩) (es:=none) (u5++[df,.n aM.length,.rows (List.map aA aM)]) ([⟨(cM aA (l:=aM) (n:=aM.length) rfl)⟩,⟨(rfl:aM.length=aM.length)⟩,⟨(zle aM.length)⟩,⟨cL6⟩]++w6) (by kernel_rfl) (gI x1 x3 y k (aN .i64 cG 1) aM h)
        rw[if_neg cL4] at h;replace cL4:=eqf cL4
        exact LT.next aD (hs:=⟨[(4,[]),(6,[]),(17,[]),(18,[]),(19,[])],[⟨.tmp 4,[],none⟩,⟨.tmp 6,[],some 2⟩],false,[],[]⟩) (es:=none) (u1++[dt,dt,dt,dt,.opt none,dt,dt,df,.n aM.length,.rows (List.map aA aM)]) ([⟨(cM aA (l:=aM) (n:=aM.length) rfl)⟩,⟨(rfl:aM.length=aM.length)⟩,⟨(zle aM.length)⟩,⟨(rfl:eqI 0 1=false)⟩,⟨cL3⟩,⟨cL3⟩,⟨(gP .i64 (fun y=>(aO y).headD aI) cL4)⟩,⟨cL3⟩,⟨cL3⟩,⟨cL3⟩,⟨cL3⟩]++w2) (by kernel_rfl) (gI x1 x3 y k (aN .i64 cG 1) aM h)
      rw[if_neg cL3] at h;replace cL3:=eqf cL3
      exact LT.next aD (hs:=⟨[(4,[]),(6,[]),(17,[]),(18,[]),(19,[])],[⟨.tmp 4,[],none⟩,⟨.tmp 6,[],some 2⟩],false,[],[]⟩) (es:=none) (u1++[df,df,df,df,df,df,df,.n aM.length,.rows (List.map aA aM)]) ([⟨(cM aA (l:=aM) (n:=aM.length) rfl)⟩,⟨(rfl:aM.length=aM.length)⟩,⟨(zle aM.length)⟩,⟨rF⟩,⟨cL3⟩,⟨cL3⟩,⟨cL3⟩,⟨cL3⟩,⟨cL3⟩,⟨cL3⟩]++w2) (by kernel_rfl) (gI x1 x3 y k (aN .i64 cG 1) aM h)
    rw[if_neg cL1] at h;replace cL1:=eqf cL1
    cases h
  rw[if_neg cL0] at h;replace cL0:=eqf cL0
  obtain rfl:=osi h
  show LT _ _ _ _ (.st (.exit 0) (aE9 aM))
  exact LT.done aD (hs:=⟨[],[],false,[],[]⟩) (es:=(some ⟨[(6,[])],[⟨.tmp 6,[],none⟩],false,[],[]⟩)) [df] [⟨cL0⟩] (by kernel_rfl) (fun s h=>by cases h)
theorem s4 (k:Nat) (x1:Ty7) (r:aG × Int) (h:iZ k x1=some r):Tri Try.prog 12 [(.sl 4 (List.map aB x1))] [] (.tup [(.sl 2 (List.map aA r.1)),(.int .i64 r.2)]) []:=by
 unfold iZ at h
 obtain⟨x2,e0,h⟩:=bsm h
 cases x2 with
 | inl x3 =>
  simp only[Sum.elim_inl] at h
  obtain⟨x5,e2,h⟩:=bsm h
  obtain⟨x6,e4,h⟩:=bsm h
  obtain rfl:=osi h
  exact Tri.of (x:=X12) aD aIQ [.call ⟨true,[]⟩ (.tup [(.mp 0),(.int .i64 0)]) [(.map (bK .i64 (fun y=>(aO y).headD aI) x3) x3.length)],df,.n x1.length,.norm 2 ⟨[(4,[]),(6,[]),(17,[]),(18,[]),(19,[])],[⟨.tmp 4,[],none⟩,⟨.tmp 6,[],some 2⟩],false,[],[]⟩,.n 0,.rows (List.map aA []),.out (.st .normal (aE9 x5)),.call ⟨true,[[(0,2)]]⟩ (.tup [(.sl 2 (List.map aA x6.1)),(.int .i64 x6.2)]) [],.rows (List.map aA x5)] [⟨(kR k [] x5 _ e4)⟩,⟨(bJ aA (l:=x5) (n:=x5.length) rfl)⟩,⟨(dJ aA (Nat.le_refl x5.length):0+x5.length≤(List.map aA x5).length)⟩,⟨(LT.block (gI x1 x3 _ k 0 [] e2))⟩,⟨(cM aA (l:=[]) (n:=0) rfl)⟩,⟨(rfl:0=0)⟩,⟨(zle 0)⟩,⟨(aL aB x1)⟩,⟨(nF (rfl:eqI 0 0=true))⟩,⟨(eY k x1 (.inl x3) e0)⟩] (by kernel_rfl)
 | inr x3 =>
  simp only[Sum.elim_inr] at h
  obtain rfl:=osi h
  exact Tri.of (x:=X12) aD aIQ [.call ⟨true,[]⟩ (.tup [.mapn,(.int .i64 4)]) [],dt,.norm 0 ⟨[(2,[(0,2)]),(3,[])],[],false,[],[]⟩] [⟨(nT (rfl:eqI 4 0=false))⟩,⟨(eY k x1 (.inr x3) e0)⟩] (by kernel_rfl)
end Go.Ws

namespace Go.Ws
open Go.Proofs
set_option linter.unusedSimpArgs false
set_option linter.unusedVariables false
set_option maxRecDepth 1000000
set_option maxHeartbeats 4000000
theorem aCB (x1:aG):Tri Try.prog 18 [(.ps [(.mp 0),.mapn,(.mp 0)])] [(.map (bK .i64 (fun y=>(aO y).headD aI) x1) x1.length)] (.bool (lX x1)) [(.map (bK .i64 (fun y=>(aO y).headD aI) x1) x1.length)]:=aKN
end Go.Ws

namespace Go.Ws
open Go.Proofs
set_option linter.unusedSimpArgs false
set_option linter.unusedVariables false
set_option maxRecDepth 1000000
set_option maxHeartbeats 4000000
theorem zH (x1:aG) (x2:aG):Tri Try.prog 18 [(.ps [(.mp 0),(.mp 1)])] [(.map (bK .i64 (fun y=>(aO y).headD aI) x1) x1.length),(.map (bK .i64 (fun y=>(aO y).headD aI) x2) x2.length)] (.bool (kU x1 x2)) [(.map (bK .i64 (fun y=>(aO y).headD aI) x1) x1.length),(.map (bK .i64 (fun y=>(aO y).headD aI) x2) x2.length)]:=agree_01
end Go.Ws

namespace Go.Ws
open Go.Proofs
set_option linter.unusedSimpArgs false
set_option linter.unusedVariables false
set_option maxRecDepth 1000000
set_option maxHeartbeats 4000000
noncomputable def X8:Ctx:=⟨Try.f8,[],true⟩
def A8_0 (x6:aG):Ans:=.call ⟨true,[]⟩ (.tup [(.mp 0),(.int .i64 0)]) [(.map (bK .i64 (fun y=>(aO y).headD aI) x6) x6.length)]
def A8_1:Ans:=.call ⟨true,[]⟩ (.tup [.mapn,(.int .i64 4)]) []
theorem tZ (k:Nat) (r:Bool) (h:lU k=some r):Tri Try.prog 8 [] [] (.bool r) []:=by
 unfold lU at h
 let u1:List Ans:=[.call ⟨true,[]⟩ (.sl 4 (List.map aB aK)) [],.n aK.length]
 let w2:List Prf:=[⟨(aL aB aK)⟩,⟨(aAS)⟩]
 by_cases c0:eqI (nI aK.length) 0=true
 · rw[if_pos c0] at h
   obtain rfl:=osi h
   exact Tri.of (x:=X8) aD iH (u1++[dt]) ([⟨c0⟩]++w2) (by kernel_rfl)
 rw[if_neg c0] at h;replace c0:=eqf c0
 obtain⟨x1,e1,h⟩:=bsm h
 cases x1 with
 | inl x2 =>
  simp only[Sum.elim_inl] at h
  obtain⟨x3,e3,h⟩:=bsm h
  obtain⟨x4,e4,h⟩:=bsm h
  by_cases c5:leI 1 aK.length=true
  · rw[if_pos c5] at h
    let u5:List Ans:=u1++[df,.call ⟨true,[]⟩ (.tup [(.mp 0),(.int .i64 0)]) [(.map (bK .i64 (fun y=>(aO y).headD aI) x2) x2.length)],.call ⟨true,[]⟩ (.tup [(.int .i64 x3.1),(.int .i64 x3.2)]) [],.call ⟨true,[]⟩ (.tup [(.sl 2 (List.map aA x4.1)),(.int .i64 x4.2)]) [],.n aK.length,.rows (List.map aB (List.drop 1 aK))]
    let w6:List Prf:=[⟨(aHA aB (l:=aK) (n:=aK.length) rfl 1)⟩,⟨c5⟩,⟨(aL aB aK)⟩,⟨(s4 k aK _ e4)⟩,⟨(tE k aK _ e3)⟩,⟨(eY k aK (.inl x2) e1)⟩,⟨c0⟩]++w2
    obtain⟨x5,e6,h⟩:=bsm h
    cases x5 with
    | inl x6 =>
     simp only[Sum.elim_inl] at h
     let u7:List Ans:=u5++[(A8_0 x6),dt,dt,.n x2.length,dt,dt]
     let w8:List Prf:=[⟨(rfl:eqI 0 0=true)⟩,⟨(rfl:eqI 0 0=true)⟩,⟨(aAF .i64 (fun y=>(aO y).headD aI) x2)⟩,⟨(rfl:eqI 0 0=true)⟩,⟨(rfl:eqI 0 0=true)⟩,⟨(eY k (List.drop 1 aK) (.inl x6) e6)⟩]++w6
     by_cases c8:eqI (nI x2.length) 1=true
     · rw[if_pos c8] at h
       by_cases c9:jA x2 1=true
       · rw[if_pos c9] at h
         obtain⟨x7,e10,h⟩:=bsm h
         let u11:List Ans:=u7++[dt,dt,.opt (some (.int .i64 x7)),dt,dt]
         let w12:List Prf:=[⟨c8⟩,⟨c8⟩,⟨(eW .i64 (fun y=>(aO y).headD aI) e10)⟩,⟨c8⟩,⟨c8⟩]++w8
         by_cases c11:eqI x7 2=true
         · rw[if_pos c11] at h
           by_cases c12:eqI x3.1 1=true
           · rw[if_pos c12] at h
             let w16:List Prf:=[⟨c12⟩,⟨c12⟩,⟨c12⟩,⟨c11⟩,⟨c11⟩,⟨c11⟩]++w12
             by_cases c13:eqI x3.2 0=true
             · rw[if_pos c13] at h
               let u17:List Ans:=u11++[dt,dt,dt,dt,dt,dt,dt,dt,.n x4.1.length,dt,dt]
               let w18:List Prf:=[⟨c13⟩,⟨c13⟩,⟨(aL aA x4.1)⟩,⟨c13⟩,⟨c13⟩]++w16
               by_cases c14:eqI (nI x4.1.length) 0=true
               · rw[if_pos c14] at h
                 by_cases c15:eqI x4.2 0=true
                 · rw[if_pos c15] at h
                   obtain rfl:=osi h
                   exact Tri.of (x:=X8) aD iH (u17++[dt,dt,dt,dt,dt,dt,df,df,df,df,df,df,df,df,df,df,df,df,df]) ([⟨rF⟩,⟨rF⟩,⟨rF⟩,⟨rF⟩,⟨rF⟩,⟨rF⟩,⟨rF⟩,⟨rF⟩,⟨(rfl:eqI 0 4=false)⟩,⟨(rfl:eqI 0 4=false)⟩,⟨(rfl:eqI 0 4=false)⟩,⟨(rfl:eqI 0 4=false)⟩,⟨(rfl:eqI 0 4=false)⟩,⟨c15⟩,⟨c15⟩,⟨c15⟩,⟨c14⟩,⟨c14⟩,⟨c14⟩]++w18) (by kernel_rfl)
                 rw[if_neg c15] at h;replace c15:=eqf c15
                 obtain rfl:=osi h
                 exact Tri.of (x:=X8) aD iH (u17++[dt,dt,dt,df,df,df,df,df,df,df,df,df,df,df,df,df,df,df,df]) ([⟨rF⟩,⟨rF⟩,⟨rF⟩,⟨rF⟩,⟨rF⟩,⟨rF⟩,⟨rF⟩,⟨rF⟩,⟨rF⟩,⟨rF⟩,⟨rF⟩,⟨rF⟩,⟨rF⟩,⟨c15⟩,⟨c15⟩,⟨c15⟩,⟨c14⟩,⟨c14⟩,⟨c14⟩]++w18) (by kernel_rfl)
               rw[if_neg c14] at h;replace c14:=eqf c14
               obtain rfl:=osi h
               exact Tri.of (x:=X8) aD iH (u17++[df,df,df,df,df,df,df,df,df,df,df,df,df,df,df,df,df,df,df]) ([⟨rF⟩,⟨rF⟩,⟨rF⟩,⟨rF⟩,⟨rF⟩,⟨rF⟩,⟨rF⟩,⟨rF⟩,⟨rF⟩,⟨rF⟩,⟨rF⟩,⟨rF⟩,⟨rF⟩,⟨rF⟩,⟨rF⟩,⟨rF⟩,⟨c14⟩,⟨c14⟩,⟨c14⟩]++w18) (by kernel_rfl)
             rw[if_neg c13] at h;replace c13:=eqf c13
             obtain rfl:=osi h
             exact Tri.of (x:=X8) aD iH (u11++[dt,dt,dt,dt,dt,dt,df,df,df,df,df,df,df,df,df,df,df,df,df,df,df,df,df,df,df,df,df,df,df]) ([⟨rF⟩,⟨rF⟩,⟨rF⟩,⟨rF⟩,⟨rF⟩,⟨rF⟩,⟨rF⟩,⟨rF⟩,⟨rF⟩,⟨rF⟩,⟨rF⟩,⟨rF⟩,⟨rF⟩,⟨rF⟩,⟨rF⟩,⟨rF⟩,⟨rF⟩,⟨rF⟩,⟨rF⟩,⟨c13⟩,⟨c13⟩,⟨c13⟩,⟨c13⟩]++w16) (by kernel_rfl)
           rw[if_neg c12] at h;replace c12:=eqf c12
           obtain rfl:=osi h
           exact Tri.of (x:=X8) aD iH (u11++[dt,dt,dt,df,df,df,df,df,df,df,df,df,df,df,df,df,df,df,df,df,df,df,df,df,df,df,df,df,df]) ([⟨rF⟩,⟨rF⟩,⟨rF⟩,⟨rF⟩,⟨rF⟩,⟨rF⟩,⟨rF⟩,⟨rF⟩,⟨rF⟩,⟨rF⟩,⟨rF⟩,⟨rF⟩,⟨rF⟩,⟨rF⟩,⟨rF⟩,⟨rF⟩,⟨rF⟩,⟨rF⟩,⟨rF⟩,⟨rF⟩,⟨rF⟩,⟨rF⟩,⟨rF⟩,⟨c12⟩,⟨c12⟩,⟨c12⟩,⟨c11⟩,⟨c11⟩,⟨c11⟩]++w12) (by kernel_rfl)
         rw[if_neg c11] at h;replace c11:=eqf c11
         obtain rfl:=osi h
         exact Tri.of (x:=X8) aD iH (u11++[df,df,df,df,df,df,df,df,df,df,df,df,df,df,df,df,df,df,df,df,df,df,df,df,df,df,df,df,df]) ([⟨rF⟩,⟨rF⟩,⟨rF⟩,⟨rF⟩,⟨rF⟩,⟨rF⟩,⟨rF⟩,⟨rF⟩,⟨rF⟩,⟨rF⟩,⟨rF⟩,⟨rF⟩,⟨rF⟩,⟨rF⟩,⟨rF⟩,⟨rF⟩,⟨rF⟩,⟨rF⟩,⟨rF⟩,⟨rF⟩,⟨rF⟩,⟨rF⟩,⟨rF⟩,⟨rF⟩,⟨rF⟩,⟨rF⟩,⟨c11⟩,⟨c11⟩,⟨c11⟩]++w12) (by kernel_rfl)
       rw[if_neg c9] at h;replace c9:=eqf c9
       obtain rfl:=osi h
       exact Tri.of (x:=X8) aD iH (u7++[dt,dt,.opt none,dt,dt,df,df,df,df,df,df,df,df,df,df,df,df,df,df,df,df,df,df,df,df,df,df,df,df,df,df,df,df,df]) ([⟨rF⟩,⟨rF⟩,⟨rF⟩,⟨rF⟩,⟨rF⟩,⟨rF⟩,⟨rF⟩,⟨rF⟩,⟨rF⟩,⟨rF⟩,⟨rF⟩,⟨rF⟩,⟨rF⟩,⟨rF⟩,⟨rF⟩,⟨rF⟩,⟨rF⟩,⟨rF⟩,⟨rF⟩,⟨rF⟩,⟨rF⟩,⟨rF⟩,⟨rF⟩,⟨rF⟩,⟨rF⟩,⟨rF⟩,⟨(rfl:eqI 0 2=false)⟩,⟨(rfl:eqI 0 2=false)⟩,⟨(rfl:eqI 0 2=false)⟩,⟨c8⟩,⟨c8⟩,⟨(gP .i64 (fun y=>(aO y).headD aI) c9)⟩,⟨c8⟩,⟨c8⟩]++w8) (by kernel_rfl)
     rw[if_neg c8] at h;replace c8:=eqf c8
     obtain rfl:=osi h
     exact Tri.of (x:=X8) aD iH (u7++[df,df,df,df,df,df,df,df,df,df,df,df,df,df,df,df,df,df,df,df,df,df,df,df,df,df,df,df,df,df,df,df,df]) ([⟨rF⟩,⟨rF⟩,⟨rF⟩,⟨rF⟩,⟨rF⟩,⟨rF⟩,⟨rF⟩,⟨rF⟩,⟨rF⟩,⟨rF⟩,⟨rF⟩,⟨rF⟩,⟨rF⟩,⟨rF⟩,⟨rF⟩,⟨rF⟩,⟨rF⟩,⟨rF⟩,⟨rF⟩,⟨rF⟩,⟨rF⟩,⟨rF⟩,⟨rF⟩,⟨rF⟩,⟨rF⟩,⟨rF⟩,⟨rF⟩,⟨rF⟩,⟨rF⟩,⟨c8⟩,⟨c8⟩,⟨c8⟩,⟨c8⟩]++w8) (by kernel_rfl)
    | inr x6 =>
     simp only[Sum.elim_inr] at h
     let u21:List Ans:=u5++[A8_1,dt,dt,.n x2.length,dt,dt]
     let w22:List Prf:=[⟨(rfl:eqI 0 0=true)⟩,⟨(rfl:eqI 0 0=true)⟩,⟨(aAF .i64 (fun y=>(aO y).headD aI) x2)⟩,⟨(rfl:eqI 0 0=true)⟩,⟨(rfl:eqI 0 0=true)⟩,⟨(eY k (List.drop 1 aK) (.inr x6) e6)⟩]++w6
     by_cases c8:eqI (nI x2.length) 1=true
     · rw[if_pos c8] at h
       by_cases c9:jA x2 1=true
       · rw[if_pos c9] at h
         obtain⟨x7,e10,h⟩:=bsm h
         let u25:List Ans:=u21++[dt,dt,.opt (some (.int .i64 x7)),dt,dt]
         let w26:List Prf:=[⟨c8⟩,⟨c8⟩,⟨(eW .i64 (fun y=>(aO y).headD aI) e10)⟩,⟨c8⟩,⟨c8⟩]++w22
         by_cases c11:eqI x7 2=true
         · rw[if_pos c11] at h
           by_cases c12:eqI x3.1 1=true
           · rw[if_pos c12] at h
             let w30:List Prf:=[⟨c12⟩,⟨c12⟩,⟨c12⟩,⟨c11⟩,⟨c11⟩,⟨c11⟩]++w26
             by_cases c13:eqI x3.2 0=true
             · rw[if_pos c13] at h
               let u31:List Ans:=u25++[dt,dt,dt,dt,dt,dt,dt,dt,.n x4.1.length,dt,dt]
               let w32:List Prf:=[⟨c13⟩,⟨c13⟩,⟨(aL aA x4.1)⟩,⟨c13⟩,⟨c13⟩]++w30
               by_cases c14:eqI (nI x4.1.length) 0=true
               · rw[if_pos c14] at h
                 by_cases c15:eqI x4.2 0=true
                 · rw[if_pos c15] at h
                   let u35:List Ans:=u31++[dt,dt,dt,dt,dt,dt,dt,dt,dt,dt,.call ⟨true,[]⟩ (.bool (lX x2)) [(.map (bK .i64 (fun y=>(aO y).headD aI) x2) x2.length)],dt]
                   let w36:List Prf:=[⟨(rfl:eqI 4 4=true)⟩,⟨(aCB x2)⟩,⟨(rfl:eqI 4 4=true)⟩,⟨(rfl:eqI 4 4=true)⟩,⟨(rfl:eqI 4 4=true)⟩,⟨(rfl:eqI 4 4=true)⟩,⟨c15⟩,⟨c15⟩,⟨c15⟩,⟨c14⟩,⟨c14⟩,⟨c14⟩]++w32
                   by_cases c16:(lX x2)=true
                   · rw[if_pos c16] at h
                     obtain rfl:=osi h
                     exact Tri.of (x:=X8) aD iH (u35++[dt,dt,dt,.ents (bK .i64 (fun y=>(aO y).headD aI) (bG ([]:aG) 1 1)) (bG ([]:aG) 1 1).length,dt,dt,dt,.call ⟨true,[]⟩ (.bool (kU x2 (bG ([]:aG) 1 1))) [(.map (bK .i64 (fun y=>(aO y).headD aI) x2) x2.length),(.map (bK .i64 (fun y=>(aO y).headD aI) (bG ([]:aG) 1 1)) (bG ([]:aG) 1 1).length)],dt,dt]) ([⟨c16⟩,⟨c16⟩,⟨(zH x2 (bG ([]:aG) 1 1))⟩,⟨c16⟩,⟨c16⟩,⟨c16⟩,⟨(gK .i64 (fun y=>(aO y).headD aI) ([]:aG) 1 1)⟩,⟨c16⟩,⟨c16⟩,⟨c16⟩]++w36) (by kernel_rfl)
                   rw[if_neg c16] at h;replace c16:=eqf c16
                   obtain rfl:=osi h
                   exact Tri.of (x:=X8) aD iH (u35++[df,df,df,df,df,df,df,df]) ([⟨c16⟩,⟨c16⟩,⟨c16⟩,⟨c16⟩,⟨c16⟩,⟨c16⟩,⟨c16⟩,⟨c16⟩]++w36) (by kernel_rfl)
                 rw[if_neg c15] at h;replace c15:=eqf c15
                 obtain rfl:=osi h
                 exact Tri.of (x:=X8) aD iH (u31++[dt,dt,dt,df,df,df,df,df,df,df,df,df,df,df,df,df,df,df,df]) ([⟨rF⟩,⟨rF⟩,⟨rF⟩,⟨rF⟩,⟨rF⟩,⟨rF⟩,⟨rF⟩,⟨rF⟩,⟨rF⟩,⟨rF⟩,⟨rF⟩,⟨rF⟩,⟨rF⟩,⟨c15⟩,⟨c15⟩,⟨c15⟩,⟨c14⟩,⟨c14⟩,⟨c14⟩]++w32) (by kernel_rfl)
               rw[if_neg c14] at h;replace c14:=eqf c14
               obtain rfl:=osi h
               exact Tri.of (x:=X8) aD iH (u31++[df,df,df,df,df,df,df,df,df,df,df,df,df,df,df,df,df,df,df]) ([⟨rF⟩,⟨rF⟩,⟨rF⟩,⟨rF⟩,⟨rF⟩,⟨rF⟩,⟨rF⟩,⟨rF⟩,⟨rF⟩,⟨rF⟩,⟨rF⟩,⟨rF⟩,⟨rF⟩,⟨rF⟩,⟨rF⟩,⟨rF⟩,⟨c14⟩,⟨c14⟩,⟨c14⟩]++w32) (by kernel_rfl)
             rw[if_neg c13] at h;replace c13:=eqf c13
             obtain rfl:=osi h
             exact Tri.of (x:=X8) aD iH (u25++[dt,dt,dt,dt,dt,dt,df,df,df,df,df,df,df,df,df,df,df,df,df,df,df,df,df,df,df,df,df,df,df]) ([⟨rF⟩,⟨rF⟩,⟨rF⟩,⟨rF⟩,⟨rF⟩,⟨rF⟩,⟨rF⟩,⟨rF⟩,⟨rF⟩,⟨rF⟩,⟨rF⟩,⟨rF⟩,⟨rF⟩,⟨rF⟩,⟨rF⟩,⟨rF⟩,⟨rF⟩,⟨rF⟩,⟨rF⟩,⟨c13⟩,⟨c13⟩,⟨c13⟩,⟨c13⟩]++w30) (by kernel_rfl)
           rw[if_neg c12] at h;replace c12:=eqf c12
           obtain rfl:=osi h
           exact Tri.of (x:=X8) aD iH (u25++[dt,dt,dt,df,df,df,df,df,df,df,df,df,df,df,df,df,df,df,df,df,df,df,df,df,df,df,df,df,df]) ([⟨rF⟩,⟨rF⟩,⟨rF⟩,⟨rF⟩,⟨rF⟩,⟨rF⟩,⟨rF⟩,⟨rF⟩,⟨rF⟩,⟨rF⟩,⟨rF⟩,⟨rF⟩,⟨rF⟩,⟨rF⟩,⟨rF⟩,⟨rF⟩,⟨rF⟩,⟨rF⟩,⟨rF⟩,⟨rF⟩,⟨rF⟩,⟨rF⟩,⟨rF⟩,⟨c12⟩,⟨c12⟩,⟨c12⟩,⟨c11⟩,⟨c11⟩,⟨c11⟩]++w26) (by kernel_rfl)
         rw[if_neg c11] at h;replace c11:=eqf c11
         obtain rfl:=osi h
         exact Tri.of (x:=X8) aD iH (u25++[df,df,df,df,df,df,df,df,df,df,df,df,df,df,df,df,df,df,df,df,df,df,df,df,df,df,df,df,df]) ([⟨rF⟩,⟨rF⟩,⟨rF⟩,⟨rF⟩,⟨rF⟩,⟨rF⟩,⟨rF⟩,⟨rF⟩,⟨rF⟩,⟨rF⟩,⟨rF⟩,⟨rF⟩,⟨rF⟩,⟨rF⟩,⟨rF⟩,⟨rF⟩,⟨rF⟩,⟨rF⟩,⟨rF⟩,⟨rF⟩,⟨rF⟩,⟨rF⟩,⟨rF⟩,⟨rF⟩,⟨rF⟩,⟨rF⟩,⟨c11⟩,⟨c11⟩,⟨c11⟩]++w26) (by kernel_rfl)
       rw[if_neg c9] at h;replace c9:=eqf c9
       obtain rfl:=osi h
       exact Tri.of (x:=X8) aD iH (u21++[dt,dt,.opt none,dt,dt,df,df,df,df,df,df,df,df,df,df,df,df,df,df,df,df,df,df,df,df,df,df,df,df,df,df,df,df,df]) ([⟨rF⟩,⟨rF⟩,⟨rF⟩,⟨rF⟩,⟨rF⟩,⟨rF⟩,⟨rF⟩,⟨rF⟩,⟨rF⟩,⟨rF⟩,⟨rF⟩,⟨rF⟩,⟨rF⟩,⟨rF⟩,⟨rF⟩,⟨rF⟩,⟨rF⟩,⟨rF⟩,⟨rF⟩,⟨rF⟩,⟨rF⟩,⟨rF⟩,⟨rF⟩,⟨rF⟩,⟨rF⟩,⟨rF⟩,⟨(rfl:eqI 0 2=false)⟩,⟨(rfl:eqI 0 2=false)⟩,⟨(rfl:eqI 0 2=false)⟩,⟨c8⟩,⟨c8⟩,⟨(gP .i64 (fun y=>(aO y).headD aI) c9)⟩,⟨c8⟩,⟨c8⟩]++w22) (by kernel_rfl)
     rw[if_neg c8] at h;replace c8:=eqf c8
     obtain rfl:=osi h
     exact Tri.of (x:=X8) aD iH (u21++[df,df,df,df,df,df,df,df,df,df,df,df,df,df,df,df,df,df,df,df,df,df,df,df,df,df,df,df,df,df,df,df,df]) ([⟨rF⟩,⟨rF⟩,⟨rF⟩,⟨rF⟩,⟨rF⟩,⟨rF⟩,⟨rF⟩,⟨rF⟩,⟨rF⟩,⟨rF⟩,⟨rF⟩,⟨rF⟩,⟨rF⟩,⟨rF⟩,⟨rF⟩,⟨rF⟩,⟨rF⟩,⟨rF⟩,⟨rF⟩,⟨rF⟩,⟨rF⟩,⟨rF⟩,⟨rF⟩,⟨rF⟩,⟨rF⟩,⟨rF⟩,⟨rF⟩,⟨rF⟩,⟨rF⟩,⟨c8⟩,⟨c8⟩,⟨c8⟩,⟨c8⟩]++w22) (by kernel_rfl)
  rw[if_neg c5] at h;replace c5:=eqf c5
  cases h
 | inr x2 =>
  simp only[Sum.elim_inr] at h
  obtain⟨x3,e3,h⟩:=bsm h
  obtain⟨x4,e4,h⟩:=bsm h
  by_cases c5:leI 1 aK.length=true
  · rw[if_pos c5] at h
    let u37:List Ans:=u1++[df,A8_1,.call ⟨true,[]⟩ (.tup [(.int .i64 x3.1),(.int .i64 x3.2)]) [],.call ⟨true,[]⟩ (.tup [(.sl 2 (List.map aA x4.1)),(.int .i64 x4.2)]) [],.n aK.length,.rows (List.map aB (List.drop 1 aK))]
    let w38:List Prf:=[⟨(aHA aB (l:=aK) (n:=aK.length) rfl 1)⟩,⟨c5⟩,⟨(aL aB aK)⟩,⟨(s4 k aK _ e4)⟩,⟨(tE k aK _ e3)⟩,⟨(eY k aK (.inr x2) e1)⟩,⟨c0⟩]++w2
    obtain⟨x5,e6,h⟩:=bsm h
    cases x5 with
    | inl x6 =>
     simp only[Sum.elim_inl] at h
     obtain rfl:=osi h
     exact Tri.of (x:=X8) aD iH (u37++[(A8_0 x6),df,df,df,df,df,df,df,df,df,df,df,df,df,df,df,df,df,df,df,df,df,df,df,df,df,df,df,df,df,df,df,df,df,df,df,df,df]) ([⟨rF⟩,⟨rF⟩,⟨rF⟩,⟨rF⟩,⟨rF⟩,⟨rF⟩,⟨rF⟩,⟨rF⟩,⟨rF⟩,⟨rF⟩,⟨rF⟩,⟨rF⟩,⟨rF⟩,⟨rF⟩,⟨rF⟩,⟨rF⟩,⟨rF⟩,⟨rF⟩,⟨rF⟩,⟨rF⟩,⟨rF⟩,⟨rF⟩,⟨rF⟩,⟨rF⟩,⟨rF⟩,⟨rF⟩,⟨rF⟩,⟨rF⟩,⟨rF⟩,⟨rF⟩,⟨rF⟩,⟨rF⟩,⟨rF⟩,⟨(rfl:eqI 4 0=false)⟩,⟨(rfl:eqI 4 0=false)⟩,⟨(rfl:eqI 4 0=false)⟩,⟨(rfl:eqI 4 0=false)⟩,⟨(eY k (List.drop 1 aK) (.inl x6) e6)⟩]++w38) (by kernel_rfl)
    | inr x6 =>
     simp only[Sum.elim_inr] at h
     obtain rfl:=osi h
     exact Tri.of (x:=X8) aD iH (u37++[A8_1,df,df,df,df,df,df,df,df,df,df,df,df,df,df,df,df,df,df,df,df,df,df,df,df,df,df,df,df,df,df,df,df,df,df,df,df,df]) ([⟨rF⟩,⟨rF⟩,⟨rF⟩,⟨rF⟩,⟨rF⟩,⟨rF⟩,⟨rF⟩,⟨rF⟩,⟨rF⟩,⟨rF⟩,⟨rF⟩,⟨rF⟩,⟨rF⟩,⟨rF⟩,⟨rF⟩,⟨rF⟩,⟨rF⟩,⟨rF⟩,⟨rF⟩,⟨rF⟩,⟨rF⟩,⟨rF⟩,⟨rF⟩,⟨rF⟩,⟨rF⟩,⟨rF⟩,⟨rF⟩,⟨rF⟩,⟨rF⟩,⟨rF⟩,⟨rF⟩,⟨rF⟩,⟨rF⟩,⟨(rfl:eqI 4 0=false)⟩,⟨(rfl:eqI 4 0=false)⟩,⟨(rfl:eqI 4 0=false)⟩,⟨(rfl:eqI 4 0=false)⟩,⟨(eY k (List.drop 1 aK) (.inr x6) e6)⟩]++w38) (by kernel_rfl)
  rw[if_neg c5] at h;replace c5:=eqf c5
  cases h
end Go.Ws

namespace Go.Ws
open Go.Proofs
set_option linter.unusedSimpArgs false
set_option linter.unusedVariables false
set_option maxRecDepth 1000000
set_option maxHeartbeats 4000000
noncomputable def X17_1:Ctx:=⟨Try.f17,[],false⟩
noncomputable def L17_1_0:Code:=at_ Try.f17 [1,1,0,1,4,5]
def S17_1_0 (x1:aG) (bI:Int) (bC:aG):St:=⟨mkT 31 [(3,(.mp 0)),(9,(.sl 2 (List.map bW x1))),(10,(.int .i64 (nI x1.length))),(11,(.int .i64 bI))],[(.map (bK .i64 (fun y=>(aO y).headD aI) bC) bC.length)]⟩
def zG (aDU:aG):St:=⟨mkT 31 [(3,(.mp 0))],[(.map (bK .i64 (fun y=>(aO y).headD aI) aDU) aDU.length)]⟩
def O17_1_0 (x1:aG) (y:(aG)):GX:=.st (.exit 0) (zG y)
theorem iV (x1:aG) (y:(aG)):∀(k:Nat) (bI:Int) (bC:aG),bL k x1 bI bC=some y→LT Try.prog X17_1 L17_1_0 (S17_1_0 x1 bI bC) (O17_1_0 x1 y)
 | 0,bI,bC,h=>by cases h
 | k+1,bI,bC,h=>by
  rw[bL] at h
  by_cases cL0:ltI bI (nI x1.length)=true
  · rw[if_pos cL0] at h
    by_cases cL1:inI bI x1.length=true
    · rw[if_pos cL1] at h
      obtain⟨dV,eL2,h⟩:=bsm h
      let u1:List Ans:=[dt,.n x1.length,.row [(.int .i64 dV.1),(.int .i64 dV.2)]]
      let w2:List Prf:=[⟨(bA (e:=bW) eL2 2 0 2 (by decide))⟩,⟨cL1⟩,⟨(aL bW x1)⟩,⟨cL0⟩]
      by_cases cL3:jA bC dV.1=true
      · rw[if_pos cL3] at h
        obtain⟨z4,eL4,h⟩:=bsm h
        exact LT.next aD (hs:=⟨[(3,[]),(9,[]),(10,[]),(11,[])],[⟨.tmp 3,[],none⟩],false,[],[]⟩) (es:=none) (u1++[.opt (some (.int .i64 z4)),df]) ([⟨(nF rfl)⟩,⟨(eW .i64 (fun y=>(aO y).headD aI) eL4)⟩]++w2) (by kernel_rfl) (iV x1 y k (aN .i64 bI 1) bC h)
      rw[if_neg cL3] at h;replace cL3:=eqf cL3
      exact LT.next aD (hs:=⟨[(3,[]),(9,[]),(10,[]),(11,[])],[⟨.tmp 3,[],none⟩],false,[],[]⟩) (es:=none) (u1++[.opt none,dt,.ents (bK .i64 (fun y=>(aO y).headD aI) (bG bC dV.1 dV.2)) (bG bC dV.1 dV.2).length]) ([⟨(gK .i64 (fun y=>(aO y).headD aI) bC dV.1 dV.2)⟩,⟨(nT rfl)⟩,⟨(gP .i64 (fun y=>(aO y).headD aI) cL3)⟩]++w2) (by kernel_rfl) (iV x1 y k (aN .i64 bI 1) (bG bC dV.1 dV.2) h)
    rw[if_neg cL1] at h;replace cL1:=eqf cL1
    cases h
  rw[if_neg cL0] at h;replace cL0:=eqf cL0
  obtain rfl:=osi h
  show LT _ _ _ _ (.st (.exit 0) (zG bC))
  exact LT.done aD (hs:=⟨[],[],false,[],[]⟩) (es:=(some ⟨[(3,[])],[⟨.tmp 3,[],none⟩],false,[],[]⟩)) [df] [⟨cL0⟩] (by kernel_rfl) (fun s h=>by cases h)
theorem vV (k:Nat) (x1:aG) (r:aG) (h:gC k x1=some r):Tri Try.prog 17 [(.sl 2 (List.map bW x1))] [] (.mp 0) [(.map (bK .i64 (fun y=>(aO y).headD aI) r) r.length)]:=by
 unfold gC at h
 obtain⟨x3,e0,h⟩:=bsm h
 obtain rfl:=osi h
 exact Tri.of (x:=X17_1) aD facts17 [.n x1.length,.norm 2 ⟨[(3,[]),(9,[]),(10,[]),(11,[])],[⟨.tmp 3,[],none⟩],false,[],[]⟩,.out (.st .normal (zG x3)),.norm 0 ⟨[(2,[])],[⟨.tmp 2,[],none⟩],false,[],[]⟩] [⟨(LT.block (iV x1 _ k 0 ([]:aG) e0))⟩,⟨(aL bW x1)⟩] (by kernel_rfl)
end Go.Ws

namespace Go.Ws
open Go.Proofs
set_option linter.unusedSimpArgs false
set_option linter.unusedVariables false
set_option maxRecDepth 1000000
set_option maxHeartbeats 4000000
theorem mT (k:Nat) (x1:aG) (r:aG) (h:gF k x1=some r):Tri Try.prog 17 [(.sl 2 (List.map bW x1))] [] (uL (bK .i64 (fun y=>(aO y).headD aI) r) r.length) []:=Tri.fmap (vV k x1 r h) (aKP .i64 (fun y=>(aO y).headD aI) (fun y=>by simp [AV.refs,AV.refsL,aO]))
end Go.Ws

namespace Go.Ws
open Go.Proofs
set_option linter.unusedSimpArgs false
set_option linter.unusedVariables false
set_option maxRecDepth 1000000
set_option maxHeartbeats 4000000
theorem nG (k:Nat) (x1:List aG) (r:Bool) (h:g6 k x1=some r):Tri Try.prog 18 [(.sl 1 (List.map aH x1))] [] (.bool r) []:=aHI h
end Go.Ws

namespace Go.Ws
open Go.Proofs
set_option linter.unusedSimpArgs false
set_option linter.unusedVariables false
set_option maxRecDepth 1000000
set_option maxHeartbeats 4000000
noncomputable def X32:Ctx:=⟨Try.f32,[],true⟩
noncomputable def L32_0:Code:=at_ Try.f32 [1,0,1,4,5]
def S32_0 (x1:aG) (x2:Int) (b6:Int):St:=⟨mkT 24 [(0,(.sl 2 (List.map bW x1))),(1,(.int .i64 x2)),(5,(.int .i64 b6))],[]⟩
def aEN:St:=⟨mkT 24 [],[]⟩
def O32_0 (x1:aG) (x2:Int) (y:(Sum (Unit) (Int))):GX:=match y with
 | .inl y=>.st (.exit 0) (aEN)
 | .inr y=>.fin (.int .i64 y) []
theorem m9 (x1:aG) (x2:Int) (y:(Sum (Unit) (Int))):∀(k:Nat) (b6:Int),eD k x1 x2 b6=some y→LT Try.prog X32 L32_0 (S32_0 x1 x2 b6) (O32_0 x1 x2 y)
 | 0,b6,h=>by cases h
 | k+1,b6,h=>by
  rw[eD] at h
  by_cases cL0:ltI b6 (nI x1.length)=true
  · rw[if_pos cL0] at h
    by_cases cL1:inI b6 x1.length=true
    · rw[if_pos cL1] at h
      obtain⟨lB,eL2,h⟩:=bsm h
      let u3:List Ans:=[.n x1.length,dt,.n x1.length,.row [(.int .i64 lB.1)]]
      let w4:List Prf:=[⟨(bA (e:=bW) eL2 2 0 1 (by decide))⟩,⟨cL1⟩,⟨(aL bW x1)⟩,⟨cL0⟩,⟨(aL bW x1)⟩]
      by_cases cL3:eqI lB.1 x2=true
      · rw[if_pos cL3] at h
        obtain rfl:=osi h
        show LT _ _ _ _ (.fin (.int .i64 lB.2) [])
        exact LT.done aD (hs:=⟨[],[],false,[],[]⟩) (es:=none) (u3++[dt,.n x1.length,.row [(.int .i64 lB.2)]]) ([⟨(bA (e:=bW) eL2 2 1 1 (by decide))⟩,⟨cL1⟩,⟨(aL bW x1)⟩,⟨cL3⟩]++w4) (by kernel_rfl) (fun s h=>by cases h)
      rw[if_neg cL3] at h;replace cL3:=eqf cL3
      exact LT.next aD (hs:=⟨[(0,[]),(1,[]),(5,[])],[],false,[],[]⟩) (es:=none) (u3++[df]) ([⟨cL3⟩]++w4) (by kernel_rfl) (m9 x1 x2 y k (aN .i64 b6 1) h)
    rw[if_neg cL1] at h;replace cL1:=eqf cL1
    cases h
  rw[if_neg cL0] at h;replace cL0:=eqf cL0
  obtain rfl:=osi h
  show LT _ _ _ _ (.st (.exit 0) (aEN))
  exact LT.done aD (hs:=⟨[],[],false,[],[]⟩) (es:=(some ⟨[],[],false,[],[]⟩)) [.n x1.length,df] [⟨cL0⟩,⟨(aL bW x1)⟩] (by kernel_rfl) (fun s h=>by cases h)
theorem wA (k:Nat) (x1:aG) (x2:Int) (r:Int) (h:lN k x1 x2=some r):Tri Try.prog 32 [(.sl 2 (List.map bW x1)),(.int .i64 x2)] [] (.int .i64 r) []:=by
 unfold lN at h
 obtain⟨x3,e0,h⟩:=bsm h
 cases x3 with
 | inl x4 =>
  simp only[Sum.elim_inl] at h
  obtain rfl:=osi h
  exact Tri.of (x:=X32) aD aJG [.norm 2 ⟨[(0,[]),(1,[]),(5,[])],[],false,[],[]⟩,.out (.st .normal (aEN))] [⟨(LT.block (m9 x1 x2 _ k 0 e0))⟩] (by kernel_rfl)
 | inr x4 =>
  simp only[Sum.elim_inr] at h
  obtain rfl:=osi h
  exact Tri.of (x:=X32) aD aJG [.norm 2 ⟨[(0,[]),(1,[]),(5,[])],[],false,[],[]⟩,.out (.fin (.int .i64 x4) [])] [⟨(LT.blockFin (id:=0) (m9 x1 x2 _ k 0 e0))⟩] (by kernel_rfl)
end Go.Ws

namespace Go.Ws
open Go.Proofs
set_option linter.unusedSimpArgs false
set_option linter.unusedVariables false
set_option maxRecDepth 1000000
set_option maxHeartbeats 4000000
noncomputable def X19:Ctx:=⟨Try.f19,[],true⟩
noncomputable def L19_2:Code:=at_ Try.f19 [1,0,1,4,5,1,0,4,1,4,5,1,0,4,1,4,5]
def S19_2 (x1:List aG) (bM:Int) (bN:Int) (bP:Int):St:=⟨mkT 66 [(0,(.sl 1 (List.map bD x1))),(3,(.int .i64 bP)),(4,(.int .i64 bN)),(5,(.int .i64 bM))],[]⟩
def aDY (x1:List aG) (v19022_1:Int) (v19022_2:Int):St:=⟨mkT 66 [(0,(.sl 1 (List.map bD x1))),(3,(.int .i64 v19022_1)),(4,(.int .i64 v19022_2))],[]⟩
def O19_2 (x1:List aG) (y:(Sum (Int × Int) (Bool))):GX:=match y with
 | .inl y=>.st (.exit 4) (aDY x1 y.1 y.2)
 | .inr y=>.fin (.bool y) []
noncomputable def L19_1:Code:=at_ Try.f19 [1,0,1,4,5,1,0,4,1,4,5]
def S19_1 (x1:List aG) (cW:Int) (cX:Int):St:=⟨mkT 66 [(0,(.sl 1 (List.map bD x1))),(3,(.int .i64 cX)),(4,(.int .i64 cW))],[]⟩
def aES (x1:List aG) (v19012_1:Int):St:=⟨mkT 66 [(0,(.sl 1 (List.map bD x1))),(3,(.int .i64 v19012_1))],[]⟩
def O19_1 (x1:List aG) (y:(Sum (Int) (Bool))):GX:=match y with
 | .inl y=>.st (.exit 2) (aES x1 y)
 | .inr y=>.fin (.bool y) []
noncomputable def L19_0:Code:=at_ Try.f19 [1,0,1,4,5]
def S19_0 (x1:List aG) (cY:Int):St:=⟨mkT 66 [(0,(.sl 1 (List.map bD x1))),(3,(.int .i64 cY))],[]⟩
def aE2:St:=⟨mkT 66 [],[]⟩
def O19_0 (x1:List aG) (y:aAI):GX:=match y with
 | .inl y=>.st (.exit 0) (aE2)
 | .inr y=>.fin (.bool y) []
theorem gS (x1:List aG) (y:(Sum (Int × Int) (Bool))):∀(k:Nat) (bM:Int) (bN:Int) (bP:Int),cL k x1 bM bN bP=some y→LT Try.prog X19 L19_2 (S19_2 x1 bM bN bP) (O19_2 x1 y)
 | 0,bM,bN,bP,h=>by cases h
 | k+1,bM,bN,bP,h=>by
  rw[cL] at h
  by_cases cL0:inI bP x1.length=true
  · rw[if_pos cL0] at h
    obtain⟨d9,eL1,h⟩:=bsm h
    let u1:List Ans:=[.n x1.length,.row [(.sl 2 (List.map bW d9))],.n d9.length]
    let w2:List Prf:=[⟨(aL bW d9)⟩,⟨(bA (e:=bD) eL1 1 0 1 (by decide))⟩,⟨cL0⟩,⟨(aL bD x1)⟩]
    by_cases cL2:ltI bM (nI d9.length)=true
    · rw[if_pos cL2] at h
      by_cases cL3:inI bM d9.length=true
      · rw[if_pos cL3] at h
        obtain⟨lC,eL4,h⟩:=bsm h
        obtain⟨mZ,eL5,h⟩:=bsm h
        by_cases cL6:inI bN x1.length=true
        · rw[if_pos cL6] at h
          obtain⟨rW,eL7,h⟩:=bsm h
          obtain⟨m5,eL8,h⟩:=bsm h
          let u3:List Ans:=u1++[dt,.n x1.length,.row [(.sl 2 (List.map bW d9))],.n x1.length,.row [(.sl 2 (List.map bW d9))],.n d9.length,.row [(.int .i64 lC.1)],.call ⟨true,[]⟩ (.int .i64 mZ) [],.n x1.length,.row [(.sl 2 (List.map bW rW))],.n x1.length,.row [(.sl 2 (List.map bW d9))],.n d9.length,.row [(.int .i64 lC.1)],.call ⟨true,[]⟩ (.int .i64 m5) []]
          let w4:List Prf:=[⟨(wA k rW lC.1 _ eL8)⟩,⟨(bA (e:=bW) eL4 2 0 1 (by decide))⟩,⟨cL3⟩,⟨(aL bW d9)⟩,⟨(bA (e:=bD) eL1 1 0 1 (by decide))⟩,⟨cL0⟩,⟨(aL bD x1)⟩,⟨(bA (e:=bD) eL7 1 0 1 (by decide))⟩,⟨cL6⟩,⟨(aL bD x1)⟩,⟨(wA k d9 lC.1 _ eL5)⟩,⟨(bA (e:=bW) eL4 2 0 1 (by decide))⟩,⟨cL3⟩,⟨(aL bW d9)⟩,⟨(bA (e:=bD) eL1 1 0 1 (by decide))⟩,⟨cL0⟩,⟨(aL bD x1)⟩,⟨(bA (e:=bD) eL1 1 0 1 (by decide))⟩,⟨cL0⟩,⟨(aL bD x1)⟩,⟨cL2⟩]++w2
          by_cases cL9:eqI mZ 0=true
          · rw[if_pos cL9] at h
            exact LT.next aD (hs:=⟨[(0,[]),(3,[]),(4,[]),(5,[])],[],false,[],[]⟩) (es:=none) (u3++[df,df,df,df,df,df,df,df]) ([⟨rF⟩,⟨rF⟩,⟨rF⟩,⟨rF⟩,⟨rF⟩,⟨(nF cL9)⟩,⟨(nF cL9)⟩,⟨(nF cL9)⟩]++w4) (by kernel_rfl) (gS x1 y k (aN .i64 bM 1) bN bP h)
          rw[if_neg cL9] at h;replace cL9:=eqf cL9
          let w6:List Prf:=[⟨(nT cL9)⟩,⟨(nT cL9)⟩,⟨(nT cL9)⟩]++w4
          by_cases cL10:eqI m5 0=true
          · rw[if_pos cL10] at h
            exact LT.next aD (hs:=⟨[(0,[]),(3,[]),(4,[]),(5,[])],[],false,[],[]⟩) (es:=none) (u3++[dt,dt,dt,df,df,df,df,df]) ([⟨rF⟩,⟨(nF cL10)⟩,⟨(nF cL10)⟩,⟨(nF cL10)⟩,⟨(nF cL10)⟩]++w6) (by kernel_rfl) (gS x1 y k (aN .i64 bM 1) bN bP h)
          rw[if_neg cL10] at h;replace cL10:=eqf cL10
          let w8:List Prf:=[⟨(nT cL10)⟩,⟨(nT cL10)⟩,⟨(nT cL10)⟩,⟨(nT cL10)⟩]++w6
          by_cases cL11:eqI mZ m5=true
          · rw[if_pos cL11] at h
            exact LT.next aD (hs:=⟨[(0,[]),(3,[]),(4,[]),(5,[])],[],false,[],[]⟩) (es:=none) (u3++[dt,dt,dt,dt,dt,dt,dt,df]) ([⟨(nF cL11)⟩]++w8) (by kernel_rfl) (gS x1 y k (aN .i64 bM 1) bN bP h)
          rw[if_neg cL11] at h;replace cL11:=eqf cL11
          obtain rfl:=osi h
          show LT _ _ _ _ (.fin (.bool false) [])
          exact LT.done aD (hs:=⟨[],[],false,[],[]⟩) (es:=none) (u3++[dt,dt,dt,dt,dt,dt,dt,dt]) ([⟨(nT cL11)⟩]++w8) (by kernel_rfl) (fun s h=>by cases h)
        rw[if_neg cL6] at h;replace cL6:=eqf cL6
        cases h
      rw[if_neg cL3] at h;replace cL3:=eqf cL3
      cases h
    rw[if_neg cL2] at h;replace cL2:=eqf cL2
    obtain rfl:=osi h
    show LT _ _ _ _ (.st (.exit 4) (aDY x1 bP bN))
    exact LT.done aD (hs:=⟨[],[],false,[],[]⟩) (es:=(some ⟨[(0,[]),(3,[]),(4,[])],[],false,[],[]⟩)) (u1++[df]) ([⟨cL2⟩]++w2) (by kernel_rfl) (fun s h=>by cases h)
  rw[if_neg cL0] at h;replace cL0:=eqf cL0
  cases h
theorem mW (x1:List aG) (y:(Sum (Int) (Bool))):∀(k:Nat) (cW:Int) (cX:Int),dO k x1 cW cX=some y→LT Try.prog X19 L19_1 (S19_1 x1 cW cX) (O19_1 x1 y)
 | 0,cW,cX,h=>by cases h
 | k+1,cW,cX,h=>by
  rw[dO] at h
  by_cases cL0:ltI cW (nI x1.length)=true
  · rw[if_pos cL0] at h
    let u11:List Ans:=[.n x1.length,dt,.norm 14 ⟨[(0,[]),(3,[]),(4,[]),(5,[])],[],false,[],[]⟩]
    let w12:List Prf:=[⟨cL0⟩,⟨(aL bD x1)⟩]
    obtain⟨v19010_1,eL1,h⟩:=bsm h
    cases v19010_1 with
    | inl fV =>
     simp only[Sum.elim_inl] at h
     exact LT.next aD (hs:=⟨[(0,[]),(3,[]),(4,[])],[],false,[],[]⟩) (es:=none) (u11++[.out (.st .normal (aDY x1 fV.1 fV.2))]) ([⟨(LT.block (gS x1 _ k 0 cW cX eL1))⟩]++w12) (by kernel_rfl) (mW x1 y k (aN .i64 fV.2 1) fV.1 h)
    | inr fV =>
     simp only[Sum.elim_inr] at h
     obtain rfl:=osi h
     show LT _ _ _ _ (.fin (.bool fV) [])
     exact LT.done aD (hs:=⟨[],[],false,[],[]⟩) (es:=none) (u11++[.out (.fin (.bool fV) [])]) ([⟨(LT.blockFin (id:=4) (gS x1 _ k 0 cW cX eL1))⟩]++w12) (by kernel_rfl) (fun s h=>by cases h)
  rw[if_neg cL0] at h;replace cL0:=eqf cL0
  obtain rfl:=osi h
  show LT _ _ _ _ (.st (.exit 2) (aES x1 cX))
  exact LT.done aD (hs:=⟨[],[],false,[],[]⟩) (es:=(some ⟨[(0,[]),(3,[])],[],false,[],[]⟩)) [.n x1.length,df] [⟨cL0⟩,⟨(aL bD x1)⟩] (by kernel_rfl) (fun s h=>by cases h)
theorem mE (x1:List aG) (y:aAI):∀(k:Nat) (cY:Int),dN k x1 cY=some y→LT Try.prog X19 L19_0 (S19_0 x1 cY) (O19_0 x1 y)
 | 0,cY,h=>by cases h
 | k+1,cY,h=>by
  rw[dN] at h
  by_cases cL0:ltI cY (nI x1.length)=true
  · rw[if_pos cL0] at h
    let u15:List Ans:=[.n x1.length,dt,.norm 8 ⟨[(0,[]),(3,[]),(4,[])],[],false,[],[]⟩]
    let w16:List Prf:=[⟨cL0⟩,⟨(aL bD x1)⟩]
    obtain⟨v19000_1,eL1,h⟩:=bsm h
    cases v19000_1 with
    | inl iL =>
     simp only[Sum.elim_inl] at h
     exact LT.next aD (hs:=⟨[(0,[]),(3,[])],[],false,[],[]⟩) (es:=none) (u15++[.out (.st .normal (aES x1 iL))]) ([⟨(LT.block (mW x1 _ k 0 cY eL1))⟩]++w16) (by kernel_rfl) (mE x1 y k (aN .i64 iL 1) h)
    | inr iL =>
     simp only[Sum.elim_inr] at h
     obtain rfl:=osi h
     show LT _ _ _ _ (.fin (.bool iL) [])
     exact LT.done aD (hs:=⟨[],[],false,[],[]⟩) (es:=none) (u15++[.out (.fin (.bool iL) [])]) ([⟨(LT.blockFin (id:=2) (mW x1 _ k 0 cY eL1))⟩]++w16) (by kernel_rfl) (fun s h=>by cases h)
  rw[if_neg cL0] at h;replace cL0:=eqf cL0
  obtain rfl:=osi h
  show LT _ _ _ _ (.st (.exit 0) (aE2))
  exact LT.done aD (hs:=⟨[],[],false,[],[]⟩) (es:=(some ⟨[],[],false,[],[]⟩)) [.n x1.length,df] [⟨cL0⟩,⟨(aL bD x1)⟩] (by kernel_rfl) (fun s h=>by cases h)
theorem aBT (k:Nat) (x1:List aG) (r:Bool) (h:lQ k x1=some r):Tri Try.prog 19 [(.sl 1 (List.map bD x1))] [] (.bool r) []:=by
 unfold lQ at h
 obtain⟨x2,e0,h⟩:=bsm h
 cases x2 with
 | inl x3 =>
  simp only[Sum.elim_inl] at h
  obtain rfl:=osi h
  exact Tri.of (x:=X19) aD aJI [.norm 2 ⟨[(0,[]),(3,[])],[],false,[],[]⟩,.out (.st .normal (aE2))] [⟨(LT.block (mE x1 _ k 0 e0))⟩] (by kernel_rfl)
 | inr x3 =>
  simp only[Sum.elim_inr] at h
  obtain rfl:=osi h
  exact Tri.of (x:=X19) aD aJI [.norm 2 ⟨[(0,[]),(3,[])],[],false,[],[]⟩,.out (.fin (.bool x3) [])] [⟨(LT.blockFin (id:=0) (mE x1 _ k 0 e0))⟩] (by kernel_rfl)
end Go.Ws

namespace Go.Ws
open Go.Proofs
set_option linter.unusedSimpArgs false
set_option linter.unusedVariables false
set_option maxRecDepth 1000000
set_option maxHeartbeats 4000000
noncomputable def X4:Ctx:=⟨Try.f4,[],true⟩
noncomputable def L4_0:Code:=at_ Try.f4 [1,1,1,1,0,1,4,5]
def S4_0 (x1:List aG) (x2:Int) (cA:Int) (aY:List aG) (aU:List aG) (aZ:List aG):St:=⟨mkT 69 [(0,(.sl 1 (List.map bD x1))),(1,(.int .u8 x2)),(5,(.ref 1 0 0 0 aY.length .virt)),(6,(.ref 1 1 0 0 aU.length .virt)),(7,(.ref 1 2 0 0 aZ.length .virt)),(16,(.sl 1 (List.map bD x1))),(17,(.int .i64 (nI x1.length))),(18,(.int .i64 cA))],[(.arr 1 (List.map aH aY) 0 0 false),(.arr 1 (List.map aH aU) 0 0 false),(.arr 1 (List.map aH aZ) 0 0 false)]⟩
def aHF (x1:List aG) (aJ3:List aG) (aJ4:List aG) (aJ5:List aG):St:=⟨mkT 69 [(0,(.sl 1 (List.map bD x1))),(5,(.ref 1 0 0 0 aJ3.length .virt)),(6,(.ref 1 1 0 0 aJ4.length .virt)),(7,(.ref 1 2 0 0 aJ5.length .virt))],[(.arr 1 (List.map aH aJ3) 0 0 false),(.arr 1 (List.map aH aJ4) 0 0 false),(.arr 1 (List.map aH aJ5) 0 0 false)]⟩
def O4_0 (x1:List aG) (x2:Int) (y:(Sum ((List aG) × (List aG) × (List aG)) (Bool))):GX:=match y with
 | .inl y=>.st (.exit 0) (aHF x1 y.1 y.2.1 y.2.2)
 | .inr y=>.fin (.bool y) []
theorem fW (x1:List aG) (x2:Int) (y:(Sum ((List aG) × (List aG) × (List aG)) (Bool))):∀(k:Nat) (cA:Int) (aY:List aG) (aU:List aG) (aZ:List aG),bH k x1 x2 cA aY aU aZ=some y→LT Try.prog X4 L4_0 (S4_0 x1 x2 cA aY aU aZ) (O4_0 x1 x2 y)
 | 0,cA,aY,aU,aZ,h=>by cases h
 | k+1,cA,aY,aU,aZ,h=>by
  rw[bH] at h
  by_cases cL0:ltI cA (nI x1.length)=true
  · rw[if_pos cL0] at h
    by_cases cL1:inI cA x1.length=true
    · rw[if_pos cL1] at h
      obtain⟨gX,eL2,h⟩:=bsm h
      let u1:List Ans:=[dt,.n x1.length,.row [(.sl 2 (List.map bW gX))],.n gX.length]
      let w2:List Prf:=[⟨(aL bW gX)⟩,⟨(bA (e:=bD) eL2 1 0 1 (by decide))⟩,⟨cL1⟩,⟨(aL bD x1)⟩,⟨cL0⟩]
      by_cases cL3:ltI 100 (nI gX.length)=true
      · rw[if_pos cL3] at h
        obtain rfl:=osi h
        show LT _ _ _ _ (.fin (.bool true) [])
        exact LT.done aD (hs:=⟨[],[],false,[],[]⟩) (es:=none) (u1++[dt]) ([⟨cL3⟩]++w2) (by kernel_rfl) (fun s h=>by cases h)
      rw[if_neg cL3] at h;replace cL3:=eqf cL3
      obtain⟨cS,eL4,h⟩:=bsm h
      by_cases cL5:fD (((aY++[cS]).length)*8)=true
      · rw[if_pos cL5] at h
        obtain⟨dI,eL6,h⟩:=bsm h
        by_cases cL7:fD ((([dI]++aU).length)*8)=true
        · rw[if_pos cL7] at h
          by_cases cL8:eqI (nI x1.length) 0=true
          · rw[if_pos cL8] at h
            cases h
          rw[if_neg cL8] at h;replace cL8:=eqf cL8
          let u3:List Ans:=u1++[df,.call ⟨true,[]⟩ (uL (bK .i64 (fun y=>(aO y).headD aI) cS) cS.length) [],.rows (List.map aH [cS]),.n ((aY++[cS]).length),.n aY.length,dt,.rows (List.map aH (aY++[cS])),.call ⟨true,[]⟩ (uL (bK .i64 (fun y=>(aO y).headD aI) dI) dI.length) [],.rows (List.map aH aU),.n (([dI]++aU).length),.n 1,dt,.rows (List.map aH ([dI]++aU)),.n x1.length,df]
          let w4:List Prf:=[⟨cL8⟩,⟨(aL bD x1)⟩,⟨(sE aH [dI] aU)⟩,⟨(rfl:eqN 1 1=true)⟩,⟨(rfl:(List.map aH [dI]).length=1)⟩,⟨cL7⟩,⟨(by simp only[wl,List.length_map,List.map_nil,List.map_cons]<;>omega:1+(List.map aH aU).length=([dI]++aU).length)⟩,⟨(bJ aH (l:=aU) (n:=aU.length) rfl)⟩,⟨(dJ aH (Nat.le_refl aU.length):0+aU.length≤(List.map aH aU).length)⟩,⟨(mT k gX _ eL6)⟩,⟨(sE aH aY [cS])⟩,⟨(rG aY.length)⟩,⟨(aL aH aY)⟩,⟨cL5⟩,⟨(by simp only[wl,List.length_map,List.map_nil,List.map_cons]<;>omega:aY.length+(List.map aH [cS]).length=(aY++[cS]).length)⟩,⟨(bJ aH (l:=[cS]) (n:=1) rfl)⟩,⟨(dJ aH (Nat.le_refl 1):0+1≤(List.map aH [cS]).length)⟩,⟨(mT k gX _ eL4)⟩,⟨cL3⟩]++w2
          by_cases cL9:eqI cA (irem .i64 (conv .i64 x2) (nI x1.length))=true
          · rw[if_pos cL9] at h
            exact LT.next aD (hs:=⟨[(0,[]),(1,[]),(5,[]),(6,[]),(7,[]),(16,[]),(17,[]),(18,[])],[⟨.tmp 5,[],some 1⟩,⟨.tmp 6,[],some 1⟩,⟨.tmp 7,[],some 1⟩],false,[],[]⟩) (es:=none) (u3++[df,.n ((aY++[cS]).length),.rows (List.map aH (aY++[cS])),.n (([dI]++aU).length),.rows (List.map aH ([dI]++aU)),.n aZ.length,.rows (List.map aH aZ)]) ([⟨(cM aH (l:=aZ) (n:=aZ.length) rfl)⟩,⟨(rfl:aZ.length=aZ.length)⟩,⟨(cM aH (l:=([dI]++aU)) (n:=(([dI]++aU).length)) rfl)⟩,⟨(rfl:([dI]++aU).length=([dI]++aU).length)⟩,⟨(cM aH (l:=(aY++[cS])) (n:=((aY++[cS]).length)) rfl)⟩,⟨(rfl:(aY++[cS]).length=(aY++[cS]).length)⟩,⟨(zle aZ.length)⟩,⟨(zle (([dI]++aU).length))⟩,⟨(zle ((aY++[cS]).length))⟩,⟨(nF cL9)⟩]++w4) (by kernel_rfl) (fW x1 x2 y k (aN .i64 cA 1) (aY++[cS]) ([dI]++aU) aZ h)
          rw[if_neg cL9] at h;replace cL9:=eqf cL9
          obtain⟨eS,eL10,h⟩:=bsm h
          by_cases cL11:fD (((aZ++[eS]).length)*8)=true
          · rw[if_pos cL11] at h
            exact LT.next aD (hs:=⟨[(0,[]),(1,[]),(5,[]),(6,[]),(7,[]),(16,[]),(17,[]),(18,[])],[⟨.tmp 5,[],some 1⟩,⟨.tmp 6,[],some 1⟩,⟨.tmp 7,[],some 1⟩],false,[],[]⟩) (es:=none) (u3++[dt,.call ⟨true,[]⟩ (uL (bK .i64 (fun y=>(aO y).headD aI) eS) eS.length) [],.rows (List.map aH [eS]),.n ((aZ++[eS]).length),.n aZ.length,dt,.rows (List.map aH (aZ++[eS])),.n ((aY++[cS]).length),.rows (List.map aH (aY++[cS])),.n (([dI]++aU).length),.rows (List.map aH ([dI]++aU)),.n ((aZ++[eS]).length),.rows (List.map aH (aZ++[eS]))]) ([⟨(cM aH (l:=(aZ++[eS])) (n:=((aZ++[eS]).length)) rfl)⟩,⟨(rfl:(aZ++[eS]).length=(aZ++[eS]).length)⟩,⟨(cM aH (l:=([dI]++aU)) (n:=(([dI]++aU).length)) rfl)⟩,⟨(rfl:([dI]++aU).length=([dI]++aU).length)⟩,⟨(cM aH (l:=(aY++[cS])) (n:=((aY++[cS]).length)) rfl)⟩,⟨(rfl:(aY++[cS]).length=(aY++[cS]).length)⟩,⟨(zle ((aZ++[eS]).length))⟩,⟨(zle (([dI]++aU).length))⟩,⟨(zle ((aY++[cS]).length))⟩,⟨(sE aH aZ [eS])⟩,⟨(rG aZ.length)⟩,⟨(aL aH aZ)⟩,⟨cL11⟩,⟨(by simp only[wl,List.length_map,List.map_nil,List.map_cons]<;>omega:aZ.length+(List.map aH [eS]).length=(aZ++[eS]).length)⟩,⟨(bJ aH (l:=[eS]) (n:=1) rfl)⟩,⟨(dJ aH (Nat.le_refl 1):0+1≤(List.map aH [eS]).length)⟩,⟨(mT k gX _ eL10)⟩,⟨(nT cL9)⟩]++w4) (by kernel_rfl) (fW x1 x2 y k (aN .i64 cA 1) (aY++[cS]) ([dI]++aU) (aZ++[eS]) h)
          rw[if_neg cL11] at h;replace cL11:=eqf cL11
          cases h
        rw[if_neg cL7] at h;replace cL7:=eqf cL7
        cases h
      rw[if_neg cL5] at h;replace cL5:=eqf cL5
      cases h
    rw[if_neg cL1] at h;replace cL1:=eqf cL1
    cases h
  rw[if_neg cL0] at h;replace cL0:=eqf cL0
  obtain rfl:=osi h
  show LT _ _ _ _ (.st (.exit 0) (aHF x1 aY aU aZ))
  exact LT.done aD (hs:=⟨[],[],false,[],[]⟩) (es:=(some ⟨[(0,[]),(5,[]),(6,[]),(7,[])],[⟨.tmp 5,[],none⟩,⟨.tmp 6,[],none⟩,⟨.tmp 7,[],none⟩],false,[],[]⟩)) [df] [⟨cL0⟩] (by kernel_rfl) (fun s h=>by cases h)
theorem tQ (k:Nat) (x1:List aG) (x2:Int) (r:Bool) (h:gR k x1 x2=some r):Tri Try.prog 4 [(.sl 1 (List.map bD x1)),(.int .u8 x2)] [] (.bool r) []:=by
 unfold gR at h
 obtain⟨x3,e0,h⟩:=bsm h
 let u5:List Ans:=[.call ⟨true,[]⟩ (.bool x3) []]
 by_cases c1:x3=true
 · rw[if_pos c1] at h
   let w8:List Prf:=[⟨(aL bD x1)⟩,⟨(nF c1)⟩,⟨(tZ k _ e0)⟩]
   by_cases c2:ltI 8 (nI x1.length)=true
   · rw[if_pos c2] at h
     obtain rfl:=osi h
     exact Tri.of (x:=X4) aD wM (u5++[df,.n x1.length,dt]) ([⟨c2⟩]++w8) (by kernel_rfl)
   rw[if_neg c2] at h;replace c2:=eqf c2
   let u9:List Ans:=u5++[df,.n x1.length,df,.n x1.length,.norm 2 ⟨[(0,[]),(1,[]),(5,[]),(6,[]),(7,[]),(16,[]),(17,[]),(18,[])],[⟨.tmp 5,[],some 1⟩,⟨.tmp 6,[],some 1⟩,⟨.tmp 7,[],some 1⟩],false,[],[]⟩,.n 0,.rows (List.map aH []),.n 0,.rows (List.map aH []),.n 0,.rows (List.map aH [])]
   let w10:List Prf:=[⟨(cM aH (l:=[]) (n:=0) rfl)⟩,⟨(rfl:0=0)⟩,⟨(cM aH (l:=[]) (n:=0) rfl)⟩,⟨(rfl:0=0)⟩,⟨(cM aH (l:=[]) (n:=0) rfl)⟩,⟨(rfl:0=0)⟩,⟨(zle 0)⟩,⟨(zle 0)⟩,⟨(zle 0)⟩,⟨(aL bD x1)⟩,⟨c2⟩]++w8
   obtain⟨x4,e3,h⟩:=bsm h
   cases x4 with
   | inl x5 =>
    simp only[Sum.elim_inl] at h
    obtain⟨x6,e5,h⟩:=bsm h
    obtain⟨x7,e6,h⟩:=bsm h
    let u11:List Ans:=u9++[.out (.st .normal (aHF x1 x5.1 x5.2.1 x5.2.2)),.call ⟨true,[]⟩ (.bool x6) [],.rows (List.map aH x5.1),.call ⟨true,[]⟩ (.bool x7) []]
    let w12:List Prf:=[⟨(aBT k x1 _ e6)⟩,⟨(nG k x5.1 _ e5)⟩,⟨(bJ aH (l:=x5.1) (n:=x5.1.length) rfl)⟩,⟨(dJ aH (Nat.le_refl x5.1.length):0+x5.1.length≤(List.map aH x5.1).length)⟩,⟨(LT.block (fW x1 x2 _ k 0 [] [] [] e3))⟩]++w10
    by_cases c7:eqB x6 x7=true
    · rw[if_pos c7] at h
      obtain⟨x8,e8,h⟩:=bsm h
      let u13:List Ans:=u11++[dt,dt,dt,.call ⟨true,[]⟩ (.bool x8) [],.rows (List.map aH x5.2.1),dt,dt]
      let w14:List Prf:=[⟨c7⟩,⟨c7⟩,⟨(nG k x5.2.1 _ e8)⟩,⟨(bJ aH (l:=x5.2.1) (n:=x5.2.1.length) rfl)⟩,⟨(dJ aH (Nat.le_refl x5.2.1.length):0+x5.2.1.length≤(List.map aH x5.2.1).length)⟩,⟨c7⟩,⟨c7⟩,⟨c7⟩]++w12
      by_cases c9:eqB x6 x8=true
      · rw[if_pos c9] at h
        by_cases c10:x6=true
        · rw[if_pos c10] at h
          obtain⟨x9,e11,h⟩:=bsm h
          obtain rfl:=osi h
          exact Tri.of (x:=X4) aD wM (u13++[dt,dt,dt,df,df,.call ⟨true,[]⟩ (.bool x9) [],.rows (List.map aH x5.2.2),dt,df,dt]) ([⟨c9⟩,⟨(nF c10)⟩,⟨c9⟩,⟨(nG k x5.2.2 _ e11)⟩,⟨(bJ aH (l:=x5.2.2) (n:=x5.2.2.length) rfl)⟩,⟨(dJ aH (Nat.le_refl x5.2.2.length):0+x5.2.2.length≤(List.map aH x5.2.2).length)⟩,⟨(nF c10)⟩,⟨(nF c10)⟩,⟨c9⟩,⟨c9⟩,⟨c9⟩]++w14) (by kernel_rfl)
        rw[if_neg c10] at h;replace c10:=eqf c10
        obtain rfl:=osi h
        exact Tri.of (x:=X4) aD wM (u13++[dt,dt,dt,dt,dt,dt,dt,dt]) ([⟨c9⟩,⟨(nT c10)⟩,⟨c9⟩,⟨(nT c10)⟩,⟨(nT c10)⟩,⟨c9⟩,⟨c9⟩,⟨c9⟩]++w14) (by kernel_rfl)
      rw[if_neg c9] at h;replace c9:=eqf c9
      obtain rfl:=osi h
      exact Tri.of (x:=X4) aD wM (u13++[df,df,df,df,df]) ([⟨c9⟩,⟨c9⟩,⟨c9⟩,⟨c9⟩,⟨c9⟩]++w14) (by kernel_rfl)
    rw[if_neg c7] at h;replace c7:=eqf c7
    obtain rfl:=osi h
    exact Tri.of (x:=X4) aD wM (u11++[df,df,df,df,df,df,df,df,df,df]) ([⟨rF⟩,⟨rF⟩,⟨rF⟩,⟨rF⟩,⟨rF⟩,⟨c7⟩,⟨c7⟩,⟨c7⟩,⟨c7⟩,⟨c7⟩]++w12) (by kernel_rfl)
   | inr x5 =>
    simp only[Sum.elim_inr] at h
    obtain rfl:=osi h
    exact Tri.of (x:=X4) aD wM (u9++[.out (.fin (.bool x5) [])]) ([⟨(LT.blockFin (id:=0) (fW x1 x2 _ k 0 [] [] [] e3))⟩]++w10) (by kernel_rfl)
 rw[if_neg c1] at h;replace c1:=eqf c1
 obtain rfl:=osi h
 exact Tri.of (x:=X4) aD wM (u5++[dt]) [⟨(nT c1)⟩,⟨(tZ k _ e0)⟩] (by kernel_rfl)
end Go.Ws
