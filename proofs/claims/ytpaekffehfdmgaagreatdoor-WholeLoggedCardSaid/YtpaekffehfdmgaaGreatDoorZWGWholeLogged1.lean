/-
  Walks, merged.
  Conditions: none.
-/
import Derived.Test.YtpaekffehfdmgaaGreatDoorZPre
import Derived.Test.YtpaekffehfdmgaaGreatDoorZPure
import Derived.Test.YtpaekffehfdmgaaGreatDoorZWGWholeLogged0
import Derived.Test.YtpaekffehfdmgaaGreatDoorZDel99
import Derived.Test.YtpaekffehfdmgaaGreatDoorZIns98
import Derived.Test.YtpaekffehfdmgaaGreatDoorZOppI
set_option linter.unusedVariables false
set_option linter.unusedSimpArgs false
namespace Go.Ws
open Go.Proofs
set_option linter.unusedSimpArgs false
set_option linter.unusedVariables false
set_option maxRecDepth 1000000
set_option maxHeartbeats 4000000
noncomputable def aRN:Ctx:=⟨Tryz.f127,[],true⟩
noncomputable def L127_1_0:Code:=at_ Tryz.f127 [1,0,1,4,5]
def S127_1_0 (x1:aM) (b7:Int):St:=⟨mkT 19 [(0,(.sl 2 (List.map aC x1))),(1,(.fn 93 [])),(7,(.int .i64 (nI x1.length))),(8,(.int .i64 b7))],[]⟩
def aEL:St:=⟨mkT 19 [],[]⟩
def O127_1_0 (x1:aM) (y:(Sum (Unit) (Int))):GX:=match y with
 | .inl y=>.st (.exit 0) (aEL)
 | .inr y=>.fin (.int .i64 y) []
theorem lE (x1:aM) (y:(Sum (Unit) (Int))):∀(k:Nat) (b7:Int),cE k x1 b7=some y→LT Tryz.prog aRN L127_1_0 (S127_1_0 x1 b7) (O127_1_0 x1 y)
 | 0,b7,h=>by cases h
 | k+1,b7,h=>by
  rw[cE] at h
  by_cases cL0:ltI b7 (nI x1.length)=true
  · rw[if_pos cL0] at h
    by_cases cL1:inI b7 x1.length=true
    · rw[if_pos cL1] at h
      obtain⟨nK,eL2,h⟩:=bsm h
      let u1:List Ans:=[dt,.n x1.length,.row [(.int .u8 nK.1),(.int .i64 nK.2)],.call ⟨false,[]⟩ (.bool (!ltI nK.1 64)) []]
      let w2:List Prf:=[⟨(aIO nK.1 nK.2)⟩,⟨(bX (e:=aC) eL2 2 0 2 (by decide))⟩,⟨cL1⟩,⟨(aN aC x1)⟩,⟨cL0⟩]
      by_cases cL3:ltI nK.1 64=true
      · rw[if_pos cL3] at h
        exact LT.next mixed (hs:=⟨[(0,[]),(1,[]),(7,[]),(8,[])],[],false,[],[]⟩) (es:=none) (u1++[df]) ([⟨(nF cL3)⟩]++w2) (by kernel_rfl) (lE x1 y k (aH .i64 b7 1) h)
      rw[if_neg cL3] at h;replace cL3:=eqf cL3
      obtain rfl:=osi h
      show LT _ _ _ _ (.fin (.int .i64 b7) [])
      exact LT.done mixed (hs:=⟨[],[],false,[],[]⟩) (es:=none) (u1++[dt]) ([⟨(nT cL3)⟩]++w2) (by kernel_rfl) (fun s h=>by cases h)
    rw[if_neg cL1] at h;replace cL1:=eqf cL1
    cases h
  rw[if_neg cL0] at h;replace cL0:=eqf cL0
  obtain rfl:=osi h
  show LT _ _ _ _ (.st (.exit 0) (aEL))
  exact LT.done mixed (hs:=⟨[],[],false,[],[]⟩) (es:=(some ⟨[],[],false,[],[]⟩)) [df] [⟨cL0⟩] (by kernel_rfl) (fun s h=>by cases h)
theorem aA1 (k:Nat) (x1:aM) (r:Int) (h:jA k x1=some r):Tri Tryz.prog 127 [(.sl 2 (List.map aC x1)),(.fn 93 [])] [] (.int .i64 r) []:=by
 unfold jA at h
 let u3:List Ans:=[.n x1.length,.norm 2 ⟨[(0,[]),(1,[]),(7,[]),(8,[])],[],false,[],[]⟩]
 obtain⟨x2,e0,h⟩:=bsm h
 cases x2 with
 | inl x3 =>
  simp only[Sum.elim_inl] at h
  obtain rfl:=osi h
  exact Tri.of (x:=aRN) mixed aGV (u3++[.out (.st .normal (aEL))]) [⟨(LT.block (lE x1 _ k 0 e0))⟩,⟨(aN aC x1)⟩] (by kernel_rfl)
 | inr x3 =>
  simp only[Sum.elim_inr] at h
  obtain rfl:=osi h
  exact Tri.of (x:=aRN) mixed aGV (u3++[.out (.fin (.int .i64 x3) [])]) [⟨(LT.blockFin (id:=0) (lE x1 _ k 0 e0))⟩,⟨(aN aC x1)⟩] (by kernel_rfl)
end Go.Ws

namespace Go.Ws
open Go.Proofs
set_option linter.unusedSimpArgs false
set_option linter.unusedVariables false
set_option maxRecDepth 1000000
set_option maxHeartbeats 4000000
noncomputable def X96_1:Ctx:=⟨Tryz.f96,[],true⟩
theorem xU (k:Nat) (x1:aM) (r:Bool) (h:gU k x1=some r):Tri Tryz.prog 96 [(.sl 2 (List.map aC x1)),(.fn 93 [])] [] (.bool r) []:=by
 unfold gU at h
 obtain⟨x2,e0,h⟩:=bsm h
 obtain rfl:=osi h
 exact Tri.of (x:=X96_1) mixed aTW [.call ⟨true,[]⟩ (.int .i64 x2) []] [⟨(aA1 k x1 _ e0)⟩] (by kernel_rfl)
end Go.Ws

namespace Go.Ws
open Go.Proofs
set_option linter.unusedSimpArgs false
set_option linter.unusedVariables false
set_option maxRecDepth 1000000
set_option maxHeartbeats 4000000
noncomputable def X129:Ctx:=⟨Tryz.f129,[],false⟩
theorem zD (x1:Int) (x2:Int) (x3:Int):Tri Tryz.prog 129 [(.agg [(.int .u8 x1),(.int .i64 x2)]),(.int .u8 x3)] [] (.int .i64 (bC x1 x3)) []:=by
 obtain⟨r,h⟩:∃r,xQ x1 x2 x3=r:=⟨_,rfl⟩
 try rw[h]
 unfold xQ at h
 obtain rfl:=h
 exact Tri.of (x:=X129) mixed facts129 [.call ⟨true,[]⟩ (.int .i64 (bC x1 x3)) [],.norm 0 ⟨[(4,[])],[],false,[],[]⟩] [⟨(aBP x1 x3)⟩] (by kernel_rfl)
end Go.Ws

namespace Go.Ws
open Go.Proofs
set_option linter.unusedSimpArgs false
set_option linter.unusedVariables false
set_option maxRecDepth 1000000
set_option maxHeartbeats 4000000
noncomputable def X128:Ctx:=⟨Tryz.f128,[],true⟩
noncomputable def L128_0:Code:=at_ Tryz.f128 [1,1,1,0,4,5]
def S128_0 (x1:aM) (x2:Int) (bE:Int) (bN:Int):St:=⟨mkT 49 [(0,(.sl 2 (List.map aC x1))),(1,(.int .u8 x2)),(2,(.fn 129 [])),(8,(.int .i64 (nI x1.length))),(9,(.int .i64 bE)),(10,(.int .i64 bN))],[]⟩
def aKI (x1:aM) (x2:Int) (aV2:Int):St:=⟨mkT 49 [(0,(.sl 2 (List.map aC x1))),(1,(.int .u8 x2)),(2,(.fn 129 [])),(8,(.int .i64 (nI x1.length))),(9,(.int .i64 aV2))],[]⟩
def O128_0 (x1:aM) (x2:Int) (y:(Int)):GX:=.st (.exit 0) (aKI x1 x2 y)
theorem iH (x1:aM) (x2:Int) (y:(Int)):∀(k:Nat) (bE:Int) (bN:Int),aW k x1 x2 bE bN=some y→LT Tryz.prog X128 L128_0 (S128_0 x1 x2 bE bN) (O128_0 x1 x2 y)
 | 0,bE,bN,h=>by cases h
 | k+1,bE,bN,h=>by
  rw[aW] at h
  by_cases cL0:ltI bE bN=true
  · rw[if_pos cL0] at h
    by_cases cL1:inI (conv .i64 (aA .u64 (conv .u64 (aH .i64 bE bN)) 1)) x1.length=true
    · rw[if_pos cL1] at h
      obtain⟨nL,eL2,h⟩:=bsm h
      let u1:List Ans:=[dt,.n x1.length,.row [(.int .u8 nL.1),(.int .i64 nL.2)],.call ⟨false,[]⟩ (.int .i64 (bC nL.1 x2)) []]
      let w2:List Prf:=[⟨(zD nL.1 nL.2 x2)⟩,⟨(bX (e:=aC) eL2 2 0 2 (by decide))⟩,⟨cL1⟩,⟨(aN aC x1)⟩,⟨cL0⟩]
      by_cases cL3:ltI (bC nL.1 x2) 0=true
      · rw[if_pos cL3] at h
        exact LT.next mixed (hs:=⟨[(0,[]),(1,[]),(2,[]),(8,[]),(9,[]),(10,[])],[],false,[],[]⟩) (es:=none) (u1++[dt]) ([⟨cL3⟩]++w2) (by kernel_rfl) (iH x1 x2 y k (aH .i64 (conv .i64 (aA .u64 (conv .u64 (aH .i64 bE bN)) 1)) 1) bN h)
      rw[if_neg cL3] at h;replace cL3:=eqf cL3
      exact LT.next mixed (hs:=⟨[(0,[]),(1,[]),(2,[]),(8,[]),(9,[]),(10,[])],[],false,[],[]⟩) (es:=none) (u1++[df]) ([⟨cL3⟩]++w2) (by kernel_rfl) (iH x1 x2 y k bE (conv .i64 (aA .u64 (conv .u64 (aH .i64 bE bN)) 1)) h)
    rw[if_neg cL1] at h;replace cL1:=eqf cL1
    cases h
  rw[if_neg cL0] at h;replace cL0:=eqf cL0
  obtain rfl:=osi h
  show LT _ _ _ _ (.st (.exit 0) (aKI x1 x2 bE))
  exact LT.done mixed (hs:=⟨[],[],false,[],[]⟩) (es:=(some ⟨[(0,[]),(1,[]),(2,[]),(8,[]),(9,[])],[],false,[],[]⟩)) [df] [⟨cL0⟩] (by kernel_rfl) (fun s h=>by cases h)
theorem tY (k:Nat) (x1:aM) (x2:Int) (r:Int × Bool) (h:d5 k x1 x2=some r):Tri Tryz.prog 128 [(.sl 2 (List.map aC x1)),(.int .u8 x2),(.fn 129 [])] [] (.tup [(.int .i64 r.1),(.bool r.2)]) []:=by
 unfold d5 at h
 obtain⟨x4,e0,h⟩:=bsm h
 let u3:List Ans:=[.n x1.length,.norm 2 ⟨[(0,[]),(1,[]),(2,[]),(8,[]),(9,[]),(10,[])],[],false,[],[]⟩,.out (.st .normal (aKI x1 x2 x4))]
 let w4:List Prf:=[⟨(LT.block (iH x1 x2 _ k 0 (nI x1.length) e0))⟩,⟨(aN aC x1)⟩]
 by_cases c2:ltI x4 (nI x1.length)=true
 · rw[if_pos c2] at h
   by_cases c3:inI x4 x1.length=true
   · rw[if_pos c3] at h
     obtain⟨x5,e4,h⟩:=bsm h
     obtain rfl:=osi h
     exact Tri.of (x:=X128) mixed aQA (u3++[dt,dt,dt,dt,.n x1.length,dt,.row [(.int .u8 x5.1),(.int .i64 x5.2)],dt,dt,.call ⟨false,[]⟩ (.int .i64 (bC x5.1 x2)) [],dt,dt]) ([⟨c2⟩,⟨c2⟩,⟨(zD x5.1 x5.2 x2)⟩,⟨c2⟩,⟨c2⟩,⟨(bX (e:=aC) e4 2 0 2 (by decide))⟩,⟨c2⟩,⟨c3⟩,⟨(aN aC x1)⟩,⟨c2⟩,⟨c2⟩,⟨c2⟩,⟨c2⟩]++w4) (by kernel_rfl)
   rw[if_neg c3] at h;replace c3:=eqf c3
   cases h
 rw[if_neg c2] at h;replace c2:=eqf c2
 obtain rfl:=osi h
 exact Tri.of (x:=X128) mixed aQA (u3++[df,df,df,df,df,df,df,df,df]) ([⟨c2⟩,⟨c2⟩,⟨c2⟩,⟨c2⟩,⟨c2⟩,⟨c2⟩,⟨c2⟩,⟨c2⟩,⟨c2⟩]++w4) (by kernel_rfl)
end Go.Ws

namespace Go.Ws
open Go.Proofs
set_option linter.unusedSimpArgs false
set_option linter.unusedVariables false
set_option maxRecDepth 1000000
set_option maxHeartbeats 4000000
noncomputable def X97:Ctx:=⟨Tryz.f97,[],true⟩
theorem aJK (k:Nat) (x1:aM) (x2:Int) (r:Int × Bool) (h:rC k x1 x2=some r):Tri Tryz.prog 97 [(.sl 2 (List.map aC x1)),(.int .u8 x2)] [] (.tup [(.int .i64 r.1),(.bool r.2)]) []:=by
 unfold rC at h
 obtain⟨x3,e0,h⟩:=bsm h
 obtain rfl:=osi h
 exact Tri.of (x:=X97) mixed facts97 [.call ⟨true,[]⟩ (.tup [(.int .i64 x3.1),(.bool x3.2)]) []] [⟨(tY k x1 x2 _ e0)⟩] (by kernel_rfl)
end Go.Ws

namespace Go.Ws
open Go.Proofs
set_option linter.unusedSimpArgs false
set_option linter.unusedVariables false
set_option maxRecDepth 1000000
set_option maxHeartbeats 4000000
theorem aHS (k:Nat) (x1:Int) (x2:Int) (x3:aM) (r:aM) (h:pS k x1 x2 x3=some r):Tri Tryz.prog 99 [(.ref 2 0 0 0 x3.length .virt),(.int .i64 x1),(.int .i64 x2)] [(.arr 2 (List.map aC x3) 0 0 false)] (.ref 2 0 1 0 r.length .full) [(.arr 2 (List.map aC r) 1 1 false)]:=aP5 _ h
end Go.Ws

namespace Go.Ws
open Go.Proofs
set_option linter.unusedSimpArgs false
set_option linter.unusedVariables false
set_option maxRecDepth 1000000
set_option maxHeartbeats 4000000
theorem aDA (k:Nat) (x1:Int) (x2:aM) (x3:aM) (r:aM) (h:lS k x1 x2 x3=some r):Tri Tryz.prog 98 [(.ref 2 0 0 0 x2.length .virt),(.int .i64 x1),(.ref 2 1 0 0 x3.length .full)] [(.arr 2 (List.map aC x2) 0 0 false),(.arr 2 (List.map aC x3) 0 0 false)] (.ref 2 0 1 0 r.length .full) [(.arr 2 (List.map aC r) 1 1 false),(.arr 2 (List.map aC x3) 0 0 false)]:=ins_ok98 _ h rfl
end Go.Ws

namespace Go.Ws
open Go.Proofs
set_option linter.unusedSimpArgs false
set_option linter.unusedVariables false
set_option maxRecDepth 1000000
set_option maxHeartbeats 4000000
theorem aE8 (k:Nat) (x1:Int) (x2:Int) (x3:aM) (r:aM) (h:m6 k x1 x2 x3=some r):Tri Tryz.prog 99 [(.ref 2 0 1 0 x3.length .full),(.int .i64 x1),(.int .i64 x2)] [(.arr 2 (List.map aC x3) 1 1 false)] (.ref 2 0 2 0 r.length .full) [(.arr 2 (List.map aC r) 2 2 false)]:=aP5 _ h
end Go.Ws

namespace Go.Ws
open Go.Proofs
set_option linter.unusedSimpArgs false
set_option linter.unusedVariables false
set_option maxRecDepth 1000000
set_option maxHeartbeats 4000000
noncomputable def X75:Ctx:=⟨Tryz.f75,[],true⟩
noncomputable def L75_0:Code:=at_ Tryz.f75 [1,1,1,1,0,1,4,5]
def S75_0 (x2:aM) (b9:Int) (aY:aM):St:=⟨mkT 67 [(0,(.ref 2 0 0 0 aY.length .virt)),(22,(.sl 2 (List.map aC x2))),(23,(.int .i64 (nI x2.length))),(24,(.int .i64 b9))],[(.arr 2 (List.map aC aY) 0 0 false)]⟩
def aOF (aRE:aM):St:=⟨mkT 67 [(0,(.ref 2 0 0 0 aRE.length .virt))],[(.arr 2 (List.map aC aRE) 0 0 false)]⟩
def O75_0 (x2:aM) (y:(aM)):GX:=.st (.exit 0) (aOF y)
theorem lQ (x2:aM) (y:(aM)):∀(k:Nat) (b9:Int) (aY:aM),dY k x2 b9 aY=some y→LT Tryz.prog X75 L75_0 (S75_0 x2 b9 aY) (O75_0 x2 y)
 | 0,b9,aY,h=>by cases h
 | k+1,b9,aY,h=>by
  rw[dY] at h
  by_cases cL0:ltI b9 (nI x2.length)=true
  · rw[if_pos cL0] at h
    by_cases cL1:inI b9 x2.length=true
    · rw[if_pos cL1] at h
      obtain⟨bL,eL2,h⟩:=bsm h
      obtain⟨aU,eL3,h⟩:=bsm h
      let u1:List Ans:=[dt,.n x2.length,.row [(.int .u8 bL.1),(.int .i64 bL.2)],.call ⟨true,[]⟩ (.tup [(.int .i64 aU.1),(.bool aU.2)]) [],.rows (List.map aC aY)]
      let w2:List Prf:=[⟨(aJK k aY bL.1 _ eL3)⟩,⟨(aX aC (l:=aY) (n:=aY.length) rfl)⟩,⟨(bP aC (Nat.le_refl aY.length):0+aY.length≤(List.map aC aY).length)⟩,⟨(bX (e:=aC) eL2 2 0 2 (by decide))⟩,⟨cL1⟩,⟨(aN aC x2)⟩,⟨cL0⟩]
      by_cases cL4:aU.2=true
      · rw[if_pos cL4] at h
        by_cases cL5:inI aU.1 aY.length=true
        · rw[if_pos cL5] at h
          obtain⟨aV,eL6,h⟩:=bsm h
          obtain⟨bV,eL7,h⟩:=bsm h
          let u3:List Ans:=u1++[df,.row [(.int .i64 aV.2)],.rows (List.map aC (List.set aY (tN aU.1) (aV.1,aH .i64 aV.2 bL.2))),.row [(.int .i64 bV.2)]]
          let w4:List Prf:=[⟨(bX (e:=aC) eL7 2 1 1 (by decide))⟩,⟨cL5⟩,⟨(y5 (e:=aC) eL6 1 [(.int .i64 (aH .i64 aV.2 bL.2))] (aV.1,aH .i64 aV.2 bL.2) rfl)⟩,⟨cL5⟩,⟨(bX (e:=aC) eL6 2 1 1 (by decide))⟩,⟨cL5⟩,⟨(nF cL4)⟩]++w2
          by_cases cL8:eqI bV.2 0=true
          · rw[if_pos cL8] at h
            obtain⟨gY,eL9,h⟩:=bsm h
            exact LT.next mixed (hs:=⟨[(0,[]),(22,[]),(23,[]),(24,[])],[⟨.tmp 0,[],some 2⟩],false,[],[]⟩) (es:=none) (u3++[dt,.call ⟨false,[]⟩ (.ref 2 0 1 0 gY.length .full) [(.arr 2 (List.map aC gY) 1 1 false)],.n gY.length,.rows (List.map aC gY)]) ([⟨(dF aC (l:=gY) (n:=gY.length) rfl)⟩,⟨(rfl:gY.length=gY.length)⟩,⟨(zle gY.length)⟩,⟨(by have hh:=(aHS k aU.1 (aH .i64 aU.1 1) (List.set aY (tN aU.1) (aV.1,aH .i64 aV.2 bL.2)) _ eL9);simp only[List.length_set] at hh;exact hh)⟩,⟨cL8⟩]++w4) (by kernel_rfl) (lQ x2 y k (aH .i64 b9 1) gY h)
          rw[if_neg cL8] at h;replace cL8:=eqf cL8
          exact LT.next mixed (hs:=⟨[(0,[]),(22,[]),(23,[]),(24,[])],[⟨.tmp 0,[],some 2⟩],false,[],[]⟩) (es:=none) (u3++[df,.n ((List.set aY (tN aU.1) (aV.1,aH .i64 aV.2 bL.2)).length),.rows (List.map aC (List.set aY (tN aU.1) (aV.1,aH .i64 aV.2 bL.2)))]) ([⟨(dF aC (l:=(List.set aY (tN aU.1) (aV.1,aH .i64 aV.2 bL.2))) (n:=aY.length) (by simp:aY.length=(List.set aY (tN aU.1) (aV.1,aH .i64 aV.2 bL.2)).length))⟩,⟨((by simp:aY.length=List.length (α:=Int × Int) (List.set aY (tN aU.1) (aV.1,aH .i64 aV.2 bL.2))):aY.length=(List.set aY (tN aU.1) (aV.1,aH .i64 aV.2 bL.2)).length)⟩,⟨(zle aY.length)⟩,⟨cL8⟩]++w4) (by kernel_rfl) (lQ x2 y k (aH .i64 b9 1) (List.set aY (tN aU.1) (aV.1,aH .i64 aV.2 bL.2)) h)
        rw[if_neg cL5] at h;replace cL5:=eqf cL5
        cases h
      rw[if_neg cL4] at h;replace cL4:=eqf cL4
      obtain⟨aV,eL5,h⟩:=bsm h
      by_cases cL6:inI aU.1 aV.length=true
      · rw[if_pos cL6] at h
        obtain⟨bV,eL7,h⟩:=bsm h
        obtain⟨gY,eL8,h⟩:=bsm h
        let u5:List Ans:=u1++[dt,.call ⟨false,[]⟩ (.ref 2 0 1 0 aV.length .full) [(.arr 2 (List.map aC aV) 1 1 false),(.arr 2 (List.map aC [(bL.1,0)]) 0 0 false)],.row [(.int .i64 bV.2)],.rows (List.map aC (List.set aV (tN aU.1) (bV.1,aH .i64 bV.2 bL.2))),.row [(.int .i64 gY.2)]]
        let w6:List Prf:=[⟨(bX (e:=aC) eL8 2 1 1 (by decide))⟩,⟨cL6⟩,⟨(y5 (e:=aC) eL7 1 [(.int .i64 (aH .i64 bV.2 bL.2))] (bV.1,aH .i64 bV.2 bL.2) rfl)⟩,⟨cL6⟩,⟨(bX (e:=aC) eL7 2 1 1 (by decide))⟩,⟨cL6⟩,⟨(aDA k aU.1 aY [(bL.1,0)] _ eL5)⟩,⟨(nT cL4)⟩]++w2
        by_cases cL9:eqI gY.2 0=true
        · rw[if_pos cL9] at h
          obtain⟨lC,eL10,h⟩:=bsm h
          exact LT.next mixed (hs:=⟨[(0,[]),(22,[]),(23,[]),(24,[])],[⟨.tmp 0,[],some 2⟩],false,[],[]⟩) (es:=none) (u5++[dt,.call ⟨false,[]⟩ (.ref 2 0 2 0 lC.length .full) [(.arr 2 (List.map aC lC) 2 2 false)],.n lC.length,.rows (List.map aC lC)]) ([⟨(dF aC (l:=lC) (n:=lC.length) rfl)⟩,⟨(rfl:lC.length=lC.length)⟩,⟨(zle lC.length)⟩,⟨(by have hh:=(aE8 k aU.1 (aH .i64 aU.1 1) (List.set aV (tN aU.1) (bV.1,aH .i64 bV.2 bL.2)) _ eL10);simp only[List.length_set] at hh;exact hh)⟩,⟨cL9⟩]++w6) (by kernel_rfl) (lQ x2 y k (aH .i64 b9 1) lC h)
        rw[if_neg cL9] at h;replace cL9:=eqf cL9
        exact LT.next mixed (hs:=⟨[(0,[]),(22,[]),(23,[]),(24,[])],[⟨.tmp 0,[],some 2⟩],false,[],[]⟩) (es:=none) (u5++[df,.n ((List.set aV (tN aU.1) (bV.1,aH .i64 bV.2 bL.2)).length),.rows (List.map aC (List.set aV (tN aU.1) (bV.1,aH .i64 bV.2 bL.2)))]) ([⟨(dF aC (l:=(List.set aV (tN aU.1) (bV.1,aH .i64 bV.2 bL.2))) (n:=aV.length) (by simp:aV.length=(List.set aV (tN aU.1) (bV.1,aH .i64 bV.2 bL.2)).length))⟩,⟨((by simp:aV.length=List.length (α:=Int × Int) (List.set aV (tN aU.1) (bV.1,aH .i64 bV.2 bL.2))):aV.length=(List.set aV (tN aU.1) (bV.1,aH .i64 bV.2 bL.2)).length)⟩,⟨(zle aV.length)⟩,⟨cL9⟩]++w6) (by kernel_rfl) (lQ x2 y k (aH .i64 b9 1) (List.set aV (tN aU.1) (bV.1,aH .i64 bV.2 bL.2)) h)
      rw[if_neg cL6] at h;replace cL6:=eqf cL6
      cases h
    rw[if_neg cL1] at h;replace cL1:=eqf cL1
    cases h
  rw[if_neg cL0] at h;replace cL0:=eqf cL0
  obtain rfl:=osi h
  show LT _ _ _ _ (.st (.exit 0) (aOF aY))
  exact LT.done mixed (hs:=⟨[],[],false,[],[]⟩) (es:=(some ⟨[(0,[])],[⟨.tmp 0,[],none⟩],false,[],[]⟩)) [df] [⟨cL0⟩] (by kernel_rfl) (fun s h=>by cases h)
theorem uD (k:Nat) (x1:aM) (x2:aM) (r:aM × Int) (h:mH k x1 x2=some r):Tri Tryz.prog 75 [(.sl 2 (List.map aC x1)),(.sl 2 (List.map aC x2))] [] (.tup [(.sl 2 (List.map aC r.1)),(.int .i64 r.2)]) []:=by
 unfold mH at h
 obtain⟨x3,e0,h⟩:=bsm h
 obtain⟨x4,e1,h⟩:=bsm h
 let u7:List Ans:=[.call ⟨true,[]⟩ (.ref 2 0 0 0 x1.length .virt) [(.arr 2 (List.map aC x1) 0 0 false)],.call ⟨true,[]⟩ (.bool x4) [],.rows (List.map aC x1)]
 let w8:List Prf:=[⟨(aIK k x1 _ e1)⟩,⟨(aX aC (l:=x1) (n:=x1.length) rfl)⟩,⟨(bP aC (Nat.le_refl x1.length):0+x1.length≤(List.map aC x1).length)⟩,⟨(aEV k x1 _ e0)⟩]
 by_cases c2:x4=true
 · rw[if_pos c2] at h
   obtain⟨x5,e3,h⟩:=bsm h
   let u9:List Ans:=u7++[df,df,df,.call ⟨true,[]⟩ (.bool x5) [],df]
   let w10:List Prf:=[⟨(nF c2)⟩,⟨(xU k x2 _ e3)⟩,⟨(nF c2)⟩,⟨(nF c2)⟩,⟨(nF c2)⟩]++w8
   by_cases c4:x5=true
   · rw[if_pos c4] at h
     obtain rfl:=osi h
     exact Tri.of (x:=X75) mixed aOB (u9++[dt,.rows (List.map aC x1)]) ([⟨(aX aC (l:=x1) (n:=x1.length) rfl)⟩,⟨(bP aC (Nat.le_refl x1.length):0+x1.length≤(List.map aC x1).length)⟩,⟨c4⟩]++w10) (by kernel_rfl)
   rw[if_neg c4] at h;replace c4:=eqf c4
   obtain⟨x7,e5,h⟩:=bsm h
   obtain rfl:=osi h
   exact Tri.of (x:=X75) mixed aOB (u9++[df,.n x2.length,.norm 2 ⟨[(0,[]),(22,[]),(23,[]),(24,[])],[⟨.tmp 0,[],some 2⟩],false,[],[]⟩,.n x1.length,.rows (List.map aC x1),.out (.st .normal (aOF x7)),.rows (List.map aC x7)]) ([⟨(aX aC (l:=x7) (n:=x7.length) rfl)⟩,⟨(bP aC (Nat.le_refl x7.length):0+x7.length≤(List.map aC x7).length)⟩,⟨(LT.block (lQ x2 _ k 0 x1 e5))⟩,⟨(dF aC (l:=x1) (n:=x1.length) rfl)⟩,⟨(rfl:x1.length=x1.length)⟩,⟨(zle x1.length)⟩,⟨(aN aC x2)⟩,⟨c4⟩]++w10) (by kernel_rfl)
 rw[if_neg c2] at h;replace c2:=eqf c2
 obtain rfl:=osi h
 exact Tri.of (x:=X75) mixed aOB (u7++[dt,dt,dt,dt,dt,.rows (List.map aC x1)]) ([⟨(aX aC (l:=x1) (n:=x1.length) rfl)⟩,⟨(bP aC (Nat.le_refl x1.length):0+x1.length≤(List.map aC x1).length)⟩,⟨rT⟩,⟨(nT c2)⟩,⟨(nT c2)⟩,⟨(nT c2)⟩,⟨(nT c2)⟩]++w8) (by kernel_rfl)
end Go.Ws

namespace Go.Ws
open Go.Proofs
set_option linter.unusedSimpArgs false
set_option linter.unusedVariables false
set_option maxRecDepth 1000000
set_option maxHeartbeats 4000000
noncomputable def X101 (x4:Int):Ctx:=⟨Tryz.f101,[(.row [(.int .i64 x4)])],false⟩
theorem aBU (x1:Int) (x2:Int) (x3:Bool) (x4:Int):Tri Tryz.prog 101 [(.agg [(.int .u8 x1),(.int .i64 x2),(.bool x3)]),(.hp 0 0)] [(.row [(.int .i64 x4)])] (.bool (eqI x2 x4)) [(.row [(.int .i64 x4)])]:=by
 obtain⟨r,h⟩:∃r,aBR x1 x2 x3 x4=r:=⟨_,rfl⟩
 try rw[h]
 unfold aBR at h
 obtain rfl:=h
 exact Tri.of (x:=(X101 x4)) mixed facts101 [.norm 0 ⟨[(3,[])],[],false,[],[]⟩] [] (by kernel_rfl)
end Go.Ws

namespace Go.Ws
open Go.Proofs
set_option linter.unusedSimpArgs false
set_option linter.unusedVariables false
set_option maxRecDepth 1000000
set_option maxHeartbeats 4000000
noncomputable def X132 (x1:Ty8) (x2:Int):Ctx:=⟨Tryz.f132,[(.arr 3 (List.map aE x1) 0 0 false),(.row [(.int .i64 x2)])],false⟩
noncomputable def L132_0:Code:=at_ Tryz.f132 [1,0,1,4,5]
def S132_0 (x1:Ty8) (x2:Int) (cA:Int):St:=⟨mkT 19 [(0,(.ref 3 0 0 0 x1.length .virt)),(1,(.fn 101 [(.hp 1 0)])),(7,(.int .i64 (nI x1.length))),(8,(.int .i64 cA))],[(.arr 3 (List.map aE x1) 0 0 false),(.row [(.int .i64 x2)])]⟩
def aKV (x1:Ty8) (x2:Int):St:=⟨mkT 19 [],[(.arr 3 (List.map aE x1) 0 0 false),(.row [(.int .i64 x2)])]⟩
def O132_0 (x1:Ty8) (x2:Int) (y:(Sum (Unit) (Int))):GX:=match y with
 | .inl y=>.st (.exit 0) (aKV x1 x2)
 | .inr y=>.fin (.int .i64 y) [(.arr 3 (List.map aE x1) 0 0 false),(.row [(.int .i64 x2)])]
theorem kM (x1:Ty8) (x2:Int) (y:(Sum (Unit) (Int))):∀(k:Nat) (cA:Int),bM k x1 x2 cA=some y→LT Tryz.prog (X132 x1 x2) L132_0 (S132_0 x1 x2 cA) (O132_0 x1 x2 y)
 | 0,cA,h=>by cases h
 | k+1,cA,h=>by
  rw[bM] at h
  by_cases cL0:ltI cA (nI x1.length)=true
  · rw[if_pos cL0] at h
    by_cases cL1:inI cA x1.length=true
    · rw[if_pos cL1] at h
      obtain⟨kV,eL2,h⟩:=bsm h
      let u1:List Ans:=[dt,.row [(.int .u8 kV.1),(.int .i64 kV.2.1),(.bool kV.2.2)],.call ⟨false,[]⟩ (.bool (eqI kV.2.1 x2)) [(.row [(.int .i64 x2)])]]
      let w2:List Prf:=[⟨(aBU kV.1 kV.2.1 kV.2.2 x2)⟩,⟨(bX (e:=aE) eL2 3 0 3 (by decide))⟩,⟨cL1⟩,⟨cL0⟩]
      by_cases cL3:eqI kV.2.1 x2=true
      · rw[if_pos cL3] at h
        obtain rfl:=osi h
        show LT _ _ _ _ (.fin (.int .i64 cA) [(.arr 3 (List.map aE x1) 0 0 false),(.row [(.int .i64 x2)])])
        exact LT.done mixed (hs:=⟨[],[],false,[],[]⟩) (es:=none) (u1++[dt,.norm 0 ⟨[(4,[])],[],false,[],[]⟩]) ([⟨cL3⟩]++w2) (by kernel_rfl) (fun s h=>by cases h)
      rw[if_neg cL3] at h;replace cL3:=eqf cL3
      exact LT.next mixed (hs:=⟨[(0,[]),(1,[]),(7,[]),(8,[])],[],false,[],[]⟩) (es:=none) (u1++[df]) ([⟨cL3⟩]++w2) (by kernel_rfl) (kM x1 x2 y k (aH .i64 cA 1) h)
    rw[if_neg cL1] at h;replace cL1:=eqf cL1
    cases h
  rw[if_neg cL0] at h;replace cL0:=eqf cL0
  obtain rfl:=osi h
  show LT _ _ _ _ (.st (.exit 0) (aKV x1 x2))
  exact LT.done mixed (hs:=⟨[],[],false,[],[]⟩) (es:=(some ⟨[],[],false,[],[]⟩)) [df] [⟨cL0⟩] (by kernel_rfl) (fun s h=>by cases h)
theorem yM (k:Nat) (x1:Ty8) (x2:Int) (r:Int) (h:hX k x1 x2=some r):Tri Tryz.prog 132 [(.ref 3 0 0 0 x1.length .virt),(.fn 101 [(.hp 1 0)])] [(.arr 3 (List.map aE x1) 0 0 false),(.row [(.int .i64 x2)])] (.int .i64 r) [(.arr 3 (List.map aE x1) 0 0 false),(.row [(.int .i64 x2)])]:=by
 unfold hX at h
 obtain⟨x3,e0,h⟩:=bsm h
 cases x3 with
 | inl x4 =>
  simp only[Sum.elim_inl] at h
  obtain rfl:=osi h
  exact Tri.of (x:=(X132 x1 x2)) mixed aQZ [.norm 2 ⟨[(0,[]),(1,[]),(7,[]),(8,[])],[],false,[],[]⟩,.out (.st .normal (aKV x1 x2)),.norm 0 ⟨[(4,[])],[],false,[],[]⟩] [⟨(LT.block (kM x1 x2 _ k 0 e0))⟩] (by kernel_rfl)
 | inr x4 =>
  simp only[Sum.elim_inr] at h
  obtain rfl:=osi h
  exact Tri.of (x:=(X132 x1 x2)) mixed aQZ [.norm 2 ⟨[(0,[]),(1,[]),(7,[]),(8,[])],[],false,[],[]⟩,.out (.fin (.int .i64 x4) [(.arr 3 (List.map aE x1) 0 0 false),(.row [(.int .i64 x2)])])] [⟨(LT.blockFin (id:=0) (kM x1 x2 _ k 0 e0))⟩] (by kernel_rfl)
end Go.Ws

namespace Go.Ws
open Go.Proofs
set_option linter.unusedSimpArgs false
set_option linter.unusedVariables false
set_option maxRecDepth 1000000
set_option maxHeartbeats 4000000
noncomputable def X100 (x1:Ty8) (x2:Int):Ctx:=⟨Tryz.f100,[(.arr 3 (List.map aE x1) 0 0 false),(.row [(.int .i64 x2)])],false⟩
noncomputable def L100_0:Code:=at_ Tryz.f100 [1,1,1,0,1,4,5]
def S100_0 (x1:Ty8) (x2:Int) (cB:Int) (bK:Int) (cC:Ty8):St:=⟨mkT 42 [(0,(.ref 3 0 0 0 x1.length .virt)),(1,(.fn 101 [(.hp 1 0)])),(5,(.int .i64 bK)),(6,(.int .i64 cB))],[(.arr 3 (List.map aE cC) 0 0 false),(.row [(.int .i64 x2)])]⟩
def aK5 (x1:Ty8) (x2:Int) (aV3:Int) (aV4:Ty8):St:=⟨mkT 42 [(0,(.ref 3 0 0 0 x1.length .virt)),(5,(.int .i64 aV3))],[(.arr 3 (List.map aE aV4) 0 0 false),(.row [(.int .i64 x2)])]⟩
def O100_0 (x1:Ty8) (x2:Int) (y:(Int × Ty8)):GX:=.st (.exit 0) (aK5 x1 x2 y.1 y.2)
theorem lN (x1:Ty8) (x2:Int) (y:(Int × Ty8)):∀(k:Nat) (cB:Int) (bK:Int) (cC:Ty8),bZ k x1 x2 cB bK cC=some y→LT Tryz.prog (X100 x1 x2) L100_0 (S100_0 x1 x2 cB bK cC) (O100_0 x1 x2 y)
 | 0,cB,bK,cC,h=>by cases h
 | k+1,cB,bK,cC,h=>by
  rw[bZ] at h
  by_cases cL0:ltI cB (nI x1.length)=true
  · rw[if_pos cL0] at h
    by_cases cL1:inI cB x1.length=true
    · rw[if_pos cL1] at h
      obtain⟨fR,eL2,h⟩:=bsm h
      let u1:List Ans:=[dt,.row [(.int .u8 fR.1),(.int .i64 fR.2.1),(.bool fR.2.2)],.call ⟨false,[]⟩ (.bool (eqI fR.2.1 x2)) [(.row [(.int .i64 x2)])]]
      let w2:List Prf:=[⟨(aBU fR.1 fR.2.1 fR.2.2 x2)⟩,⟨(bX (e:=aE) eL2 3 0 3 (by decide))⟩,⟨cL1⟩,⟨cL0⟩]
      by_cases cL3:eqI fR.2.1 x2=true
      · rw[if_pos cL3] at h
        exact LT.next mixed (hs:=⟨[(0,[]),(1,[]),(5,[]),(6,[])],[],false,[],[]⟩) (es:=none) (u1++[df]) ([⟨(nF cL3)⟩]++w2) (by kernel_rfl) (lN x1 x2 y k (aH .i64 cB 1) bK cC h)
      rw[if_neg cL3] at h;replace cL3:=eqf cL3
      by_cases cL4:inI bK x1.length=true
      · rw[if_pos cL4] at h
        obtain⟨aNA,eL5,h⟩:=bsm h
        exact LT.next mixed (hs:=⟨[(0,[]),(1,[]),(5,[]),(6,[])],[],false,[],[]⟩) (es:=none) (u1++[dt,.rows (List.map aE (List.set cC (tN bK) fR))]) ([⟨(y5 (e:=aE) eL5 0 [(.int .u8 fR.1),(.int .i64 fR.2.1),(.bool fR.2.2)] fR rfl)⟩,⟨cL4⟩,⟨(nT cL3)⟩]++w2) (by kernel_rfl) (lN x1 x2 y k (aH .i64 cB 1) (aH .i64 bK 1) (List.set cC (tN bK) fR) h)
      rw[if_neg cL4] at h;replace cL4:=eqf cL4
      cases h
    rw[if_neg cL1] at h;replace cL1:=eqf cL1
    cases h
  rw[if_neg cL0] at h;replace cL0:=eqf cL0
  obtain rfl:=osi h
  show LT _ _ _ _ (.st (.exit 0) (aK5 x1 x2 bK cC))
  exact LT.done mixed (hs:=⟨[],[],false,[],[]⟩) (es:=(some ⟨[(0,[]),(5,[])],[],false,[],[]⟩)) [df] [⟨cL0⟩] (by kernel_rfl) (fun s h=>by cases h)
theorem aBX (k:Nat) (x1:Ty8) (x2:Int) (r:Nat × Ty8) (h:jL k x1 x2=some r):Tri Tryz.prog 100 [(.ref 3 0 0 0 x1.length .virt),(.fn 101 [(.hp 1 0)])] [(.arr 3 (List.map aE x1) 0 0 false),(.row [(.int .i64 x2)])] (.ref 3 0 0 0 r.1 .virt) [(.arr 3 (List.map aE r.2) 0 0 false),(.row [(.int .i64 x2)])]:=by
 unfold jL at h
 obtain⟨x3,e0,h⟩:=bsm h
 let w4:List Prf:=[⟨(yM k x1 x2 _ e0)⟩]
 by_cases c1:eqI x3 (-1)=true
 · rw[if_pos c1] at h
   obtain rfl:=osi h
   exact Tri.of (x:=(X100 x1 x2)) mixed aKP [.call ⟨false,[]⟩ (.int .i64 x3) [(.arr 3 (List.map aE x1) 0 0 false),(.row [(.int .i64 x2)])],dt,.norm 0 ⟨[(4,[])],[],false,[],[]⟩] ([⟨c1⟩]++w4) (by kernel_rfl)
 rw[if_neg c1] at h;replace c1:=eqf c1
 obtain⟨x5,e2,h⟩:=bsm h
 by_cases c4:isZ x1.length=true
 · rw[if_pos c4] at h
   cases h
 rw[if_neg c4] at h;replace c4:=eqf c4
 by_cases c5:qV x1.length x5.2.length=true
 · rw[if_pos c5] at h
   by_cases c6:leI x5.1 x1.length=true
   · rw[if_pos c6] at h
     let u5:List Ans:=[.call ⟨false,[]⟩ (.int .i64 x3) [(.arr 3 (List.map aE x1) 0 0 false),(.row [(.int .i64 x2)])],df,.norm 2 ⟨[(0,[]),(1,[]),(5,[]),(6,[])],[],false,[],[]⟩,.out (.st .normal (aK5 x1 x2 x5.1 x5.2)),df,.n x5.2.length,.n x5.2.length,.n (tN x5.1),.n (x1.length - (tN x5.1))]
     let w6:List Prf:=[⟨(rfl:x1.length - (tN x5.1)=x1.length - (tN x5.1))⟩,⟨((Nat.zero_add _):0+(tN x5.1)=tN x5.1)⟩,⟨c6⟩,⟨(rfl:x5.2.length - 0=x5.2.length)⟩,⟨(aIT ((aHA c5):x1.length≤x5.2.length))⟩,⟨(aN aE x5.2)⟩,⟨c4⟩,⟨(LT.block (lN x1 x2 _ k (aH .i64 x3 1) x3 x1 e2))⟩,⟨c1⟩]++w4
     by_cases c7:isZ (x1.length - (tN x5.1))=true
     · rw[if_pos c7] at h
       by_cases c8:leI x5.1 x5.2.length=true
       · rw[if_pos c8] at h
         obtain rfl:=osi h
         exact Tri.of (x:=(X100 x1 x2)) mixed aKP (u5++[dt,df,.n x5.2.length,.n x5.2.length,.n 0,.n (tN x5.1),.norm 0 ⟨[(4,[])],[],false,[],[]⟩]) ([⟨(rfl:(tN x5.1) - 0=tN x5.1)⟩,⟨((Nat.zero_add _):0+0=0)⟩,⟨c8⟩,⟨(rfl:x5.2.length - 0=x5.2.length)⟩,⟨(aIT ((aHA c5):x1.length≤x5.2.length))⟩,⟨(aN aE x5.2)⟩,⟨c4⟩,⟨c7⟩]++w6) (by kernel_rfl)
       rw[if_neg c8] at h;replace c8:=eqf c8
       cases h
     rw[if_neg c7] at h;replace c7:=eqf c7
     by_cases c8:qV (tN x5.1+(x1.length - (tN x5.1))) x5.2.length=true
     · rw[if_pos c8] at h
       by_cases c9:qV (tN x5.1) x5.2.length=true
       · rw[if_pos c9] at h
         by_cases c10:qV x1.length ((((List.take (tN x5.1) x5.2)++(List.replicate (x1.length - (tN x5.1)) (0,0,false)))++(List.drop (tN x5.1+(x1.length - (tN x5.1))) x5.2)).length)=true
         · rw[if_pos c10] at h
           by_cases c11:leI x5.1 ((((List.take (tN x5.1) x5.2)++(List.replicate (x1.length - (tN x5.1)) (0,0,false)))++(List.drop (tN x5.1+(x1.length - (tN x5.1))) x5.2)).length)=true
           · rw[if_pos c11] at h
             obtain rfl:=osi h
             exact Tri.of (x:=(X100 x1 x2)) mixed aKP (u5++[df,.rows (List.map aE (((List.take (tN x5.1) x5.2)++(List.replicate (x1.length - (tN x5.1)) (0,0,false)))++(List.drop (tN x5.1+(x1.length - (tN x5.1))) x5.2))),df,.n ((((List.take (tN x5.1) x5.2)++(List.replicate (x1.length - (tN x5.1)) (0,0,false)))++(List.drop (tN x5.1+(x1.length - (tN x5.1))) x5.2)).length),.n ((((List.take (tN x5.1) x5.2)++(List.replicate (x1.length - (tN x5.1)) (0,0,false)))++(List.drop (tN x5.1+(x1.length - (tN x5.1))) x5.2)).length),.n 0,.n (tN x5.1),.norm 0 ⟨[(4,[])],[],false,[],[]⟩]) ([⟨(rfl:(tN x5.1) - 0=tN x5.1)⟩,⟨((Nat.zero_add _):0+0=0)⟩,⟨c11⟩,⟨(rfl:((((List.take (tN x5.1) x5.2)++(List.replicate (x1.length - (tN x5.1)) (0,0,false)))++(List.drop (tN x5.1+(x1.length - (tN x5.1))) x5.2)).length) - 0=(((List.take (tN x5.1) x5.2)++(List.replicate (x1.length - (tN x5.1)) (0,0,false)))++(List.drop (tN x5.1+(x1.length - (tN x5.1))) x5.2)).length)⟩,⟨(aIT ((aHA c10):x1.length≤(((List.take (tN x5.1) x5.2)++(List.replicate (x1.length - (tN x5.1)) (0,0,false)))++(List.drop (tN x5.1+(x1.length - (tN x5.1))) x5.2)).length))⟩,⟨(aN aE (((List.take (tN x5.1) x5.2)++(List.replicate (x1.length - (tN x5.1)) (0,0,false)))++(List.drop (tN x5.1+(x1.length - (tN x5.1))) x5.2)))⟩,⟨c4⟩,⟨(aVQ aE x5.2 (tN x5.1) (x1.length - (tN x5.1)) (0,0,false))⟩,⟨(le_mapI aE (aHA c8))⟩,⟨c7⟩]++w6) (by kernel_rfl)
           rw[if_neg c11] at h;replace c11:=eqf c11
           cases h
         rw[if_neg c10] at h;replace c10:=eqf c10
         cases h
       rw[if_neg c9] at h;replace c9:=eqf c9
       cases h
     rw[if_neg c8] at h;replace c8:=eqf c8
     cases h
   rw[if_neg c6] at h;replace c6:=eqf c6
   cases h
 rw[if_neg c5] at h;replace c5:=eqf c5
 cases h
end Go.Ws

namespace Go.Ws
open Go.Proofs
set_option linter.unusedSimpArgs false
set_option linter.unusedVariables false
set_option maxRecDepth 1000000
set_option maxHeartbeats 4000000
noncomputable def X76:Ctx:=⟨Tryz.f76,[],true⟩
theorem vU (k:Nat) (x1:Ty8) (x2:Int) (r:Ty8) (h:oY k x1 x2=some r):Tri Tryz.prog 76 [(.sl 3 (List.map aE x1)),(.int .i64 x2)] [] (.sl 3 (List.map aE r)) []:=by
 unfold oY at h
 obtain⟨x3,e0,h⟩:=bsm h
 obtain⟨x4,e1,h⟩:=bsm h
 by_cases c2:qV x4.1 x4.2.length=true
 · rw[if_pos c2] at h
   obtain rfl:=osi h
   exact Tri.of (x:=X76) mixed facts76 [.call ⟨true,[]⟩ (.ref 3 0 0 0 x1.length .virt) [(.arr 3 (List.map aE x1) 0 0 false)],.call ⟨false,[]⟩ (.ref 3 0 0 0 x4.1 .virt) [(.arr 3 (List.map aE x4.2) 0 0 false),(.row [(.int .i64 x2)])],.rows (List.map aE (List.take x4.1 x4.2))] [⟨(aL1 aE x4.2 x4.1)⟩,⟨(bP aE (aHA c2))⟩,⟨(aBX k x1 x2 _ e1)⟩,⟨(wJ k x1 _ e0)⟩] (by kernel_rfl)
 rw[if_neg c2] at h;replace c2:=eqf c2
 cases h
end Go.Ws

namespace Go.Ws
open Go.Proofs
set_option linter.unusedSimpArgs false
set_option linter.unusedVariables false
set_option maxRecDepth 1000000
set_option maxHeartbeats 4000000
noncomputable def X73:Ctx:=⟨Tryz.f73,[],true⟩
def A73_0:Ans:=.norm 0 ⟨[(2,[]),(3,[(0,2)]),(4,[])],[⟨.tmp 2,[],none⟩],false,[],[]⟩
theorem aLI (k:Nat) (x1:Int) (x2:aM) (x3:Bool) (x4:Int) (r:Int × aM × Bool × Int × aM × Int) (h:tL k x1 x2 x3 x4=some r):Tri Tryz.prog 73 [(.agg [(.int .i64 x1),(.sl 2 (List.map aC x2)),(.bool x3),(.int .i64 x4)])] [] (.tup [(.agg [(.int .i64 r.1),(.sl 2 (List.map aC r.2.1)),(.bool r.2.2.1),(.int .i64 r.2.2.2.1)]),(.sl 2 (List.map aC r.2.2.2.2.1)),(.int .i64 r.2.2.2.2.2)]) []:=by
 unfold tL at h
 obtain⟨x5,e0,h⟩:=bsm h
 obtain⟨x6,e1,h⟩:=bsm h
 let u1:List Ans:=[.call ⟨true,[]⟩ (.agg [(.int .i64 x5.1),(.sl 2 (List.map aC x5.2.1)),(.bool x5.2.2.1),(.int .i64 x5.2.2.2)]) [],.call ⟨true,[]⟩ (.bool x6) []]
 let w2:List Prf:=[⟨(uC k x5.1 x5.2.1 x5.2.2.1 x5.2.2.2 _ e1)⟩,⟨(qX k x1 x2 x3 x4 _ e0)⟩]
 by_cases c2:x6=true
 · rw[if_pos c2] at h
   by_cases c3:eqI x5.1 1=true
   · rw[if_pos c3] at h
     by_cases c4:x5.2.2.1=true
     · rw[if_pos c4] at h
       obtain rfl:=osi h
       exact Tri.of (x:=X73) mixed aIX (u1++[df,df,dt,A73_0]) ([⟨c4⟩,⟨(nF c3)⟩,⟨(nF c2)⟩]++w2) (by kernel_rfl)
     rw[if_neg c4] at h;replace c4:=eqf c4
     obtain⟨x7,e5,h⟩:=bsm h
     obtain rfl:=osi h
     exact Tri.of (x:=X73) mixed aIX (u1++[df,df,df,.call ⟨true,[]⟩ (.ref 2 0 0 0 x5.2.1.length .virt) [(.arr 2 (List.map aC x5.2.1) 0 0 false)],.rows (List.map aC x5.2.1)]) ([⟨(aX aC (l:=x5.2.1) (n:=x5.2.1.length) rfl)⟩,⟨(bP aC (Nat.le_refl x5.2.1.length):0+x5.2.1.length≤(List.map aC x5.2.1).length)⟩,⟨(kK k x5.2.1 _ e5)⟩,⟨c4⟩,⟨(nF c3)⟩,⟨(nF c2)⟩]++w2) (by kernel_rfl)
   rw[if_neg c3] at h;replace c3:=eqf c3
   obtain rfl:=osi h
   exact Tri.of (x:=X73) mixed aIX (u1++[df,dt,A73_0]) ([⟨(nT c3)⟩,⟨(nF c2)⟩]++w2) (by kernel_rfl)
 rw[if_neg c2] at h;replace c2:=eqf c2
 obtain rfl:=osi h
 exact Tri.of (x:=X73) mixed aIX (u1++[dt,A73_0]) ([⟨(nT c2)⟩]++w2) (by kernel_rfl)
end Go.Ws

namespace Go.Ws
open Go.Proofs
set_option linter.unusedSimpArgs false
set_option linter.unusedVariables false
set_option maxRecDepth 1000000
set_option maxHeartbeats 4000000
theorem xG (k:Nat) (x1:aM) (r:aM) (h:lR k x1=some r):Tri Tryz.prog 92 [(.sl 2 (List.map aC x1))] [] (.ref 2 0 0 0 r.length .virt) [(.arr 2 (List.map aC r) 0 0 false)]:=opp_tri h
end Go.Ws

namespace Go.Ws
open Go.Proofs
set_option linter.unusedSimpArgs false
set_option linter.unusedVariables false
set_option maxRecDepth 1000000
set_option maxHeartbeats 4000000
noncomputable def X74:Ctx:=⟨Tryz.f74,[],true⟩
def aFS:Ans:=.norm 0 ⟨[(4,[]),(5,[(0,2)]),(6,[])],[⟨.tmp 4,[],none⟩],false,[],[]⟩
theorem aA9 (k:Nat) (x1:Int) (x2:aM) (x3:Bool) (x4:Int) (x5:Int) (r:Int × aM × Bool × Int × aM × Int) (h:oK k x1 x2 x3 x4 x5=some r):Tri Tryz.prog 74 [(.agg [(.int .i64 x1),(.sl 2 (List.map aC x2)),(.bool x3),(.int .i64 x4)]),(.int .i64 x5)] [] (.tup [(.agg [(.int .i64 r.1),(.sl 2 (List.map aC r.2.1)),(.bool r.2.2.1),(.int .i64 r.2.2.2.1)]),(.sl 2 (List.map aC r.2.2.2.2.1)),(.int .i64 r.2.2.2.2.2)]) []:=by
 unfold oK at h
 obtain⟨x6,e0,h⟩:=bsm h
 obtain⟨x7,e1,h⟩:=bsm h
 let u1:List Ans:=[.call ⟨true,[]⟩ (.agg [(.int .i64 x6.1),(.sl 2 (List.map aC x6.2.1)),(.bool x6.2.2.1),(.int .i64 x6.2.2.2)]) [],.call ⟨true,[]⟩ (.bool x7) []]
 let w2:List Prf:=[⟨(uC k x6.1 x6.2.1 x6.2.2.1 x6.2.2.2 _ e1)⟩,⟨(qX k x1 x2 x3 x4 _ e0)⟩]
 by_cases c2:x7=true
 · rw[if_pos c2] at h
   let w4:List Prf:=[⟨(nF c2)⟩,⟨(nF c2)⟩,⟨(nF c2)⟩]++w2
   by_cases c3:eqI x5 1=true
   · rw[if_pos c3] at h
     let u5:List Ans:=u1++[df,df,df,df,df,df,df,df,df]
     let w6:List Prf:=[⟨rF⟩,⟨(nF c2)⟩,⟨(nF c3)⟩,⟨(nF c2)⟩,⟨(nF c3)⟩,⟨(nF c3)⟩]++w4
     by_cases c4:eqI x6.2.2.2 x5=true
     · rw[if_pos c4] at h
       obtain rfl:=osi h
       exact Tri.of (x:=X74) mixed o7 (u5++[dt,aFS]) ([⟨c4⟩]++w6) (by kernel_rfl)
     rw[if_neg c4] at h;replace c4:=eqf c4
     by_cases c5:eqI x6.1 3=true
     · rw[if_pos c5] at h
       obtain rfl:=osi h
       exact Tri.of (x:=X74) mixed o7 (u5++[df,dt,dt,dt,dt,dt,dt,aFS]) ([⟨rT⟩,⟨c5⟩,⟨c5⟩,⟨c5⟩,⟨c5⟩,⟨c5⟩,⟨c4⟩]++w6) (by kernel_rfl)
     rw[if_neg c5] at h;replace c5:=eqf c5
     let u9:List Ans:=u5++[df,df,df,df,dt,dt,dt,df,dt,df]
     let w10:List Prf:=[⟨c5⟩,⟨c3⟩,⟨c5⟩,⟨c3⟩,⟨c3⟩,⟨c3⟩,⟨c5⟩,⟨c5⟩,⟨c5⟩,⟨c4⟩]++w6
     by_cases c6:eqI x6.1 1=true
     · rw[if_pos c6] at h
       by_cases c7:eqB (eqI x5 1) x6.2.2.1=true
       · rw[if_pos c7] at h
         obtain rfl:=osi h
         exact Tri.of (x:=X74) mixed o7 (u9++[df,dt,aFS]) ([⟨c7⟩,⟨(nF c6)⟩]++w10) (by kernel_rfl)
       rw[if_neg c7] at h;replace c7:=eqf c7
       by_cases c8:x6.2.2.1=true
       · rw[if_pos c8] at h
         obtain⟨x8,e9,h⟩:=bsm h
         obtain rfl:=osi h
         exact Tri.of (x:=X74) mixed o7 (u9++[df,df,dt,.call ⟨true,[]⟩ (.ref 2 0 0 0 x8.length .virt) [(.arr 2 (List.map aC x8) 0 0 false)],.rows (List.map aC x8)]) ([⟨(aX aC (l:=x8) (n:=x8.length) rfl)⟩,⟨(bP aC (Nat.le_refl x8.length):0+x8.length≤(List.map aC x8).length)⟩,⟨(xG k x6.2.1 _ e9)⟩,⟨c8⟩,⟨c7⟩,⟨(nF c6)⟩]++w10) (by kernel_rfl)
       rw[if_neg c8] at h;replace c8:=eqf c8
       obtain⟨x8,e9,h⟩:=bsm h
       obtain rfl:=osi h
       exact Tri.of (x:=X74) mixed o7 (u9++[df,df,df,.call ⟨true,[]⟩ (.ref 2 0 0 0 x6.2.1.length .virt) [(.arr 2 (List.map aC x6.2.1) 0 0 false)],.rows (List.map aC x6.2.1)]) ([⟨(aX aC (l:=x6.2.1) (n:=x6.2.1.length) rfl)⟩,⟨(bP aC (Nat.le_refl x6.2.1.length):0+x6.2.1.length≤(List.map aC x6.2.1).length)⟩,⟨(kK k x6.2.1 _ e9)⟩,⟨c8⟩,⟨c7⟩,⟨(nF c6)⟩]++w10) (by kernel_rfl)
     rw[if_neg c6] at h;replace c6:=eqf c6
     obtain rfl:=osi h
     exact Tri.of (x:=X74) mixed o7 (u9++[dt,aFS]) ([⟨(nT c6)⟩]++w10) (by kernel_rfl)
   rw[if_neg c3] at h;replace c3:=eqf c3
   let u15:List Ans:=u1++[df,df,df,dt,dt,df,dt,df]
   let w16:List Prf:=[⟨(nF c2)⟩,⟨(nT c3)⟩,⟨(nF c2)⟩,⟨(nT c3)⟩,⟨(nT c3)⟩]++w4
   by_cases c4:eqI x5 2=true
   · rw[if_pos c4] at h
     by_cases c5:eqI x6.2.2.2 x5=true
     · rw[if_pos c5] at h
       obtain rfl:=osi h
       exact Tri.of (x:=X74) mixed o7 (u15++[df,dt,aFS]) ([⟨c5⟩,⟨(nF c4)⟩]++w16) (by kernel_rfl)
     rw[if_neg c5] at h;replace c5:=eqf c5
     by_cases c6:eqI x6.1 3=true
     · rw[if_pos c6] at h
       obtain rfl:=osi h
       exact Tri.of (x:=X74) mixed o7 (u15++[df,df,dt,dt,dt,dt,dt,dt,aFS]) ([⟨rT⟩,⟨c6⟩,⟨c6⟩,⟨c6⟩,⟨c6⟩,⟨c6⟩,⟨c5⟩,⟨(nF c4)⟩]++w16) (by kernel_rfl)
     rw[if_neg c6] at h;replace c6:=eqf c6
     let u21:List Ans:=u15++[df,df,df,df,df,df,df,df,df,df,df,df]
     let w22:List Prf:=[⟨rF⟩,⟨c6⟩,⟨c3⟩,⟨c6⟩,⟨c3⟩,⟨c3⟩,⟨c3⟩,⟨c6⟩,⟨c6⟩,⟨c6⟩,⟨c5⟩,⟨(nF c4)⟩]++w16
     by_cases c7:eqB (eqI x5 1) x6.2.2.1=true
     · rw[if_pos c7] at h
       obtain rfl:=osi h
       exact Tri.of (x:=X74) mixed o7 (u21++[dt,aFS]) ([⟨c7⟩]++w22) (by kernel_rfl)
     rw[if_neg c7] at h;replace c7:=eqf c7
     by_cases c8:x6.2.2.1=true
     · rw[if_pos c8] at h
       obtain⟨x8,e9,h⟩:=bsm h
       obtain rfl:=osi h
       exact Tri.of (x:=X74) mixed o7 (u21++[df,dt,.call ⟨true,[]⟩ (.ref 2 0 0 0 x8.length .virt) [(.arr 2 (List.map aC x8) 0 0 false)],.rows (List.map aC x8)]) ([⟨(aX aC (l:=x8) (n:=x8.length) rfl)⟩,⟨(bP aC (Nat.le_refl x8.length):0+x8.length≤(List.map aC x8).length)⟩,⟨(xG k x6.2.1 _ e9)⟩,⟨c8⟩,⟨c7⟩]++w22) (by kernel_rfl)
     rw[if_neg c8] at h;replace c8:=eqf c8
     obtain⟨x8,e9,h⟩:=bsm h
     obtain rfl:=osi h
     exact Tri.of (x:=X74) mixed o7 (u21++[df,df,.call ⟨true,[]⟩ (.ref 2 0 0 0 x6.2.1.length .virt) [(.arr 2 (List.map aC x6.2.1) 0 0 false)],.rows (List.map aC x6.2.1)]) ([⟨(aX aC (l:=x6.2.1) (n:=x6.2.1.length) rfl)⟩,⟨(bP aC (Nat.le_refl x6.2.1.length):0+x6.2.1.length≤(List.map aC x6.2.1).length)⟩,⟨(kK k x6.2.1 _ e9)⟩,⟨c8⟩,⟨c7⟩]++w22) (by kernel_rfl)
   rw[if_neg c4] at h;replace c4:=eqf c4
   obtain rfl:=osi h
   exact Tri.of (x:=X74) mixed o7 (u15++[dt,aFS]) ([⟨(nT c4)⟩]++w16) (by kernel_rfl)
 rw[if_neg c2] at h;replace c2:=eqf c2
 obtain rfl:=osi h
 exact Tri.of (x:=X74) mixed o7 (u1++[dt,dt,dt,dt,dt,dt,aFS]) ([⟨rT⟩,⟨(nT c2)⟩,⟨(nT c2)⟩,⟨(nT c2)⟩,⟨(nT c2)⟩,⟨(nT c2)⟩]++w2) (by kernel_rfl)
end Go.Ws

namespace Go.Ws
open Go.Proofs
set_option linter.unusedSimpArgs false
set_option linter.unusedVariables false
set_option maxRecDepth 1000000
set_option maxHeartbeats 4000000
noncomputable def X29_3 (x1:aM) (x2:Ty8) (x3:Ty4) (x4:Ty7):Ctx:=⟨Tryz.f29,[(.row [(.sl 2 (List.map aC x1)),(.sl 3 (List.map aE x2)),(.mp 1),(.ref 4 2 0 0 x4.length .virt)]),(.map (dR .i64 (fun y=>AV.agg (aD y)) x3) x3.length),(.arr 4 (List.map aB x4) 0 0 false)],false⟩
theorem u4 (x1:aM) (x2:Ty8) (x3:Ty4) (x4:Ty7):Tri Tryz.prog 29 [(.hp 0 0)] [(.row [(.sl 2 (List.map aC x1)),(.sl 3 (List.map aE x2)),(.mp 1),(.ref 4 2 0 0 x4.length .virt)]),(.map (dR .i64 (fun y=>AV.agg (aD y)) x3) x3.length),(.arr 4 (List.map aB x4) 0 0 false)] (.bool (!false)) [(.row [(.sl 2 (List.map aC x1)),(.sl 3 (List.map aE x2)),(.mp 1),(.ref 4 2 0 0 x4.length .virt)]),(.map (dR .i64 (fun y=>AV.agg (aD y)) x3) x3.length),(.arr 4 (List.map aB x4) 0 0 false)]:=by
 obtain⟨r,h⟩:∃r,tS x1 x2 x3 x4=r:=⟨_,rfl⟩
 try rw[h]
 unfold tS at h
 obtain rfl:=h
 exact Tri.of (x:=(X29_3 x1 x2 x3 x4)) mixed aUJ [dt,dt,dt,dt,dt,dt,.norm 0 ⟨[(2,[])],[],false,[],[]⟩] [⟨(nT rfl)⟩,⟨(nT rfl)⟩,⟨(nT rfl)⟩,⟨(nT rfl)⟩,⟨(nT rfl)⟩,⟨(nT rfl)⟩] (by kernel_rfl)
end Go.Ws

namespace Go.Ws
open Go.Proofs
set_option linter.unusedSimpArgs false
set_option linter.unusedVariables false
set_option maxRecDepth 1000000
set_option maxHeartbeats 4000000
noncomputable def aKZ (x9:aM) (x10:Ty8) (x11:Ty4) (x12:Ty7):Ctx:=⟨Tryz.f51,[(.row [(.sl 2 (List.map aC x9)),(.sl 3 (List.map aE x10)),(.mp 1),(.ref 4 2 0 0 x12.length .virt)]),(.map (dR .i64 (fun y=>AV.agg (aD y)) x11) x11.length),(.arr 4 (List.map aB x12) 0 0 false)],false⟩
noncomputable def L51_3_0:Code:=at_ Tryz.f51 [1,1,1,1,1,1,1,0,1,4,5]
def S51_3_0 (x2:aM) (x5:Int) (x6:Int) (x7:Int) (x8:Int) (x9:aM) (x11:Ty4) (x12:Ty7) (x13:Ty8 × Int) (cR:Int) (cD:Int):St:=⟨mkT 92 [(5,(.hp 3 0)),(10,(.int .i64 cR)),(75,(.sl 2 (List.map aC x2))),(76,(.int .i64 (nI x2.length))),(77,(.int .i64 cD))],[(.row [(.sl 2 (List.map aC x9)),(.sl 3 (List.map aE x13.1)),(.mp 1),(.ref 4 2 0 0 x12.length .virt)]),(.map (dR .i64 (fun y=>AV.agg (aD y)) x11) x11.length),(.arr 4 (List.map aB x12) 0 0 false),(.row [(.int .i64 x5),(.int .i64 x6),(.int .u8 x7),(.int .i64 x8)])]⟩
def aH1 (x9:aM) (x11:Ty4) (x12:Ty7) (x13:Ty8 × Int) (aV1:Int):St:=⟨mkT 92 [(10,(.int .i64 aV1))],[(.row [(.sl 2 (List.map aC x9)),(.sl 3 (List.map aE x13.1)),(.mp 1),(.ref 4 2 0 0 x12.length .virt)]),(.map (dR .i64 (fun y=>AV.agg (aD y)) x11) x11.length),(.arr 4 (List.map aB x12) 0 0 false)]⟩
def O51_3_0 (x2:aM) (x5:Int) (x6:Int) (x7:Int) (x8:Int) (x9:aM) (x10:Ty8) (x11:Ty4) (x12:Ty7) (x13:Ty8 × Int) (y:(Int)):GX:=.st (.exit 0) (aH1 x9 x11 x12 x13 y)
def aNQ (x13:Ty8 × Int):Ans:=.call ⟨true,[]⟩ (.tup [(.sl 3 (List.map aE x13.1)),(.int .i64 x13.2)]) []
def aCJ:Ans:=.norm 0 ⟨[(6,[]),(7,[])],[],false,[],[]⟩
theorem lG (x2:aM) (x5:Int) (x6:Int) (x7:Int) (x8:Int) (x9:aM) (x10:Ty8) (x11:Ty4) (x12:Ty7) (x13:Ty8 × Int) (y:(Int)):∀(k:Nat) (cR:Int) (cD:Int),bQ k x2 x5 x6 x7 x8 x9 x10 x11 x12 x13 cR cD=some y→LT Tryz.prog (aKZ x9 x10 x11 x12) L51_3_0 (S51_3_0 x2 x5 x6 x7 x8 x9 x11 x12 x13 cR cD) (O51_3_0 x2 x5 x6 x7 x8 x9 x10 x11 x12 x13 y)
 | 0,cR,cD,h=>by cases h
 | k+1,cR,cD,h=>by
  rw[bQ] at h
  by_cases cL0:ltI cD (nI x2.length)=true
  · rw[if_pos cL0] at h
    by_cases cL1:inI cD x2.length=true
    · rw[if_pos cL1] at h
      obtain⟨nM,eL2,h⟩:=bsm h
      let u1:List Ans:=[dt,.n x2.length,.row [(.int .u8 nM.1),(.int .i64 nM.2)]]
      let w2:List Prf:=[⟨(bX (e:=aC) eL2 2 0 2 (by decide))⟩,⟨cL1⟩,⟨(aN aC x2)⟩,⟨cL0⟩]
      by_cases cL3:eqI nM.1 x7=true
      · rw[if_pos cL3] at h
        exact LT.next mixed (hs:=⟨[(5,[]),(10,[]),(75,[]),(76,[]),(77,[])],[⟨.tmp 5,[],none⟩],false,[],[]⟩) (es:=none) (u1++[dt]) ([⟨cL3⟩]++w2) (by kernel_rfl) (lG x2 x5 x6 x7 x8 x9 x10 x11 x12 x13 y k (aH .i64 cR nM.2) (aH .i64 cD 1) h)
      rw[if_neg cL3] at h;replace cL3:=eqf cL3
      exact LT.next mixed (hs:=⟨[(5,[]),(10,[]),(75,[]),(76,[]),(77,[])],[⟨.tmp 5,[],none⟩],false,[],[]⟩) (es:=none) (u1++[df]) ([⟨cL3⟩]++w2) (by kernel_rfl) (lG x2 x5 x6 x7 x8 x9 x10 x11 x12 x13 y k cR (aH .i64 cD 1) h)
    rw[if_neg cL1] at h;replace cL1:=eqf cL1
    cases h
  rw[if_neg cL0] at h;replace cL0:=eqf cL0
  obtain rfl:=osi h
  show LT _ _ _ _ (.st (.exit 0) (aH1 x9 x11 x12 x13 cR))
  exact LT.done mixed (hs:=⟨[],[],false,[],[]⟩) (es:=(some ⟨[(10,[])],[],false,[],[]⟩)) [df] [⟨cL0⟩] (by kernel_rfl) (fun s h=>by cases h)
theorem sV (k:Nat) (x1:Int) (x2:aM) (x3:Bool) (x4:Int) (x5:Int) (x6:Int) (x7:Int) (x8:Int) (x9:aM) (x10:Ty8) (x11:Ty4) (x12:Ty7) (r:Ty8 × Ty4 × Int × Int) (h:g6 k x1 x2 x3 x4 x5 x6 x7 x8 x9 x10 x11 x12=some r):Tri Tryz.prog 51 [(.hp 0 0),(.agg [(.int .i64 x1),(.sl 2 (List.map aC x2)),(.bool x3),(.int .i64 x4)]),(.agg [(.int .i64 x5),(.int .i64 x6),(.int .u8 x7),(.int .i64 x8)])] [(.row [(.sl 2 (List.map aC x9)),(.sl 3 (List.map aE x10)),(.mp 1),(.ref 4 2 0 0 x12.length .virt)]),(.map (dR .i64 (fun y=>AV.agg (aD y)) x11) x11.length),(.arr 4 (List.map aB x12) 0 0 false)] (.tup [(.int .i64 r.2.2.2),(.int .i64 r.2.2.1)]) [(.row [(.sl 2 (List.map aC x9)),(.sl 3 (List.map aE r.1)),(.mp 1),(.ref 4 2 0 0 x12.length .virt)]),(.map (dR .i64 (fun y=>AV.agg (aD y)) r.2.1) r.2.1.length),(.arr 4 (List.map aB x12) 0 0 false)]:=by
 unfold g6 at h
 by_cases c0:eqI x1 0=true
 · rw[if_pos c0] at h
   obtain⟨x13,e1,h⟩:=bsm h
   let w4:List Prf:=[⟨(aN2 k x10 x6 x7 (eqI x5 3) _ e1)⟩,⟨(nF c0)⟩]
   by_cases c2:eqI x13.2 0=true
   · rw[if_pos c2] at h
     by_cases c3:eqI x5 3=true
     · rw[if_pos c3] at h
       obtain⟨x14,e4,h⟩:=bsm h
       let u7:List Ans:=[df,(aNQ x13),df,dt,.call ⟨true,[]⟩ (.tup [(.agg [(.int .i64 x14.1),(.sl 2 (List.map aC x14.2.1)),(.bool x14.2.2.1),(.int .i64 x14.2.2.2.1)]),(.int .i64 x14.2.2.2.2)]) []]
       let w8:List Prf:=[⟨(aQM k x1 x2 x3 x4 x7 x8 _ e4)⟩,⟨c3⟩,⟨(nF c2)⟩]++w4
       by_cases c5:eqI x14.2.2.2.2 0=true
       · rw[if_pos c5] at h
         by_cases c6:aC9 x11 x6=true
         · rw[if_pos c6] at h
           obtain⟨x15,e7,h⟩:=bsm h
           obtain rfl:=osi h
           exact Tri.of (x:=(aKZ x9 x10 x11 x12)) mixed aCQ (u7++[df,.opt (some (.agg [(.int .i64 x15.1),(.sl 2 (List.map aC x15.2.1)),(.bool x15.2.2.1),(.int .i64 x15.2.2.2)])),.n (mIx x11 x6),.ents (dR .i64 (fun y=>AV.agg (aD y)) x11) x11.length,.ents (dR .i64 (fun y=>AV.agg (aD y)) (d7 x11 x6 (x14.1,x14.2.1,x14.2.2.1,x14.2.2.2.1))) (d7 x11 x6 (x14.1,x14.2.1,x14.2.2.1,x14.2.2.2.1)).length,aCJ]) ([⟨(aT3 .i64 (fun y=>AV.agg (aD y)) e7 (x14.1,x14.2.1,x14.2.2.1,x14.2.2.2.1))⟩,⟨(ent_some .i64 (fun y=>AV.agg (aD y)) e7 (.agg [(.int .i64 0),(.sl 2 (List.map aC [])),(.bool false),(.int .i64 0)]))⟩,⟨(aTJ .i64 (fun y=>AV.agg (aD y)) x11 x6)⟩,⟨(aL8 .i64 (fun y=>AV.agg (aD y)) e7)⟩,⟨(nF c5)⟩]++w8) (by kernel_rfl)
         rw[if_neg c6] at h;replace c6:=eqf c6
         obtain rfl:=osi h
         exact Tri.of (x:=(aKZ x9 x10 x11 x12)) mixed aCQ (u7++[df,.opt none,.n (mIx x11 x6),.ents (dR .i64 (fun y=>AV.agg (aD y)) (d7 x11 x6 (0,[],false,0))) (d7 x11 x6 (0,[],false,0)).length,.ents (dR .i64 (fun y=>AV.agg (aD y)) (d7 x11 x6 (x14.1,x14.2.1,x14.2.2.1,x14.2.2.2.1))) (d7 x11 x6 (x14.1,x14.2.1,x14.2.2.1,x14.2.2.2.1)).length,aCJ]) ([⟨(sb_none .i64 (fun y=>AV.agg (aD y)) (l:=x11) (q:=x6) (0,[],false,0) (x14.1,x14.2.1,x14.2.2.1,x14.2.2.2.1))⟩,⟨(ent_none .i64 (fun y=>AV.agg (aD y)) c6 (0,[],false,0))⟩,⟨(aTJ .i64 (fun y=>AV.agg (aD y)) x11 x6)⟩,⟨(aMN .i64 (fun y=>AV.agg (aD y)) c6)⟩,⟨(nF c5)⟩]++w8) (by kernel_rfl)
       rw[if_neg c5] at h;replace c5:=eqf c5
       obtain rfl:=osi h
       exact Tri.of (x:=(aKZ x9 x10 x11 x12)) mixed aCQ (u7++[dt,aCJ]) ([⟨(nT c5)⟩]++w8) (by kernel_rfl)
     rw[if_neg c3] at h;replace c3:=eqf c3
     obtain⟨x14,e4,h⟩:=bsm h
     obtain⟨x16,e5,h⟩:=bsm h
     obtain rfl:=osi h
     exact Tri.of (x:=(aKZ x9 x10 x11 x12)) mixed aCQ [df,(aNQ x13),df,df,.call ⟨true,[]⟩ (.int .i64 x14) [],.n x2.length,.norm 2 ⟨[(5,[]),(10,[]),(75,[]),(76,[]),(77,[])],[⟨.tmp 5,[],none⟩],false,[],[]⟩,.out (.st .normal (aH1 x9 x11 x12 x13 x16)),aCJ] ([⟨(LT.block (lG x2 x5 x6 x7 x8 x9 x10 x11 x12 x13 _ k x14 0 e5))⟩,⟨(aN aC x2)⟩,⟨(aD8 k x9 x7 _ e4)⟩,⟨c3⟩,⟨(nF c2)⟩]++w4) (by kernel_rfl)
   rw[if_neg c2] at h;replace c2:=eqf c2
   obtain rfl:=osi h
   exact Tri.of (x:=(aKZ x9 x10 x11 x12)) mixed aCQ [df,(aNQ x13),dt,aCJ] ([⟨(nT c2)⟩]++w4) (by kernel_rfl)
 rw[if_neg c0] at h;replace c0:=eqf c0
 obtain rfl:=osi h
 exact Tri.of (x:=(aKZ x9 x10 x11 x12)) mixed aCQ [dt,aCJ] [⟨(nT c0)⟩] (by kernel_rfl)
end Go.Ws

namespace Go.Ws
open Go.Proofs
set_option linter.unusedSimpArgs false
set_option linter.unusedVariables false
set_option maxRecDepth 1000000
set_option maxHeartbeats 4000000
noncomputable def aEB (x9:aM) (x10:Ty8) (x11:Ty4) (x12:Ty7):Ctx:=⟨Tryz.f52,[(.row [(.sl 2 (List.map aC x9)),(.sl 3 (List.map aE x10)),(.mp 1),(.ref 4 2 0 0 x12.length .virt)]),(.map (dR .i64 (fun y=>AV.agg (aD y)) x11) x11.length),(.arr 4 (List.map aB x12) 0 0 false)],false⟩
def aTV (x13:Int × aM × Bool × Int × Int):Ans:=.call ⟨true,[]⟩ (.tup [(.agg [(.int .i64 x13.1),(.sl 2 (List.map aC x13.2.1)),(.bool x13.2.2.1),(.int .i64 x13.2.2.2.1)]),(.int .i64 x13.2.2.2.2)]) []
def aIW (x15:Ty8):Ans:=.call ⟨true,[]⟩ (.sl 3 (List.map aE x15)) []
def aIY (x13:Int × aM × Bool × Int × aM × Int):Ans:=.call ⟨true,[]⟩ (.tup [(.agg [(.int .i64 x13.1),(.sl 2 (List.map aC x13.2.1)),(.bool x13.2.2.1),(.int .i64 x13.2.2.2.1)]),(.sl 2 (List.map aC x13.2.2.2.2.1)),(.int .i64 x13.2.2.2.2.2)]) []
def aOC (x6:Int) (x11:Ty4) (x13:Int × aM × Bool × Int × aM × Int):Ans:=.ents (dR .i64 (fun y=>AV.agg (aD y)) (d7 x11 x6 (x13.1,x13.2.1,x13.2.2.1,x13.2.2.2.1))) (d7 x11 x6 (x13.1,x13.2.1,x13.2.2.1,x13.2.2.2.1)).length
def aNK (x14:aM × Int):Ans:=.call ⟨true,[]⟩ (.tup [(.sl 2 (List.map aC x14.1)),(.int .i64 x14.2)]) []
theorem aES (k:Nat) (x1:Int) (x2:aM) (x3:Bool) (x4:Int) (x5:Int) (x6:Int) (x7:Int) (x8:Int) (x9:aM) (x10:Ty8) (x11:Ty4) (x12:Ty7) (r:aM × Ty8 × Ty4 × Int) (h:kR k x1 x2 x3 x4 x5 x6 x7 x8 x9 x10 x11 x12=some r):Tri Tryz.prog 52 [(.hp 0 0),(.agg [(.int .i64 x1),(.sl 2 (List.map aC x2)),(.bool x3),(.int .i64 x4)]),(.agg [(.int .i64 x5),(.int .i64 x6),(.int .u8 x7),(.int .i64 x8)])] [(.row [(.sl 2 (List.map aC x9)),(.sl 3 (List.map aE x10)),(.mp 1),(.ref 4 2 0 0 x12.length .virt)]),(.map (dR .i64 (fun y=>AV.agg (aD y)) x11) x11.length),(.arr 4 (List.map aB x12) 0 0 false)] (.int .i64 r.2.2.2) [(.row [(.sl 2 (List.map aC r.1)),(.sl 3 (List.map aE r.2.1)),(.mp 1),(.ref 4 2 0 0 x12.length .virt)]),(.map (dR .i64 (fun y=>AV.agg (aD y)) r.2.2.1) r.2.2.1.length),(.arr 4 (List.map aB x12) 0 0 false)]:=by
 unfold kR at h
 by_cases c0:eqI x5 4=true
 · rw[if_pos c0] at h
   obtain⟨x13,e1,h⟩:=bsm h
   let w2:List Prf:=[⟨(aNC k x1 x2 x3 x4 (!eqI x8 0) _ e1)⟩,⟨c0⟩]
   by_cases c2:eqI x13.2.2.2.2 0=true
   · rw[if_pos c2] at h
     obtain⟨x14,e3,h⟩:=bsm h
     let u3:List Ans:=[dt,(aTV x13),df,.ents (dR .i64 (fun y=>AV.agg (aD y)) (d7 x11 x6 (x13.1,x13.2.1,x13.2.2.1,x13.2.2.2.1))) (d7 x11 x6 (x13.1,x13.2.1,x13.2.2.1,x13.2.2.2.1)).length,.call ⟨true,[[],[(0,2)]]⟩ (.tup [(.sl 2 (List.map aC x14.1)),(.int .i64 x14.2)]) [],df,df,df,df]
     let w4:List Prf:=[⟨(nF c0)⟩,⟨(nF c0)⟩,⟨(nF c0)⟩,⟨(nF c0)⟩,⟨(uD k x9 [] _ e3)⟩,⟨(aG0 .i64 (fun y=>AV.agg (aD y)) x11 x6 (x13.1,x13.2.1,x13.2.2.1,x13.2.2.2.1))⟩,⟨(nF c2)⟩]++w2
     by_cases c4:eqI x13.1 2=true
     · rw[if_pos c4] at h
       obtain⟨x15,e5,h⟩:=bsm h
       obtain rfl:=osi h
       exact Tri.of (x:=(aEB x9 x10 x11 x12)) mixed uH (u3++[dt,(aIW x15),.norm 0 ⟨[(6,[])],[],false,[],[]⟩]) ([⟨(vU k x10 x6 _ e5)⟩,⟨c4⟩]++w4) (by kernel_rfl)
     rw[if_neg c4] at h;replace c4:=eqf c4
     obtain rfl:=osi h
     exact Tri.of (x:=(aEB x9 x10 x11 x12)) mixed uH (u3++[df,.norm 0 ⟨[(6,[])],[],false,[],[]⟩]) ([⟨c4⟩]++w4) (by kernel_rfl)
   rw[if_neg c2] at h;replace c2:=eqf c2
   obtain rfl:=osi h
   exact Tri.of (x:=(aEB x9 x10 x11 x12)) mixed uH [dt,(aTV x13),dt,.norm 0 ⟨[(6,[])],[],false,[],[]⟩] ([⟨(nT c2)⟩]++w2) (by kernel_rfl)
 rw[if_neg c0] at h;replace c0:=eqf c0
 by_cases c1:eqI x5 5=true
 · rw[if_pos c1] at h
   obtain⟨x13,e2,h⟩:=bsm h
   let w8:List Prf:=[⟨(aLI k x1 x2 x3 x4 _ e2)⟩,⟨c1⟩,⟨c0⟩]
   by_cases c3:eqI x13.2.2.2.2.2 0=true
   · rw[if_pos c3] at h
     obtain⟨x14,e4,h⟩:=bsm h
     obtain⟨x15,e5,h⟩:=bsm h
     obtain rfl:=osi h
     exact Tri.of (x:=(aEB x9 x10 x11 x12)) mixed uH [df,dt,(aIY x13),df,(aOC x6 x11 x13),(aNK x14),dt,dt,dt,dt,dt,(aIW x15),.norm 0 ⟨[(6,[])],[],false,[],[]⟩] ([⟨(vU k x10 x6 _ e5)⟩,⟨rT⟩,⟨(nT c0)⟩,⟨(nT c0)⟩,⟨(nT c0)⟩,⟨(nT c0)⟩,⟨(uD k x9 x13.2.2.2.2.1 _ e4)⟩,⟨(aG0 .i64 (fun y=>AV.agg (aD y)) x11 x6 (x13.1,x13.2.1,x13.2.2.1,x13.2.2.2.1))⟩,⟨(nF c3)⟩]++w8) (by kernel_rfl)
   rw[if_neg c3] at h;replace c3:=eqf c3
   obtain rfl:=osi h
   exact Tri.of (x:=(aEB x9 x10 x11 x12)) mixed uH [df,dt,(aIY x13),dt,.norm 0 ⟨[(6,[])],[],false,[],[]⟩] ([⟨(nT c3)⟩]++w8) (by kernel_rfl)
 rw[if_neg c1] at h;replace c1:=eqf c1
 by_cases c2:eqI x8 1=true
 · rw[if_pos c2] at h
   obtain⟨x13,e3,h⟩:=bsm h
   let u11:List Ans:=[df,df,dt,dt,dt,dt,dt,(aIY x13)]
   let w12:List Prf:=[⟨(aA9 k x1 x2 x3 x4 x8 _ e3)⟩,⟨rT⟩,⟨c2⟩,⟨c2⟩,⟨c2⟩,⟨c2⟩,⟨c1⟩,⟨c0⟩]
   by_cases c4:eqI x13.2.2.2.2.2 0=true
   · rw[if_pos c4] at h
     obtain⟨x14,e5,h⟩:=bsm h
     obtain⟨x15,e6,h⟩:=bsm h
     obtain rfl:=osi h
     exact Tri.of (x:=(aEB x9 x10 x11 x12)) mixed uH (u11++[df,(aOC x6 x11 x13),(aNK x14),dt,dt,dt,dt,dt,(aIW x15),.norm 0 ⟨[(6,[])],[],false,[],[]⟩]) ([⟨(vU k x10 x6 _ e6)⟩,⟨rT⟩,⟨(nT c0)⟩,⟨(nT c0)⟩,⟨(nT c0)⟩,⟨(nT c0)⟩,⟨(uD k x9 x13.2.2.2.2.1 _ e5)⟩,⟨(aG0 .i64 (fun y=>AV.agg (aD y)) x11 x6 (x13.1,x13.2.1,x13.2.2.1,x13.2.2.2.1))⟩,⟨(nF c4)⟩]++w12) (by kernel_rfl)
   rw[if_neg c4] at h;replace c4:=eqf c4
   obtain rfl:=osi h
   exact Tri.of (x:=(aEB x9 x10 x11 x12)) mixed uH (u11++[dt,.norm 0 ⟨[(6,[])],[],false,[],[]⟩]) ([⟨(nT c4)⟩]++w12) (by kernel_rfl)
 rw[if_neg c2] at h;replace c2:=eqf c2
 let w14:List Prf:=[⟨c2⟩,⟨c2⟩,⟨c2⟩,⟨c2⟩,⟨c1⟩,⟨c0⟩]
 by_cases c3:eqI x8 2=true
 · rw[if_pos c3] at h
   obtain⟨x13,e4,h⟩:=bsm h
   let u15:List Ans:=[df,df,df,df,df,df,dt,(aIY x13)]
   let w16:List Prf:=[⟨(aA9 k x1 x2 x3 x4 x8 _ e4)⟩,⟨c3⟩]++w14
   by_cases c5:eqI x13.2.2.2.2.2 0=true
   · rw[if_pos c5] at h
     obtain⟨x14,e6,h⟩:=bsm h
     obtain⟨x15,e7,h⟩:=bsm h
     obtain rfl:=osi h
     exact Tri.of (x:=(aEB x9 x10 x11 x12)) mixed uH (u15++[df,(aOC x6 x11 x13),(aNK x14),dt,dt,dt,dt,dt,(aIW x15),.norm 0 ⟨[(6,[])],[],false,[],[]⟩]) ([⟨(vU k x10 x6 _ e7)⟩,⟨rT⟩,⟨(nT c0)⟩,⟨(nT c0)⟩,⟨(nT c0)⟩,⟨(nT c0)⟩,⟨(uD k x9 x13.2.2.2.2.1 _ e6)⟩,⟨(aG0 .i64 (fun y=>AV.agg (aD y)) x11 x6 (x13.1,x13.2.1,x13.2.2.1,x13.2.2.2.1))⟩,⟨(nF c5)⟩]++w16) (by kernel_rfl)
   rw[if_neg c5] at h;replace c5:=eqf c5
   obtain rfl:=osi h
   exact Tri.of (x:=(aEB x9 x10 x11 x12)) mixed uH (u15++[dt,.norm 0 ⟨[(6,[])],[],false,[],[]⟩]) ([⟨(nT c5)⟩]++w16) (by kernel_rfl)
 rw[if_neg c3] at h;replace c3:=eqf c3
 obtain rfl:=osi h
 exact Tri.of (x:=(aEB x9 x10 x11 x12)) mixed uH [df,df,df,df,df,df,df,dt,.norm 0 ⟨[(6,[])],[],false,[],[]⟩] ([⟨(nT (rfl:eqI 2 0=false))⟩,⟨c3⟩]++w14) (by kernel_rfl)
end Go.Ws

namespace Go.Ws
open Go.Proofs
set_option linter.unusedSimpArgs false
set_option linter.unusedVariables false
set_option maxRecDepth 1000000
set_option maxHeartbeats 4000000
noncomputable def X30_3 (x9:aM) (x10:Ty8) (x11:Ty4) (x12:Ty7):Ctx:=⟨Tryz.f30,[(.row [(.sl 2 (List.map aC x9)),(.sl 3 (List.map aE x10)),(.mp 1),(.ref 4 2 0 0 x12.length .virt)]),(.map (dR .i64 (fun y=>AV.agg (aD y)) x11) x11.length),(.arr 4 (List.map aB x12) 0 0 false)],false⟩
def aIV:Ans:=.norm 0 ⟨[(6,[]),(7,[])],[],false,[],[]⟩
def aS7 (x9:aM) (x12:Ty7) (x13:Ty8 × Ty4 × Int × Int):Ans:=.call ⟨true,[]⟩ (.tup [(.int .i64 x13.2.2.2),(.int .i64 x13.2.2.1)]) [(.row [(.sl 2 (List.map aC x9)),(.sl 3 (List.map aE x13.1)),(.mp 1),(.ref 4 2 0 0 x12.length .virt)]),(.map (dR .i64 (fun y=>AV.agg (aD y)) x13.2.1) x13.2.1.length),(.arr 4 (List.map aB x12) 0 0 false)]
theorem vA (k:Nat) (x1:Int) (x2:aM) (x3:Bool) (x4:Int) (x5:Int) (x6:Int) (x7:Int) (x8:Int) (x9:aM) (x10:Ty8) (x11:Ty4) (x12:Ty7) (r:Int × Int × Ty8 × Ty4 × aM) (h:i9 k x1 x2 x3 x4 x5 x6 x7 x8 x9 x10 x11 x12=some r):Tri Tryz.prog 30 [(.hp 0 0),(.agg [(.int .i64 x1),(.sl 2 (List.map aC x2)),(.bool x3),(.int .i64 x4)]),(.agg [(.int .i64 x5),(.int .i64 x6),(.int .u8 x7),(.int .i64 x8)])] [(.row [(.sl 2 (List.map aC x9)),(.sl 3 (List.map aE x10)),(.mp 1),(.ref 4 2 0 0 x12.length .virt)]),(.map (dR .i64 (fun y=>AV.agg (aD y)) x11) x11.length),(.arr 4 (List.map aB x12) 0 0 false)] (.tup [(.int .i64 r.1),(.int .i64 r.2.1)]) [(.row [(.sl 2 (List.map aC r.2.2.2.2)),(.sl 3 (List.map aE r.2.2.1)),(.mp 1),(.ref 4 2 0 0 x12.length .virt)]),(.map (dR .i64 (fun y=>AV.agg (aD y)) r.2.2.2.1) r.2.2.2.1.length),(.arr 4 (List.map aB x12) 0 0 false)]:=by
 unfold i9 at h
 by_cases c0:eqI x5 1=true
 · rw[if_pos c0] at h
   obtain rfl:=osi h
   exact Tri.of (x:=(X30_3 x9 x10 x11 x12)) mixed aI7 [dt,.ents (dR .i64 (fun y=>AV.agg (aD y)) (d7 x11 x6 (x1,x2,x3,x4))) (d7 x11 x6 (x1,x2,x3,x4)).length,aIV] [⟨(aG0 .i64 (fun y=>AV.agg (aD y)) x11 x6 (x1,x2,x3,x4))⟩,⟨c0⟩] (by kernel_rfl)
 rw[if_neg c0] at h;replace c0:=eqf c0
 by_cases c1:eqI x5 2=true
 · rw[if_pos c1] at h
   obtain⟨x13,e2,h⟩:=bsm h
   obtain rfl:=osi h
   exact Tri.of (x:=(X30_3 x9 x10 x11 x12)) mixed aI7 [df,dt,dt,(aS7 x9 x12 x13),aIV] [⟨(sV k x1 x2 x3 x4 x5 x6 x7 x8 x9 x10 x11 x12 _ e2)⟩,⟨c1⟩,⟨c1⟩,⟨c0⟩] (by kernel_rfl)
 rw[if_neg c1] at h;replace c1:=eqf c1
 by_cases c2:eqI x5 3=true
 · rw[if_pos c2] at h
   obtain⟨x13,e3,h⟩:=bsm h
   obtain rfl:=osi h
   exact Tri.of (x:=(X30_3 x9 x10 x11 x12)) mixed aI7 [df,df,dt,(aS7 x9 x12 x13),aIV] [⟨(sV k x1 x2 x3 x4 x5 x6 x7 x8 x9 x10 x11 x12 _ e3)⟩,⟨c2⟩,⟨c1⟩,⟨c0⟩] (by kernel_rfl)
 rw[if_neg c2] at h;replace c2:=eqf c2
 obtain⟨x13,e3,h⟩:=bsm h
 obtain rfl:=osi h
 exact Tri.of (x:=(X30_3 x9 x10 x11 x12)) mixed aI7 [df,df,df,.call ⟨true,[]⟩ (.int .i64 x13.2.2.2) [(.row [(.sl 2 (List.map aC x13.1)),(.sl 3 (List.map aE x13.2.1)),(.mp 1),(.ref 4 2 0 0 x12.length .virt)]),(.map (dR .i64 (fun y=>AV.agg (aD y)) x13.2.2.1) x13.2.2.1.length),(.arr 4 (List.map aB x12) 0 0 false)],aIV] [⟨(aES k x1 x2 x3 x4 x5 x6 x7 x8 x9 x10 x11 x12 _ e3)⟩,⟨c2⟩,⟨c1⟩,⟨c0⟩] (by kernel_rfl)
end Go.Ws

namespace Go.Ws
open Go.Proofs
set_option linter.unusedSimpArgs false
set_option linter.unusedVariables false
set_option maxRecDepth 1000000
set_option maxHeartbeats 4000000
noncomputable def X7_3 (x5:aM) (x6:Ty8) (x7:Ty4) (x8:Ty7):Ctx:=⟨Tryz.f7,[(.row [(.sl 2 (List.map aC x5)),(.sl 3 (List.map aE x6)),(.mp 1),(.ref 4 2 0 0 x8.length .virt)]),(.map (dR .i64 (fun y=>AV.agg (aD y)) x7) x7.length),(.arr 4 (List.map aB x8) 0 0 false)],false⟩
def A7_3_0 (x5:aM) (x6:Ty8) (x7:Ty4) (x8:Ty7):Ans:=.call ⟨true,[]⟩ (.bool (!false)) [(.row [(.sl 2 (List.map aC x5)),(.sl 3 (List.map aE x6)),(.mp 1),(.ref 4 2 0 0 x8.length .virt)]),(.map (dR .i64 (fun y=>AV.agg (aD y)) x7) x7.length),(.arr 4 (List.map aB x8) 0 0 false)]
def xO:Ans:=.norm 0 ⟨[(4,[]),(5,[])],[],false,[],[none,none,some 1]⟩
theorem nQ (k:Nat) (x1:Int) (x2:Int) (x3:Int) (x4:Int) (x5:aM) (x6:Ty8) (x7:Ty4) (x8:Ty7) (r:Int × Int × aM × Ty8 × Ty4 × Ty7) (h:iK k x1 x2 x3 x4 x5 x6 x7 x8=some r):Tri Tryz.prog 7 [(.hp 0 0),(.agg [(.int .i64 x1),(.int .i64 x2),(.int .u8 x3),(.int .i64 x4)])] [(.row [(.sl 2 (List.map aC x5)),(.sl 3 (List.map aE x6)),(.mp 1),(.ref 4 2 0 0 x8.length .virt)]),(.map (dR .i64 (fun y=>AV.agg (aD y)) x7) x7.length),(.arr 4 (List.map aB x8) 0 0 false)] (.tup [(.int .i64 r.2.1),(.int .i64 r.1)]) [(.row [(.sl 2 (List.map aC r.2.2.1)),(.sl 3 (List.map aE r.2.2.2.1)),(.mp 1),(.ref 4 2 1 0 r.2.2.2.2.2.length .virt)]),(.map (dR .i64 (fun y=>AV.agg (aD y)) r.2.2.2.2.1) r.2.2.2.2.1.length),(.arr 4 (List.map aB r.2.2.2.2.2) 1 1 false)]:=by
 unfold iK at h
 let w2:List Prf:=[⟨(nF (nT rfl))⟩,⟨(u4 x5 x6 x7 x8)⟩]
 by_cases c0:ltI x1 1=true
 · rw[if_pos c0] at h
   obtain rfl:=osi h
   exact Tri.of (x:=(X7_3 x5 x6 x7 x8)) mixed xV [(A7_3_0 x5 x6 x7 x8),df,dt,dt,dt,dt,dt,dt,dt,dt,dt,dt,dt,dt,dt,xO] ([⟨rT⟩,⟨rT⟩,⟨rT⟩,⟨rT⟩,⟨rT⟩,⟨rT⟩,⟨rT⟩,⟨rT⟩,⟨rT⟩,⟨c0⟩,⟨c0⟩,⟨c0⟩,⟨c0⟩]++w2) (by kernel_rfl)
 rw[if_neg c0] at h;replace c0:=eqf c0
 let u3:List Ans:=[(A7_3_0 x5 x6 x7 x8),df,df,df,df,df]
 by_cases c1:ltI 6 x1=true
 · rw[if_pos c1] at h
   obtain rfl:=osi h
   exact Tri.of (x:=(X7_3 x5 x6 x7 x8)) mixed xV (u3++[dt,dt,dt,dt,dt,dt,dt,dt,dt,xO]) ([⟨rT⟩,⟨rT⟩,⟨rT⟩,⟨rT⟩,⟨rT⟩,⟨c1⟩,⟨c1⟩,⟨c1⟩,⟨c1⟩,⟨c0⟩,⟨c0⟩,⟨c0⟩,⟨c0⟩]++w2) (by kernel_rfl)
 rw[if_neg c1] at h;replace c1:=eqf c1
 let w6:List Prf:=[⟨c1⟩,⟨c1⟩,⟨c1⟩,⟨c1⟩,⟨c0⟩,⟨c0⟩,⟨c0⟩,⟨c0⟩]++w2
 by_cases c2:ltI x2 0=true
 · rw[if_pos c2] at h
   obtain rfl:=osi h
   exact Tri.of (x:=(X7_3 x5 x6 x7 x8)) mixed xV (u3++[df,df,df,df,dt,dt,dt,dt,dt,xO]) ([⟨rT⟩,⟨c2⟩,⟨c2⟩,⟨c2⟩,⟨c2⟩]++w6) (by kernel_rfl)
 rw[if_neg c2] at h;replace c2:=eqf c2
 let u7:List Ans:=u3++[df,df,df,df,df,df,df,df]
 by_cases c3:ltI x2 1000=true
 · rw[if_pos c3] at h
   let w10:List Prf:=[⟨(nF c3)⟩,⟨c2⟩,⟨c2⟩,⟨c2⟩,⟨c2⟩]++w6
   by_cases c4:aC9 x7 x2=true
   · rw[if_pos c4] at h
     obtain⟨x9,e5,h⟩:=bsm h
     let w12:List Prf:=[⟨(aL8 .i64 (fun y=>AV.agg (aD y)) e5)⟩]++w10
     by_cases c6:eqB true (eqI x1 1)=true
     · rw[if_pos c6] at h
       obtain rfl:=osi h
       exact Tri.of (x:=(X7_3 x5 x6 x7 x8)) mixed xV (u7++[df,.opt (some (.agg [(.int .i64 x9.1),(.sl 2 (List.map aC x9.2.1)),(.bool x9.2.2.1),(.int .i64 x9.2.2.2)])),dt,dt,xO]) ([⟨rT⟩,⟨c6⟩]++w12) (by kernel_rfl)
     rw[if_neg c6] at h;replace c6:=eqf c6
     obtain⟨x10,e7,h⟩:=bsm h
     let u13:List Ans:=u7++[df,.opt (some (.agg [(.int .i64 x9.1),(.sl 2 (List.map aC x9.2.1)),(.bool x9.2.2.1),(.int .i64 x9.2.2.2)])),df,.call ⟨true,[]⟩ (.tup [(.int .i64 x10.1),(.int .i64 x10.2.1)]) [(.row [(.sl 2 (List.map aC x10.2.2.2.2)),(.sl 3 (List.map aE x10.2.2.1)),(.mp 1),(.ref 4 2 0 0 x8.length .virt)]),(.map (dR .i64 (fun y=>AV.agg (aD y)) x10.2.2.2.1) x10.2.2.2.1.length),(.arr 4 (List.map aB x8) 0 0 false)]]
     let w14:List Prf:=[⟨(vA k x9.1 x9.2.1 x9.2.2.1 x9.2.2.2 x1 x2 x3 x4 x5 x6 x7 x8 _ e7)⟩,⟨c6⟩]++w12
     by_cases c8:eqI x10.2.1 0=true
     · rw[if_pos c8] at h
       by_cases c9:bT (((x8++[(x1,x2,x3,x4)]).length)*32)=true
       · rw[if_pos c9] at h
         obtain rfl:=osi h
         exact Tri.of (x:=(X7_3 x5 x6 x7 x8)) mixed xV (u13++[df,.rows (List.map aB [(x1,x2,x3,x4)]),.n ((x8++[(x1,x2,x3,x4)]).length),.n x8.length,dt,.rows (List.map aB (x8++[(x1,x2,x3,x4)])),xO]) ([⟨(jY aB x8 [(x1,x2,x3,x4)])⟩,⟨(i5 x8.length)⟩,⟨(aN aB x8)⟩,⟨c9⟩,⟨(by simp only[wl,List.length_map,List.map_nil,List.map_cons]<;>omega:x8.length+(List.map aB [(x1,x2,x3,x4)]).length=(x8++[(x1,x2,x3,x4)]).length)⟩,⟨(aX aB (l:=[(x1,x2,x3,x4)]) (n:=1) rfl)⟩,⟨(bP aB (Nat.le_refl 1):0+1≤(List.map aB [(x1,x2,x3,x4)]).length)⟩,⟨(nF c8)⟩]++w14) (by kernel_rfl)
       rw[if_neg c9] at h;replace c9:=eqf c9
       cases h
     rw[if_neg c8] at h;replace c8:=eqf c8
     obtain rfl:=osi h
     exact Tri.of (x:=(X7_3 x5 x6 x7 x8)) mixed xV (u13++[dt,xO]) ([⟨(nT c8)⟩]++w14) (by kernel_rfl)
   rw[if_neg c4] at h;replace c4:=eqf c4
   let w16:List Prf:=[⟨(aMN .i64 (fun y=>AV.agg (aD y)) c4)⟩]++w10
   by_cases c5:eqB false (eqI x1 1)=true
   · rw[if_pos c5] at h
     obtain rfl:=osi h
     exact Tri.of (x:=(X7_3 x5 x6 x7 x8)) mixed xV (u7++[df,.opt none,dt,df,xO]) ([⟨rF⟩,⟨c5⟩]++w16) (by kernel_rfl)
   rw[if_neg c5] at h;replace c5:=eqf c5
   obtain⟨x9,e6,h⟩:=bsm h
   let u17:List Ans:=u7++[df,.opt none,df,.call ⟨true,[]⟩ (.tup [(.int .i64 x9.1),(.int .i64 x9.2.1)]) [(.row [(.sl 2 (List.map aC x9.2.2.2.2)),(.sl 3 (List.map aE x9.2.2.1)),(.mp 1),(.ref 4 2 0 0 x8.length .virt)]),(.map (dR .i64 (fun y=>AV.agg (aD y)) x9.2.2.2.1) x9.2.2.2.1.length),(.arr 4 (List.map aB x8) 0 0 false)]]
   let w18:List Prf:=[⟨(vA k 0 [] false 0 x1 x2 x3 x4 x5 x6 x7 x8 _ e6)⟩,⟨c5⟩]++w16
   by_cases c7:eqI x9.2.1 0=true
   · rw[if_pos c7] at h
     by_cases c8:bT (((x8++[(x1,x2,x3,x4)]).length)*32)=true
     · rw[if_pos c8] at h
       obtain rfl:=osi h
       exact Tri.of (x:=(X7_3 x5 x6 x7 x8)) mixed xV (u17++[df,.rows (List.map aB [(x1,x2,x3,x4)]),.n ((x8++[(x1,x2,x3,x4)]).length),.n x8.length,dt,.rows (List.map aB (x8++[(x1,x2,x3,x4)])),xO]) ([⟨(jY aB x8 [(x1,x2,x3,x4)])⟩,⟨(i5 x8.length)⟩,⟨(aN aB x8)⟩,⟨c8⟩,⟨(by simp only[wl,List.length_map,List.map_nil,List.map_cons]<;>omega:x8.length+(List.map aB [(x1,x2,x3,x4)]).length=(x8++[(x1,x2,x3,x4)]).length)⟩,⟨(aX aB (l:=[(x1,x2,x3,x4)]) (n:=1) rfl)⟩,⟨(bP aB (Nat.le_refl 1):0+1≤(List.map aB [(x1,x2,x3,x4)]).length)⟩,⟨(nF c7)⟩]++w18) (by kernel_rfl)
     rw[if_neg c8] at h;replace c8:=eqf c8
     cases h
   rw[if_neg c7] at h;replace c7:=eqf c7
   obtain rfl:=osi h
   exact Tri.of (x:=(X7_3 x5 x6 x7 x8)) mixed xV (u17++[dt,xO]) ([⟨(nT c7)⟩]++w18) (by kernel_rfl)
 rw[if_neg c3] at h;replace c3:=eqf c3
 obtain rfl:=osi h
 exact Tri.of (x:=(X7_3 x5 x6 x7 x8)) mixed xV (u7++[dt,xO]) ([⟨(nT c3)⟩,⟨c2⟩,⟨c2⟩,⟨c2⟩,⟨c2⟩]++w6) (by kernel_rfl)
end Go.Ws

namespace Go.Ws
open Go.Proofs
set_option linter.unusedSimpArgs false
set_option linter.unusedVariables false
set_option maxRecDepth 1000000
set_option maxHeartbeats 4000000
noncomputable def X14:Ctx:=⟨Tryz.f14,[],false⟩
noncomputable def L14_0:Code:=at_ Tryz.f14 [1,1,0,1,4,5]
def S14_0 (x1:Ty7) (dK:Int) (eU:aM) (eV:Ty8) (d8:Ty4) (d9:Ty7):St:=⟨mkT 26 [(4,(.hp 0 0)),(10,(.sl 4 (List.map aB x1))),(11,(.int .i64 (nI x1.length))),(12,(.int .i64 dK))],[(.row [(.sl 2 (List.map aC eU)),(.sl 3 (List.map aE eV)),(.mp 1),(.ref 4 2 0 0 d9.length .virt)]),(.map (dR .i64 (fun y=>AV.agg (aD y)) d8) d8.length),(.arr 4 (List.map aB d9) 0 0 false)]⟩
def aO9 (v14002_1:aM) (v14002_2:Ty8) (aRF:Ty4) (aRG:Ty7):St:=⟨mkT 26 [(4,(.hp 0 0))],[(.row [(.sl 2 (List.map aC v14002_1)),(.sl 3 (List.map aE v14002_2)),(.mp 1),(.ref 4 2 0 0 aRG.length .virt)]),(.map (dR .i64 (fun y=>AV.agg (aD y)) aRF) aRF.length),(.arr 4 (List.map aB aRG) 0 0 false)]⟩
def O14_0 (x1:Ty7) (y:Ty0):GX:=match y with
 | .inl y=>.st (.exit 0) (aO9 y.1 y.2.1 y.2.2.1 y.2.2.2)
 | .inr y=>.fin (Sum.elim (fun y=>(.tup [(.hp 0 0),(.int .i64 0)])) (fun y=>(.tup [.nilp,(.int .i64 4)])) y) (Sum.elim (fun y=>[(.row [(.sl 2 (List.map aC y.1)),(.sl 3 (List.map aE y.2.1)),(.mp 1),(.ref 4 2 0 0 y.2.2.2.length .virt)]),(.map (dR .i64 (fun y=>AV.agg (aD y)) y.2.2.1) y.2.2.1.length),(.arr 4 (List.map aB y.2.2.2) 0 0 false)]) (fun y=>[]) y)
theorem sG (x1:Ty7) (y:Ty0):∀(k:Nat) (dK:Int) (eU:aM) (eV:Ty8) (d8:Ty4) (d9:Ty7),fE k x1 dK eU eV d8 d9=some y→LT Tryz.prog X14 L14_0 (S14_0 x1 dK eU eV d8 d9) (O14_0 x1 y)
 | 0,dK,eU,eV,d8,d9,h=>by cases h
 | k+1,dK,eU,eV,d8,d9,h=>by
  rw[fE] at h
  by_cases cL0:ltI dK (nI x1.length)=true
  · rw[if_pos cL0] at h
    by_cases cL1:inI dK x1.length=true
    · rw[if_pos cL1] at h
      obtain⟨i6,eL2,h⟩:=bsm h
      obtain⟨dL,eL3,h⟩:=bsm h
      let u1:List Ans:=[dt,.n x1.length,.row [(.int .i64 i6.1),(.int .i64 i6.2.1),(.int .u8 i6.2.2.1),(.int .i64 i6.2.2.2)],.call ⟨true,[]⟩ (.tup [(.int .i64 dL.2.1),(.int .i64 dL.1)]) [(.row [(.sl 2 (List.map aC dL.2.2.1)),(.sl 3 (List.map aE dL.2.2.2.1)),(.mp 1),(.ref 4 2 1 0 dL.2.2.2.2.2.length .virt)]),(.map (dR .i64 (fun y=>AV.agg (aD y)) dL.2.2.2.2.1) dL.2.2.2.2.1.length),(.arr 4 (List.map aB dL.2.2.2.2.2) 1 1 false)]]
      let w2:List Prf:=[⟨(nQ k i6.1 i6.2.1 i6.2.2.1 i6.2.2.2 eU eV d8 d9 _ eL3)⟩,⟨(bX (e:=aB) eL2 4 0 4 (by decide))⟩,⟨cL1⟩,⟨(aN aB x1)⟩,⟨cL0⟩]
      by_cases cL4:eqI dL.1 0=true
      · rw[if_pos cL4] at h
        exact LT.next mixed (hs:=⟨[(4,[]),(10,[]),(11,[]),(12,[])],[⟨.tmp 4,[],none⟩,⟨.cell 0 2,[],none⟩,⟨.cell 0 3,[],some 4⟩],false,[],[]⟩) (es:=none) (u1++[df,.n dL.2.2.2.2.2.length,.rows (List.map aB dL.2.2.2.2.2)]) ([⟨(dF aB (l:=dL.2.2.2.2.2) (n:=dL.2.2.2.2.2.length) rfl)⟩,⟨(rfl:dL.2.2.2.2.2.length=dL.2.2.2.2.2.length)⟩,⟨(zle dL.2.2.2.2.2.length)⟩,⟨(nF cL4)⟩]++w2) (by kernel_rfl) (sG x1 y k (aH .i64 dK 1) dL.2.2.1 dL.2.2.2.1 dL.2.2.2.2.1 dL.2.2.2.2.2 h)
      rw[if_neg cL4] at h;replace cL4:=eqf cL4
      obtain rfl:=osi h
      show LT _ _ _ _ (.fin (.tup [.nilp,(.int .i64 4)]) [])
      exact LT.done mixed (hs:=⟨[],[],false,[],[]⟩) (es:=none) (u1++[dt,.norm 0 ⟨[(2,[]),(3,[])],[],false,[],[]⟩]) ([⟨(nT cL4)⟩]++w2) (by kernel_rfl) (fun s h=>by cases h)
    rw[if_neg cL1] at h;replace cL1:=eqf cL1
    cases h
  rw[if_neg cL0] at h;replace cL0:=eqf cL0
  obtain rfl:=osi h
  show LT _ _ _ _ (.st (.exit 0) (aO9 eU eV d8 d9))
  exact LT.done mixed (hs:=⟨[],[],false,[],[]⟩) (es:=(some ⟨[(4,[])],[⟨.tmp 4,[],none⟩,⟨.cell 0 2,[],none⟩,⟨.cell 0 3,[],none⟩],false,[],[]⟩)) [df] [⟨cL0⟩] (by kernel_rfl) (fun s h=>by cases h)
theorem lT (k:Nat) (x1:Ty7) (r:Ty3) (h:lX k x1=some r):Tri Tryz.prog 14 [(.sl 4 (List.map aB x1))] [] (Sum.elim (fun y=>(.tup [(.hp 0 0),(.int .i64 0)])) (fun y=>(.tup [.nilp,(.int .i64 4)])) r) (Sum.elim (fun y=>[(.row [(.sl 2 (List.map aC y.1)),(.sl 3 (List.map aE y.2.1)),(.mp 1),(.ref 4 2 0 0 y.2.2.2.length .virt)]),(.map (dR .i64 (fun y=>AV.agg (aD y)) y.2.2.1) y.2.2.1.length),(.arr 4 (List.map aB y.2.2.2) 0 0 false)]) (fun y=>[]) r):=by
 unfold lX at h
 let u3:List Ans:=[.call ⟨true,[]⟩ (.hp 0 0) [(.row [.nils,.nils,(.mp 1),.nils]),(.map (dR .i64 (fun y=>AV.agg (aD y)) ([]:Ty4)) ([]:Ty4).length)],.n x1.length,.norm 2 ⟨[(4,[]),(10,[]),(11,[]),(12,[])],[⟨.tmp 4,[(0,2),(1,3)],none⟩,⟨.cell 0 2,[],none⟩,⟨.cell 0 3,[],some 4⟩],false,[],[]⟩,.n 0,.rows (List.map aB [])]
 let w4:List Prf:=[⟨(dF aB (l:=[]) (n:=0) rfl)⟩,⟨(rfl:0=0)⟩,⟨(zle 0)⟩,⟨(aN aB x1)⟩,⟨(aB5)⟩]
 obtain⟨x2,e0,h⟩:=bsm h
 cases x2 with
 | inl x3 =>
  simp only[Sum.elim_inl] at h
  obtain rfl:=osi h
  exact Tri.of (x:=X14) mixed aS1 (u3++[.out (.st .normal (aO9 x3.1 x3.2.1 x3.2.2.1 x3.2.2.2)),.norm 0 ⟨[(2,[]),(3,[])],[⟨.tmp 2,[],none⟩,⟨.cell 0 2,[],none⟩,⟨.cell 0 3,[],none⟩],false,[],[]⟩]) ([⟨(LT.block (sG x1 _ k 0 [] [] ([]:Ty4) [] e0))⟩]++w4) (by kernel_rfl)
 | inr x3 =>
  simp only[Sum.elim_inr] at h
  obtain rfl:=osi h
  exact Tri.of (x:=X14) mixed aS1 (u3++[.out (.fin (Sum.elim (fun y=>(.tup [(.hp 0 0),(.int .i64 0)])) (fun y=>(.tup [.nilp,(.int .i64 4)])) x3) (Sum.elim (fun y=>[(.row [(.sl 2 (List.map aC y.1)),(.sl 3 (List.map aE y.2.1)),(.mp 1),(.ref 4 2 0 0 y.2.2.2.length .virt)]),(.map (dR .i64 (fun y=>AV.agg (aD y)) y.2.2.1) y.2.2.1.length),(.arr 4 (List.map aB y.2.2.2) 0 0 false)]) (fun y=>[]) x3))]) ([⟨(LT.blockFin (id:=0) (sG x1 _ k 0 [] [] ([]:Ty4) [] e0))⟩]++w4) (by kernel_rfl)
end Go.Ws

namespace Go.Ws
open Go.Proofs
set_option linter.unusedSimpArgs false
set_option linter.unusedVariables false
set_option maxRecDepth 1000000
set_option maxHeartbeats 4000000
noncomputable def X38_1001:Ctx:=⟨Tryz.f38,[],false⟩
theorem yK (k:Nat) (x1:Ty7) (r:Unit) (h:g9 k x1=some r):Tri Tryz.prog 38 [(.inl 4 (List.map aB x1))] [] (.ref 4 0 0 0 x1.length .virt) [(.arr 4 (List.map aB x1) 0 0 false)]:=by
 unfold g9 at h
 by_cases c0:bT (x1.length*32)=true
 · rw[if_pos c0] at h
   obtain rfl:=osi h
   exact Tri.of (x:=X38_1001) mixed aUE [df,.n x1.length,.norm 0 ⟨[(2,[])],[⟨.tmp 2,[],some 4⟩],false,[],[]⟩,.n x1.length,.rows (List.map aB x1)] [⟨(dF aB (l:=x1) (n:=x1.length) rfl)⟩,⟨(rfl:x1.length=x1.length)⟩,⟨(zle x1.length)⟩,⟨c0⟩,⟨(aN aB x1)⟩,⟨rF⟩] (by kernel_rfl)
 rw[if_neg c0] at h;replace c0:=eqf c0
 cases h
end Go.Ws

namespace Go.Ws
open Go.Proofs
set_option linter.unusedSimpArgs false
set_option linter.unusedVariables false
set_option maxRecDepth 1000000
set_option maxHeartbeats 4000000
noncomputable def X38_1002:Ctx:=⟨Tryz.f38,[],false⟩
theorem yR:Tri Tryz.prog 38 [.nils] [] (.ref 4 0 0 0 0 .virt) [(.arr 4 (List.map aB []) 0 0 false)]:=by
 obtain⟨r,h⟩:∃r,oN=r:=⟨_,rfl⟩
 try rw[h]
 unfold oN at h
 obtain rfl:=h
 exact Tri.of (x:=X38_1002) mixed aUE [dt,.norm 0 ⟨[(2,[])],[⟨.tmp 2,[],some 4⟩],false,[],[]⟩,.n 0,.rows (List.map aB [])] [⟨(dF aB (l:=[]) (n:=0) rfl)⟩,⟨(rfl:0=0)⟩,⟨(zle 0)⟩,⟨rT⟩] (by kernel_rfl)
end Go.Ws

namespace Go.Ws
open Go.Proofs
set_option linter.unusedSimpArgs false
set_option linter.unusedVariables false
set_option maxRecDepth 1000000
set_option maxHeartbeats 4000000
theorem wC (k:Nat) (x1:Ty7) (r:Unit) (h:kU k x1=some r):Tri Tryz.prog 38 [(.sl 4 (List.map aB x1))] [] (.ref 4 0 0 0 x1.length .virt) [(.arr 4 (List.map aB x1) 0 0 false)]:=by
 refine Tri.slOf (yK k x1 r h) fun h0=>?_
 have hx:x1=[]:=by simpa using h0
 subst hx
 exact yR
end Go.Ws

namespace Go.Ws
open Go.Proofs
set_option linter.unusedSimpArgs false
set_option linter.unusedVariables false
set_option maxRecDepth 1000000
set_option maxHeartbeats 4000000
noncomputable def X15 (x1:aM) (x2:Ty8) (x3:Ty4) (x4:Ty7):Ctx:=⟨Tryz.f15,[(.row [(.sl 2 (List.map aC x1)),(.sl 3 (List.map aE x2)),(.mp 1),(.ref 4 2 0 0 x4.length .virt)]),(.map (dR .i64 (fun y=>AV.agg (aD y)) x3) x3.length),(.arr 4 (List.map aB x4) 0 0 false)],false⟩
theorem zB (k:Nat) (x1:aM) (x2:Ty8) (x3:Ty4) (x4:Ty7) (r:Unit) (h:lF k x1 x2 x3 x4=some r):Tri Tryz.prog 15 [(.hp 0 0)] [(.row [(.sl 2 (List.map aC x1)),(.sl 3 (List.map aE x2)),(.mp 1),(.ref 4 2 0 0 x4.length .virt)]),(.map (dR .i64 (fun y=>AV.agg (aD y)) x3) x3.length),(.arr 4 (List.map aB x4) 0 0 false)] (.ref 4 3 0 0 x4.length .virt) [(.row [(.sl 2 (List.map aC x1)),(.sl 3 (List.map aE x2)),(.mp 1),(.ref 4 2 0 0 x4.length .virt)]),(.map (dR .i64 (fun y=>AV.agg (aD y)) x3) x3.length),(.arr 4 (List.map aB x4) 0 0 true),(.arr 4 (List.map aB x4) 0 0 false)]:=by
 unfold lF at h
 obtain⟨x5,e0,h⟩:=bsm h
 obtain rfl:=osi h
 exact Tri.of (x:=(X15 x1 x2 x3 x4)) mixed aTH [.call ⟨true,[]⟩ (.bool (!false)) [(.row [(.sl 2 (List.map aC x1)),(.sl 3 (List.map aE x2)),(.mp 1),(.ref 4 2 0 0 x4.length .virt)]),(.map (dR .i64 (fun y=>AV.agg (aD y)) x3) x3.length),(.arr 4 (List.map aB x4) 0 0 false)],df,.call ⟨true,[]⟩ (.ref 4 0 0 0 x4.length .virt) [(.arr 4 (List.map aB x4) 0 0 false)],.rows (List.map aB x4),.norm 0 ⟨[(2,[])],[⟨.tmp 2,[],none⟩],false,[],[]⟩] [⟨(wC k x4 _ e0)⟩,⟨(aX aB (l:=x4) (n:=x4.length) rfl)⟩,⟨(bP aB (Nat.le_refl x4.length):0+x4.length≤(List.map aB x4).length)⟩,⟨(nF (nT rfl))⟩,⟨(u4 x1 x2 x3 x4)⟩] (by kernel_rfl)
end Go.Ws

namespace Go.Ws
open Go.Proofs
set_option linter.unusedSimpArgs false
set_option linter.unusedVariables false
set_option maxRecDepth 1000000
set_option maxHeartbeats 4000000
noncomputable def X29_4 (x1:aM) (x2:Ty8) (x3:Ty4) (x4:Ty7):Ctx:=⟨Tryz.f29,[(.row [(.sl 2 (List.map aC x1)),(.sl 3 (List.map aE x2)),(.mp 1),(.ref 4 2 0 0 x4.length .virt)]),(.map (dR .i64 (fun y=>AV.agg (aD y)) x3) x3.length),(.arr 4 (List.map aB x4) 0 0 true)],false⟩
theorem uV (x1:aM) (x2:Ty8) (x3:Ty4) (x4:Ty7):Tri Tryz.prog 29 [(.hp 0 0)] [(.row [(.sl 2 (List.map aC x1)),(.sl 3 (List.map aE x2)),(.mp 1),(.ref 4 2 0 0 x4.length .virt)]),(.map (dR .i64 (fun y=>AV.agg (aD y)) x3) x3.length),(.arr 4 (List.map aB x4) 0 0 true)] (.bool (!false)) [(.row [(.sl 2 (List.map aC x1)),(.sl 3 (List.map aE x2)),(.mp 1),(.ref 4 2 0 0 x4.length .virt)]),(.map (dR .i64 (fun y=>AV.agg (aD y)) x3) x3.length),(.arr 4 (List.map aB x4) 0 0 true)]:=by
 obtain⟨r,h⟩:∃r,tZ x1 x2 x3 x4=r:=⟨_,rfl⟩
 try rw[h]
 unfold tZ at h
 obtain rfl:=h
 exact Tri.of (x:=(X29_4 x1 x2 x3 x4)) mixed aUJ [dt,dt,dt,dt,dt,dt,.norm 0 ⟨[(2,[])],[],false,[],[]⟩] [⟨(nT rfl)⟩,⟨(nT rfl)⟩,⟨(nT rfl)⟩,⟨(nT rfl)⟩,⟨(nT rfl)⟩,⟨(nT rfl)⟩] (by kernel_rfl)
end Go.Ws

namespace Go.Ws
open Go.Proofs
set_option linter.unusedSimpArgs false
set_option linter.unusedVariables false
set_option maxRecDepth 1000000
set_option maxHeartbeats 4000000
noncomputable def X16_1 (x2:aM) (x3:Ty8) (x4:Ty4) (x5:Ty7):Ctx:=⟨Tryz.f16,[(.row [(.sl 2 (List.map aC x2)),(.sl 3 (List.map aE x3)),(.mp 1),(.ref 4 2 0 0 x5.length .virt)]),(.map (dR .i64 (fun y=>AV.agg (aD y)) x4) x4.length),(.arr 4 (List.map aB x5) 0 0 true)],false⟩
theorem mA (k:Nat) (x1:Int) (x2:aM) (x3:Ty8) (x4:Ty4) (x5:Ty7) (r:Int) (h:gZ k x1 x2 x3 x4 x5=some r):Tri Tryz.prog 16 [(.hp 0 0),(.int .u8 x1)] [(.row [(.sl 2 (List.map aC x2)),(.sl 3 (List.map aE x3)),(.mp 1),(.ref 4 2 0 0 x5.length .virt)]),(.map (dR .i64 (fun y=>AV.agg (aD y)) x4) x4.length),(.arr 4 (List.map aB x5) 0 0 true)] (.int .i64 r) [(.row [(.sl 2 (List.map aC x2)),(.sl 3 (List.map aE x3)),(.mp 1),(.ref 4 2 0 0 x5.length .virt)]),(.map (dR .i64 (fun y=>AV.agg (aD y)) x4) x4.length),(.arr 4 (List.map aB x5) 0 0 true)]:=by
 unfold gZ at h
 obtain⟨x6,e0,h⟩:=bsm h
 obtain rfl:=osi h
 exact Tri.of (x:=(X16_1 x2 x3 x4 x5)) mixed facts16 [.call ⟨true,[]⟩ (.bool (!false)) [(.row [(.sl 2 (List.map aC x2)),(.sl 3 (List.map aE x3)),(.mp 1),(.ref 4 2 0 0 x5.length .virt)]),(.map (dR .i64 (fun y=>AV.agg (aD y)) x4) x4.length),(.arr 4 (List.map aB x5) 0 0 true)],df,.call ⟨true,[]⟩ (.int .i64 x6) [],.norm 0 ⟨[(4,[])],[],false,[],[]⟩] [⟨(aD8 k x2 x1 _ e0)⟩,⟨(nF (nT rfl))⟩,⟨(uV x2 x3 x4 x5)⟩] (by kernel_rfl)
end Go.Ws

namespace Go.Ws
open Go.Proofs
set_option linter.unusedSimpArgs false
set_option linter.unusedVariables false
set_option maxRecDepth 1000000
set_option maxHeartbeats 4000000
noncomputable def X15_1 (x1:aM) (x2:Ty8) (x3:Ty4) (x4:Ty7):Ctx:=⟨Tryz.f15,[(.row [(.sl 2 (List.map aC x1)),(.sl 3 (List.map aE x2)),(.mp 1),(.ref 4 2 0 0 x4.length .virt)]),(.map (dR .i64 (fun y=>AV.agg (aD y)) x3) x3.length),(.arr 4 (List.map aB x4) 0 0 true)],false⟩
theorem wY (k:Nat) (x1:aM) (x2:Ty8) (x3:Ty4) (x4:Ty7) (r:Unit) (h:jT k x1 x2 x3 x4=some r):Tri Tryz.prog 15 [(.hp 0 0)] [(.row [(.sl 2 (List.map aC x1)),(.sl 3 (List.map aE x2)),(.mp 1),(.ref 4 2 0 0 x4.length .virt)]),(.map (dR .i64 (fun y=>AV.agg (aD y)) x3) x3.length),(.arr 4 (List.map aB x4) 0 0 true)] (.ref 4 3 0 0 x4.length .virt) [(.row [(.sl 2 (List.map aC x1)),(.sl 3 (List.map aE x2)),(.mp 1),(.ref 4 2 0 0 x4.length .virt)]),(.map (dR .i64 (fun y=>AV.agg (aD y)) x3) x3.length),(.arr 4 (List.map aB x4) 0 0 true),(.arr 4 (List.map aB x4) 0 0 false)]:=by
 unfold jT at h
 obtain⟨x5,e0,h⟩:=bsm h
 obtain rfl:=osi h
 exact Tri.of (x:=(X15_1 x1 x2 x3 x4)) mixed aTH [.call ⟨true,[]⟩ (.bool (!false)) [(.row [(.sl 2 (List.map aC x1)),(.sl 3 (List.map aE x2)),(.mp 1),(.ref 4 2 0 0 x4.length .virt)]),(.map (dR .i64 (fun y=>AV.agg (aD y)) x3) x3.length),(.arr 4 (List.map aB x4) 0 0 true)],df,.call ⟨true,[]⟩ (.ref 4 0 0 0 x4.length .virt) [(.arr 4 (List.map aB x4) 0 0 false)],.rows (List.map aB x4),.norm 0 ⟨[(2,[])],[⟨.tmp 2,[],none⟩],false,[],[]⟩] [⟨(wC k x4 _ e0)⟩,⟨(aX aB (l:=x4) (n:=x4.length) rfl)⟩,⟨(bP aB (Nat.le_refl x4.length):0+x4.length≤(List.map aB x4).length)⟩,⟨(nF (nT rfl))⟩,⟨(uV x1 x2 x3 x4)⟩] (by kernel_rfl)
end Go.Ws

namespace Go.Ws
open Go.Proofs
set_option linter.unusedSimpArgs false
set_option linter.unusedVariables false
set_option maxRecDepth 1000000
set_option maxHeartbeats 4000000
noncomputable def X3:Ctx:=⟨Tryz.f3,[],true⟩
noncomputable def L3_3:Code:=at_ Tryz.f3 [1,1,1,1,1,1,1,1,1,1,1,1,1,1,1,0,1,4,5]
def S3_3 (x5:Int × aM × Ty8 × (List Int) × Int × Int × Ty4 × Ty7) (x11:aM × Ty8 × Ty4 × Ty7) (dP:Int):St:=⟨mkT 215 [(27,(.ref 4 0 0 0 x5.2.2.2.2.2.2.2.length .virt)),(201,(.ref 4 1 0 0 x11.2.2.2.length .virt)),(202,(.int .i64 (nI x11.2.2.2.length))),(203,(.int .i64 dP))],[(.arr 4 (List.map aB x5.2.2.2.2.2.2.2) 0 0 true),(.arr 4 (List.map aB x11.2.2.2) 0 0 true)]⟩
def aO8:St:=⟨mkT 215 [],[]⟩
def O3_3 (x5:Int × aM × Ty8 × (List Int) × Int × Int × Ty4 × Ty7) (x11:aM × Ty8 × Ty4 × Ty7) (y:(Sum (Unit) (Bool))):GX:=match y with
 | .inl y=>.st (.exit 6) (aO8)
 | .inr y=>.fin (.bool y) []
noncomputable def L3_2:Code:=at_ Tryz.f3 [1,1,1,1,1,1,1,1,1,1,1,1,1,1,0,1,4,5]
def S3_2 (x5:Int × aM × Ty8 × (List Int) × Int × Int × Ty4 × Ty7) (x9:Ty7) (x11:aM × Ty8 × Ty4 × Ty7) (x14:aM × Ty8 × Ty4 × Ty7) (cU:Int):St:=⟨mkT 215 [(5,(.hp 0 0)),(20,(.ref 4 1 0 0 x9.length .virt)),(25,(.hp 2 0)),(27,(.ref 4 3 0 0 x5.2.2.2.2.2.2.2.length .virt)),(28,(.hp 4 0)),(173,(.int .u8 cU))],[(.row [(.sl 2 (List.map aC x5.2.1)),(.sl 3 (List.map aE x5.2.2.1)),(.mp 5),(.ref 4 6 0 0 x5.2.2.2.2.2.2.2.length .virt)]),(.arr 4 (List.map aB x9) 0 0 true),(.row [(.sl 2 (List.map aC x11.1)),(.sl 3 (List.map aE x11.2.1)),(.mp 7),(.ref 4 8 0 0 x11.2.2.2.length .virt)]),(.arr 4 (List.map aB x5.2.2.2.2.2.2.2) 0 0 true),(.row [(.sl 2 (List.map aC x14.1)),(.sl 3 (List.map aE x14.2.1)),(.mp 9),(.ref 4 10 0 0 x14.2.2.2.length .virt)]),(.map (dR .i64 (fun y=>AV.agg (aD y)) x5.2.2.2.2.2.2.1) x5.2.2.2.2.2.2.1.length),(.arr 4 (List.map aB x5.2.2.2.2.2.2.2) 0 0 true),(.map (dR .i64 (fun y=>AV.agg (aD y)) x11.2.2.1) x11.2.2.1.length),(.arr 4 (List.map aB x11.2.2.2) 0 0 true),(.map (dR .i64 (fun y=>AV.agg (aD y)) x14.2.2.1) x14.2.2.1.length),(.arr 4 (List.map aB x14.2.2.2) 0 0 true)]⟩
def aNB (x5:Int × aM × Ty8 × (List Int) × Int × Int × Ty4 × Ty7) (x11:aM × Ty8 × Ty4 × Ty7):St:=⟨mkT 215 [(25,(.hp 0 0)),(27,(.ref 4 1 0 0 x5.2.2.2.2.2.2.2.length .virt))],[(.row [(.sl 2 (List.map aC x11.1)),(.sl 3 (List.map aE x11.2.1)),(.mp 2),(.ref 4 3 0 0 x11.2.2.2.length .virt)]),(.arr 4 (List.map aB x5.2.2.2.2.2.2.2) 0 0 true),(.map (dR .i64 (fun y=>AV.agg (aD y)) x11.2.2.1) x11.2.2.1.length),(.arr 4 (List.map aB x11.2.2.2) 0 0 true)]⟩
def O3_2 (x5:Int × aM × Ty8 × (List Int) × Int × Int × Ty4 × Ty7) (x9:Ty7) (x11:aM × Ty8 × Ty4 × Ty7) (x14:aM × Ty8 × Ty4 × Ty7) (y:(Sum (Unit) (Bool))):GX:=match y with
 | .inl y=>.st (.exit 4) (aNB x5 x11)
 | .inr y=>.fin (.bool y) []
noncomputable def L3_1:Code:=at_ Tryz.f3 [1,1,1,1,1,1,1,1,0,1,4,5]
def S3_1 (x5:Int × aM × Ty8 × (List Int) × Int × Int × Ty4 × Ty7) (x7:(List (List Int)) × Int) (eZ:Int) (cI:Ty7):St:=⟨mkT 215 [(5,(.hp 0 0)),(8,(.int .i64 x5.1)),(20,(.ref 4 1 0 0 cI.length .virt)),(115,(.sl 1 (List.map iG x7.1))),(116,(.int .i64 (nI x7.1.length))),(117,(.int .i64 eZ))],[(.row [(.sl 2 (List.map aC x5.2.1)),(.sl 3 (List.map aE x5.2.2.1)),(.mp 2),(.ref 4 3 0 0 x5.2.2.2.2.2.2.2.length .virt)]),(.arr 4 (List.map aB cI) 0 0 false),(.map (dR .i64 (fun y=>AV.agg (aD y)) x5.2.2.2.2.2.2.1) x5.2.2.2.2.2.2.1.length),(.arr 4 (List.map aB x5.2.2.2.2.2.2.2) 0 0 false)]⟩
def aR3 (x5:Int × aM × Ty8 × (List Int) × Int × Int × Ty4 × Ty7) (aUM:Ty7):St:=⟨mkT 215 [(5,(.hp 0 0)),(8,(.int .i64 x5.1)),(20,(.ref 4 1 0 0 aUM.length .virt))],[(.row [(.sl 2 (List.map aC x5.2.1)),(.sl 3 (List.map aE x5.2.2.1)),(.mp 2),(.ref 4 3 0 0 x5.2.2.2.2.2.2.2.length .virt)]),(.arr 4 (List.map aB aUM) 0 0 false),(.map (dR .i64 (fun y=>AV.agg (aD y)) x5.2.2.2.2.2.2.1) x5.2.2.2.2.2.2.1.length),(.arr 4 (List.map aB x5.2.2.2.2.2.2.2) 0 0 false)]⟩
def O3_1 (x5:Int × aM × Ty8 × (List Int) × Int × Int × Ty4 × Ty7) (x7:(List (List Int)) × Int) (y:(Sum (Ty7) (Bool))):GX:=match y with
 | .inl y=>.st (.exit 2) (aR3 x5 y)
 | .inr y=>.fin (.bool y) []
noncomputable def L3_0:Code:=at_ Tryz.f3 [1,1,1,1,1,0,1,4,5]
def S3_0 (x1:List (Int × Int × Int × Int × Bool)) (x2:Int) (bF:Int) (cV:Int) (bH:Int) (eB:aM) (eC:Ty8) (cW:List Int) (cX:Int) (cY:Int) (d6:Ty4) (dA:Ty7):St:=⟨mkT 215 [(1,(.int .u16 x2)),(5,(.hp 0 0)),(6,(.hp 1 0)),(7,(.int .i64 bF)),(8,(.int .i64 cV)),(42,(.sl 5 (List.map fH x1))),(43,(.int .i64 (nI x1.length))),(44,(.int .i64 bH))],[(.row [(.sl 2 (List.map aC eB)),(.sl 3 (List.map aE eC)),(.mp 2),(.ref 4 3 0 0 dA.length .virt)]),(.row [(.sl 1 (List.map aJ cW)),(.int .i64 cX),(.int .i64 cY)]),(.map (dR .i64 (fun y=>AV.agg (aD y)) d6) d6.length),(.arr 4 (List.map aB dA) 0 0 false)]⟩
def aSO (x2:Int) (v3002_1:Int) (v3002_2:aM) (v3002_3:Ty8) (v3002_4:List Int) (v3002_5:Int) (v3002_6:Int) (aUN:Ty4) (aUO:Ty7):St:=⟨mkT 215 [(1,(.int .u16 x2)),(5,(.hp 0 0)),(6,(.hp 1 0)),(8,(.int .i64 v3002_1))],[(.row [(.sl 2 (List.map aC v3002_2)),(.sl 3 (List.map aE v3002_3)),(.mp 2),(.ref 4 3 0 0 aUO.length .virt)]),(.row [(.sl 1 (List.map aJ v3002_4)),(.int .i64 v3002_5),(.int .i64 v3002_6)]),(.map (dR .i64 (fun y=>AV.agg (aD y)) aUN) aUN.length),(.arr 4 (List.map aB aUO) 0 0 false)]⟩
def O3_0 (x1:List (Int × Int × Int × Int × Bool)) (x2:Int) (y:Ty1):GX:=match y with
 | .inl y=>.st (.exit 0) (aSO x2 y.1 y.2.1 y.2.2.1 y.2.2.2.1 y.2.2.2.2.1 y.2.2.2.2.2.1 y.2.2.2.2.2.2.1 y.2.2.2.2.2.2.2)
 | .inr y=>.fin (.bool y) []
def A3_0 (aF:Int × Int × aM × Ty8 × Ty4 × Ty7):Ans:=.call ⟨true,[]⟩ (.tup [(.int .i64 aF.2.1),(.int .i64 aF.1)]) [(.row [(.sl 2 (List.map aC aF.2.2.1)),(.sl 3 (List.map aE aF.2.2.2.1)),(.mp 1),(.ref 4 2 1 0 aF.2.2.2.2.2.length .virt)]),(.map (dR .i64 (fun y=>AV.agg (aD y)) aF.2.2.2.2.1) aF.2.2.2.2.1.length),(.arr 4 (List.map aB aF.2.2.2.2.2) 1 1 false)]
def A3_1 (dX:(List Int) × Int):Ans:=.call ⟨true,[]⟩ (.tup [(.sl 1 (List.map aJ dX.1)),(.int .i64 dX.2)]) []
def A3_2 (aR:(List Int) × Int × Int × Int):Ans:=.call ⟨true,[]⟩ (.tup [(.agg [(.sl 1 (List.map aJ aR.1)),(.int .i64 aR.2.1),(.int .i64 aR.2.2.1)]),(.int .i64 aR.2.2.2)]) []
def A3_3 (cJ:(List Int) × Int × Int):Ans:=.call ⟨true,[]⟩ (.agg [(.sl 1 (List.map aJ cJ.1)),(.int .i64 cJ.2.1),(.int .i64 cJ.2.2)]) []
def A3_4 (aF:Int × Int × aM × Ty8 × Ty4 × Ty7):Ans:=.rows (List.map aB aF.2.2.2.2.2)
def A3_5 (x5:Int × aM × Ty8 × (List Int) × Int × Int × Ty4 × Ty7):Ans:=.call ⟨true,[]⟩ (.ref 4 3 0 0 x5.2.2.2.2.2.2.2.length .virt) [(.row [(.sl 2 (List.map aC x5.2.1)),(.sl 3 (List.map aE x5.2.2.1)),(.mp 1),(.ref 4 2 0 0 x5.2.2.2.2.2.2.2.length .virt)]),(.map (dR .i64 (fun y=>AV.agg (aD y)) x5.2.2.2.2.2.2.1) x5.2.2.2.2.2.2.1.length),(.arr 4 (List.map aB x5.2.2.2.2.2.2.2) 0 0 true),(.arr 4 (List.map aB x5.2.2.2.2.2.2.2) 0 0 false)]
def A3_6 (x14:aM × Ty8 × Ty4 × Ty7):Ans:=.call ⟨true,[]⟩ (.tup [(.hp 0 0),(.int .i64 0)]) [(.row [(.sl 2 (List.map aC x14.1)),(.sl 3 (List.map aE x14.2.1)),(.mp 1),(.ref 4 2 0 0 x14.2.2.2.length .virt)]),(.map (dR .i64 (fun y=>AV.agg (aD y)) x14.2.2.1) x14.2.2.1.length),(.arr 4 (List.map aB x14.2.2.2) 0 0 false)]
def A3_7:Ans:=.norm 14 ⟨[(5,[]),(20,[]),(25,[]),(27,[]),(28,[]),(173,[])],[⟨.tmp 5,[],none⟩,⟨.tmp 20,[],none⟩,⟨.tmp 25,[],none⟩,⟨.tmp 27,[],none⟩,⟨.tmp 28,[],none⟩,⟨.cell 0 2,[],none⟩,⟨.cell 0 3,[],none⟩,⟨.cell 2 2,[],none⟩,⟨.cell 2 3,[],none⟩,⟨.cell 4 2,[],none⟩,⟨.cell 4 3,[],none⟩],true,[],[]⟩
def A3_8 (x11:aM × Ty8 × Ty4 × Ty7):Ans:=.call ⟨true,[]⟩ (.ref 4 3 0 0 x11.2.2.2.length .virt) [(.row [(.sl 2 (List.map aC x11.1)),(.sl 3 (List.map aE x11.2.1)),(.mp 1),(.ref 4 2 0 0 x11.2.2.2.length .virt)]),(.map (dR .i64 (fun y=>AV.agg (aD y)) x11.2.2.1) x11.2.2.1.length),(.arr 4 (List.map aB x11.2.2.2) 0 0 true),(.arr 4 (List.map aB x11.2.2.2) 0 0 false)]
def A3_9:Ans:=.norm 20 ⟨[(27,[]),(201,[]),(202,[]),(203,[])],[⟨.tmp 27,[],none⟩,⟨.tmp 201,[],none⟩],true,[],[]⟩
def A3_10:Ans:=.call ⟨true,[]⟩ (.tup [.nilp,(.int .i64 4)]) []
theorem iZ (x5:Int × aM × Ty8 × (List Int) × Int × Int × Ty4 × Ty7) (x11:aM × Ty8 × Ty4 × Ty7) (y:(Sum (Unit) (Bool))):∀(k:Nat) (dP:Int),cP k x5 x11 dP=some y→LT Tryz.prog X3 L3_3 (S3_3 x5 x11 dP) (O3_3 x5 x11 y)
 | 0,dP,h=>by cases h
 | k+1,dP,h=>by
  rw[cP] at h
  by_cases cL0:ltI dP (nI x11.2.2.2.length)=true
  · rw[if_pos cL0] at h
    by_cases cL1:inI dP x11.2.2.2.length=true
    · rw[if_pos cL1] at h
      obtain⟨iD,eL2,h⟩:=bsm h
      by_cases cL3:inI dP x5.2.2.2.2.2.2.2.length=true
      · rw[if_pos cL3] at h
        obtain⟨iE,eL4,h⟩:=bsm h
        let u1:List Ans:=[dt,.row [(.int .i64 iD.1),(.int .i64 iD.2.1),(.int .u8 iD.2.2.1),(.int .i64 iD.2.2.2)],.row [(.int .i64 iE.1),(.int .i64 iE.2.1),(.int .u8 iE.2.2.1),(.int .i64 iE.2.2.2)]]
        let w2:List Prf:=[⟨(bX (e:=aB) eL4 4 0 4 (by decide))⟩,⟨cL3⟩,⟨(bX (e:=aB) eL2 4 0 4 (by decide))⟩,⟨cL1⟩,⟨cL0⟩]
        by_cases cL5:eqI iD.1 iE.1=true
        · rw[if_pos cL5] at h
          by_cases cL6:eqI iD.2.1 iE.2.1=true
          · rw[if_pos cL6] at h
            by_cases cL7:eqI iD.2.2.1 iE.2.2.1=true
            · rw[if_pos cL7] at h
              by_cases cL8:eqI iD.2.2.2 iE.2.2.2=true
              · rw[if_pos cL8] at h
                exact LT.next mixed (hs:=⟨[(27,[]),(201,[]),(202,[]),(203,[])],[⟨.tmp 27,[],none⟩,⟨.tmp 201,[],none⟩],true,[],[]⟩) (es:=none) (u1++[df]) ([⟨(nF (aT cL5 (aT cL6 (aT cL7 cL8))))⟩]++w2) (by kernel_rfl) (iZ x5 x11 y k (aH .i64 dP 1) h)
              rw[if_neg cL8] at h;replace cL8:=eqf cL8
              obtain rfl:=osi h
              show LT _ _ _ _ (.fin (.bool false) [])
              exact LT.done mixed (hs:=⟨[],[],false,[],[]⟩) (es:=none) (u1++[dt]) ([⟨(nT (aF2 cL5 (aF2 cL6 (aF2 cL7 cL8))))⟩]++w2) (by kernel_rfl) (fun s h=>by cases h)
            rw[if_neg cL7] at h;replace cL7:=eqf cL7
            obtain rfl:=osi h
            show LT _ _ _ _ (.fin (.bool false) [])
            exact LT.done mixed (hs:=⟨[],[],false,[],[]⟩) (es:=none) (u1++[dt]) ([⟨(nT (aF2 cL5 (aF2 cL6 (aF1 (b:=eqI iD.2.2.2 iE.2.2.2) cL7))))⟩]++w2) (by kernel_rfl) (fun s h=>by cases h)
          rw[if_neg cL6] at h;replace cL6:=eqf cL6
          obtain rfl:=osi h
          show LT _ _ _ _ (.fin (.bool false) [])
          exact LT.done mixed (hs:=⟨[],[],false,[],[]⟩) (es:=none) (u1++[dt]) ([⟨(nT (aF2 cL5 (aF1 (b:=(eqI iD.2.2.1 iE.2.2.1 && eqI iD.2.2.2 iE.2.2.2)) cL6)))⟩]++w2) (by kernel_rfl) (fun s h=>by cases h)
        rw[if_neg cL5] at h;replace cL5:=eqf cL5
        obtain rfl:=osi h
        show LT _ _ _ _ (.fin (.bool false) [])
        exact LT.done mixed (hs:=⟨[],[],false,[],[]⟩) (es:=none) (u1++[dt]) ([⟨(nT (aF1 (b:=(eqI iD.2.1 iE.2.1 && (eqI iD.2.2.1 iE.2.2.1 && eqI iD.2.2.2 iE.2.2.2))) cL5))⟩]++w2) (by kernel_rfl) (fun s h=>by cases h)
      rw[if_neg cL3] at h;replace cL3:=eqf cL3
      cases h
    rw[if_neg cL1] at h;replace cL1:=eqf cL1
    cases h
  rw[if_neg cL0] at h;replace cL0:=eqf cL0
  obtain rfl:=osi h
  show LT _ _ _ _ (.st (.exit 6) (aO8))
  exact LT.done mixed (hs:=⟨[],[],false,[],[]⟩) (es:=(some ⟨[],[],false,[],[]⟩)) [df] [⟨cL0⟩] (by kernel_rfl) (fun s h=>by cases h)
theorem gS (x5:Int × aM × Ty8 × (List Int) × Int × Int × Ty4 × Ty7) (x9:Ty7) (x11:aM × Ty8 × Ty4 × Ty7) (x14:aM × Ty8 × Ty4 × Ty7) (y:(Sum (Unit) (Bool))):∀(k:Nat) (cU:Int),cG k x5 x9 x11 x14 cU=some y→LT Tryz.prog X3 L3_2 (S3_2 x5 x9 x11 x14 cU) (O3_2 x5 x9 x11 x14 y)
 | 0,cU,h=>by cases h
 | k+1,cU,h=>by
  rw[cG] at h
  by_cases cL0:ltI cU 8=true
  · rw[if_pos cL0] at h
    obtain⟨aCY,eL1,h⟩:=bsm h
    obtain⟨aCZ,eL2,h⟩:=bsm h
    let u3:List Ans:=[dt,.call ⟨true,[]⟩ (.int .i64 aCY) [(.row [(.sl 2 (List.map aC x11.1)),(.sl 3 (List.map aE x11.2.1)),(.mp 1),(.ref 4 2 0 0 x11.2.2.2.length .virt)]),(.map (dR .i64 (fun y=>AV.agg (aD y)) x11.2.2.1) x11.2.2.1.length),(.arr 4 (List.map aB x11.2.2.2) 0 0 true)],.call ⟨true,[]⟩ (.int .i64 aCZ) [(.row [(.sl 2 (List.map aC x14.1)),(.sl 3 (List.map aE x14.2.1)),(.mp 1),(.ref 4 2 0 0 x14.2.2.2.length .virt)]),(.map (dR .i64 (fun y=>AV.agg (aD y)) x14.2.2.1) x14.2.2.1.length),(.arr 4 (List.map aB x14.2.2.2) 0 0 true)]]
    let w4:List Prf:=[⟨(mA k cU x14.1 x14.2.1 x14.2.2.1 x14.2.2.2 _ eL2)⟩,⟨(mA k cU x11.1 x11.2.1 x11.2.2.1 x11.2.2.2 _ eL1)⟩,⟨cL0⟩]
    by_cases cL3:eqI aCY aCZ=true
    · rw[if_pos cL3] at h
      let w6:List Prf:=[⟨(nF cL3)⟩,⟨(nF cL3)⟩,⟨(nF cL3)⟩,⟨(nF cL3)⟩,⟨(nF cL3)⟩,⟨(nF cL3)⟩]++w4
      by_cases cL4:eqI (nI x9.length) (nI x5.2.2.2.2.2.2.2.length)=true
      · rw[if_pos cL4] at h
        obtain⟨aC0,eL5,h⟩:=bsm h
        obtain⟨aC1,eL6,h⟩:=bsm h
        let u7:List Ans:=u3++[df,df,df,df,df,df,dt,dt,dt,.call ⟨true,[]⟩ (.int .i64 aC0) [(.row [(.sl 2 (List.map aC x11.1)),(.sl 3 (List.map aE x11.2.1)),(.mp 1),(.ref 4 2 0 0 x11.2.2.2.length .virt)]),(.map (dR .i64 (fun y=>AV.agg (aD y)) x11.2.2.1) x11.2.2.1.length),(.arr 4 (List.map aB x11.2.2.2) 0 0 true)],dt,dt,dt,.call ⟨true,[]⟩ (.int .i64 aC1) [(.row [(.sl 2 (List.map aC x5.2.1)),(.sl 3 (List.map aE x5.2.2.1)),(.mp 1),(.ref 4 2 0 0 x5.2.2.2.2.2.2.2.length .virt)]),(.map (dR .i64 (fun y=>AV.agg (aD y)) x5.2.2.2.2.2.2.1) x5.2.2.2.2.2.2.1.length),(.arr 4 (List.map aB x5.2.2.2.2.2.2.2) 0 0 true)],dt,df,dt,df]
        let w8:List Prf:=[⟨(nF cL3)⟩,⟨cL4⟩,⟨(nF cL3)⟩,⟨cL4⟩,⟨(mA k cU x5.2.1 x5.2.2.1 x5.2.2.2.2.2.2.1 x5.2.2.2.2.2.2.2 _ eL6)⟩,⟨cL4⟩,⟨cL4⟩,⟨cL4⟩,⟨(mA k cU x11.1 x11.2.1 x11.2.2.1 x11.2.2.2 _ eL5)⟩,⟨cL4⟩,⟨cL4⟩,⟨cL4⟩]++w6
        by_cases cL7:eqI aC0 aC1=true
        · rw[if_pos cL7] at h
          exact LT.next mixed (hs:=⟨[(5,[]),(20,[]),(25,[]),(27,[]),(28,[]),(173,[])],[⟨.tmp 5,[],none⟩,⟨.tmp 20,[],none⟩,⟨.tmp 25,[],none⟩,⟨.tmp 27,[],none⟩,⟨.tmp 28,[],none⟩,⟨.cell 0 2,[],none⟩,⟨.cell 0 3,[],none⟩,⟨.cell 2 2,[],none⟩,⟨.cell 2 3,[],none⟩,⟨.cell 4 2,[],none⟩,⟨.cell 4 3,[],none⟩],true,[],[]⟩) (es:=none) (u7++[df]) ([⟨(nF cL7)⟩]++w8) (by kernel_rfl) (gS x5 x9 x11 x14 y k (aH .u8 cU 1) h)
        rw[if_neg cL7] at h;replace cL7:=eqf cL7
        obtain rfl:=osi h
        show LT _ _ _ _ (.fin (.bool false) [])
        exact LT.done mixed (hs:=⟨[],[],false,[],[]⟩) (es:=none) (u7++[dt]) ([⟨(nT cL7)⟩]++w8) (by kernel_rfl) (fun s h=>by cases h)
      rw[if_neg cL4] at h;replace cL4:=eqf cL4
      exact LT.next mixed (hs:=⟨[(5,[]),(20,[]),(25,[]),(27,[]),(28,[]),(173,[])],[⟨.tmp 5,[],none⟩,⟨.tmp 20,[],none⟩,⟨.tmp 25,[],none⟩,⟨.tmp 27,[],none⟩,⟨.tmp 28,[],none⟩,⟨.cell 0 2,[],none⟩,⟨.cell 0 3,[],none⟩,⟨.cell 2 2,[],none⟩,⟨.cell 2 3,[],none⟩,⟨.cell 4 2,[],none⟩,⟨.cell 4 3,[],none⟩],true,[],[]⟩) (es:=none) (u3++[df,df,df,df,df,df,df,df,df,df,df,df,df,df,df,df,df]) ([⟨rF⟩,⟨(nF cL3)⟩,⟨cL4⟩,⟨(nF cL3)⟩,⟨cL4⟩,⟨cL4⟩,⟨cL4⟩,⟨cL4⟩,⟨cL4⟩,⟨cL4⟩,⟨cL4⟩]++w6) (by kernel_rfl) (gS x5 x9 x11 x14 y k (aH .u8 cU 1) h)
    rw[if_neg cL3] at h;replace cL3:=eqf cL3
    obtain rfl:=osi h
    show LT _ _ _ _ (.fin (.bool false) [])
    exact LT.done mixed (hs:=⟨[],[],false,[],[]⟩) (es:=none) (u3++[dt,dt,dt,dt,dt,dt,dt,dt,dt]) ([⟨rT⟩,⟨(nT cL3)⟩,⟨(nT cL3)⟩,⟨(nT cL3)⟩,⟨(nT cL3)⟩,⟨(nT cL3)⟩,⟨(nT cL3)⟩,⟨(nT cL3)⟩,⟨(nT cL3)⟩]++w4) (by kernel_rfl) (fun s h=>by cases h)
  rw[if_neg cL0] at h;replace cL0:=eqf cL0
  obtain rfl:=osi h
  show LT _ _ _ _ (.st (.exit 4) (aNB x5 x11))
  exact LT.done mixed (hs:=⟨[],[],false,[],[]⟩) (es:=(some ⟨[(25,[]),(27,[])],[⟨.tmp 25,[],none⟩,⟨.tmp 27,[],none⟩,⟨.cell 0 2,[],none⟩,⟨.cell 0 3,[],none⟩],false,[],[]⟩)) [df] [⟨cL0⟩] (by kernel_rfl) (fun s h=>by cases h)
theorem nN (x5:Int × aM × Ty8 × (List Int) × Int × Int × Ty4 × Ty7) (x7:(List (List Int)) × Int) (y:(Sum (Ty7) (Bool))):∀(k:Nat) (eZ:Int) (cI:Ty7),dB k x5 x7 eZ cI=some y→LT Tryz.prog X3 L3_1 (S3_1 x5 x7 eZ cI) (O3_1 x5 x7 y)
 | 0,eZ,cI,h=>by cases h
 | k+1,eZ,cI,h=>by
  rw[dB] at h
  by_cases cL0:ltI eZ (nI x7.1.length)=true
  · rw[if_pos cL0] at h
    by_cases cL1:inI eZ x7.1.length=true
    · rw[if_pos cL1] at h
      obtain⟨aC2,eL2,h⟩:=bsm h
      obtain⟨aP,eL3,h⟩:=bsm h
      let u9:List Ans:=[dt,.n x7.1.length,.row [(.sl 1 (List.map aJ aC2))],.call ⟨true,[]⟩ (.tup [(.agg [(.int .i64 aP.1),(.int .i64 aP.2.1),(.int .u8 aP.2.2.1),(.int .i64 aP.2.2.2.1)]),(.int .i64 aP.2.2.2.2)]) []]
      let w10:List Prf:=[⟨(aD2 k aC2 _ eL3)⟩,⟨(bX (e:=iG) eL2 1 0 1 (by decide))⟩,⟨cL1⟩,⟨(aN iG x7.1)⟩,⟨cL0⟩]
      by_cases cL4:eqI aP.2.2.2.2 0=true
      · rw[if_pos cL4] at h
        by_cases cL5:bT (((cI++[(aP.1,aP.2.1,aP.2.2.1,aP.2.2.2.1)]).length)*32)=true
        · rw[if_pos cL5] at h
          exact LT.next mixed (hs:=⟨[(5,[]),(8,[]),(20,[]),(115,[]),(116,[]),(117,[])],[⟨.tmp 5,[],none⟩,⟨.tmp 20,[],some 4⟩,⟨.cell 0 2,[],none⟩,⟨.cell 0 3,[],none⟩],false,[],[]⟩) (es:=none) (u9++[df,.rows (List.map aB [(aP.1,aP.2.1,aP.2.2.1,aP.2.2.2.1)]),.n ((cI++[(aP.1,aP.2.1,aP.2.2.1,aP.2.2.2.1)]).length),.n cI.length,dt,.rows (List.map aB (cI++[(aP.1,aP.2.1,aP.2.2.1,aP.2.2.2.1)])),.n ((cI++[(aP.1,aP.2.1,aP.2.2.1,aP.2.2.2.1)]).length),.rows (List.map aB (cI++[(aP.1,aP.2.1,aP.2.2.1,aP.2.2.2.1)]))]) ([⟨(dF aB (l:=(cI++[(aP.1,aP.2.1,aP.2.2.1,aP.2.2.2.1)])) (n:=((cI++[(aP.1,aP.2.1,aP.2.2.1,aP.2.2.2.1)]).length)) rfl)⟩,⟨(rfl:(cI++[(aP.1,aP.2.1,aP.2.2.1,aP.2.2.2.1)]).length=(cI++[(aP.1,aP.2.1,aP.2.2.1,aP.2.2.2.1)]).length)⟩,⟨(zle ((cI++[(aP.1,aP.2.1,aP.2.2.1,aP.2.2.2.1)]).length))⟩,⟨(jY aB cI [(aP.1,aP.2.1,aP.2.2.1,aP.2.2.2.1)])⟩,⟨(i5 cI.length)⟩,⟨(aN aB cI)⟩,⟨cL5⟩,⟨(by simp only[wl,List.length_map,List.map_nil,List.map_cons]<;>omega:cI.length+(List.map aB [(aP.1,aP.2.1,aP.2.2.1,aP.2.2.2.1)]).length=(cI++[(aP.1,aP.2.1,aP.2.2.1,aP.2.2.2.1)]).length)⟩,⟨(aX aB (l:=[(aP.1,aP.2.1,aP.2.2.1,aP.2.2.2.1)]) (n:=1) rfl)⟩,⟨(bP aB (Nat.le_refl 1):0+1≤(List.map aB [(aP.1,aP.2.1,aP.2.2.1,aP.2.2.2.1)]).length)⟩,⟨(nF cL4)⟩]++w10) (by kernel_rfl) (nN x5 x7 y k (aH .i64 eZ 1) (cI++[(aP.1,aP.2.1,aP.2.2.1,aP.2.2.2.1)]) h)
        rw[if_neg cL5] at h;replace cL5:=eqf cL5
        cases h
      rw[if_neg cL4] at h;replace cL4:=eqf cL4
      obtain rfl:=osi h
      show LT _ _ _ _ (.fin (.bool false) [])
      exact LT.done mixed (hs:=⟨[],[],false,[],[]⟩) (es:=none) (u9++[dt]) ([⟨(nT cL4)⟩]++w10) (by kernel_rfl) (fun s h=>by cases h)
    rw[if_neg cL1] at h;replace cL1:=eqf cL1
    cases h
  rw[if_neg cL0] at h;replace cL0:=eqf cL0
  obtain rfl:=osi h
  show LT _ _ _ _ (.st (.exit 2) (aR3 x5 cI))
  exact LT.done mixed (hs:=⟨[],[],false,[],[]⟩) (es:=(some ⟨[(5,[]),(8,[]),(20,[])],[⟨.tmp 5,[],none⟩,⟨.tmp 20,[],none⟩,⟨.cell 0 2,[],none⟩,⟨.cell 0 3,[],none⟩],false,[],[]⟩)) [df] [⟨cL0⟩] (by kernel_rfl) (fun s h=>by cases h)
theorem cO (x1:List (Int × Int × Int × Int × Bool)) (x2:Int) (y:Ty1):∀(k:Nat) (bF:Int) (cV:Int) (bH:Int) (eB:aM) (eC:Ty8) (cW:List Int) (cX:Int) (cY:Int) (d6:Ty4) (dA:Ty7),a8 k x1 x2 bF cV bH eB eC cW cX cY d6 dA=some y→LT Tryz.prog X3 L3_0 (S3_0 x1 x2 bF cV bH eB eC cW cX cY d6 dA) (O3_0 x1 x2 y)
 | 0,bF,cV,bH,eB,eC,cW,cX,cY,d6,dA,h=>by cases h
 | k+1,bF,cV,bH,eB,eC,cW,cX,cY,d6,dA,h=>by
  rw[a8] at h
  by_cases cL0:ltI bH (nI x1.length)=true
  · rw[if_pos cL0] at h
    by_cases cL1:inI bH x1.length=true
    · rw[if_pos cL1] at h
      obtain⟨aQ,eL2,h⟩:=bsm h
      let u11:List Ans:=[dt,.n x1.length,.row [(.int .u8 aQ.1),(.int .u8 aQ.2.1),(.int .u8 aQ.2.2.1),(.int .i64 aQ.2.2.2.1),(.bool aQ.2.2.2.2)],df,df,df]
      let w12:List Prf:=[⟨(rfl:eqI 4 0=false)⟩,⟨(rfl:eqI 4 0=false)⟩,⟨(rfl:eqI 8 0=false)⟩,⟨(bX (e:=fH) eL2 5 0 5 (by decide))⟩,⟨cL1⟩,⟨(aN fH x1)⟩,⟨cL0⟩]
      by_cases cL3:eqI (conv .i64 (gK .u8 aQ.1 8)) 4=true
      · rw[if_pos cL3] at h
        obtain⟨aF,eL4,h⟩:=bsm h
        let u13:List Ans:=u11++[dt,dt,dt,dt,dt,(A3_0 aF)]
        let w14:List Prf:=[⟨(nQ k (conv .i64 (gK .u8 aQ.1 8)) (conv .i64 (gK .u8 aQ.2.1 4)) (gK .u8 aQ.2.2.1 4) (aA3 .i64 aQ.2.2.2.1 3) eB eC d6 dA _ eL4)⟩,⟨rT⟩,⟨cL3⟩,⟨cL3⟩,⟨cL3⟩,⟨cL3⟩]++w12
        by_cases cL5:eqI aF.1 0=true
        · rw[if_pos cL5] at h
          obtain⟨dX,eL6,h⟩:=bsm h
          obtain⟨aR,eL7,h⟩:=bsm h
          let u15:List Ans:=u13++[df,(A3_1 dX),(A3_2 aR)]
          let w16:List Prf:=[⟨(rZ k cW cX cY dX.1 _ eL7)⟩,⟨(vV k (conv .i64 (gK .u8 aQ.1 8)) (conv .i64 (gK .u8 aQ.2.1 4)) (gK .u8 aQ.2.2.1 4) (aA3 .i64 aQ.2.2.2.1 3) _ eL6)⟩,⟨(nF cL5)⟩]++w14
          by_cases cL8:eqI dX.2 0=true
          · rw[if_pos cL8] at h
            let w18:List Prf:=[⟨(nF cL8)⟩,⟨(nF cL8)⟩,⟨(nF cL8)⟩]++w16
            by_cases cL9:eqI aR.2.2.2 0=true
            · rw[if_pos cL9] at h
              by_cases cL10:aQ.2.2.2.2=true
              · rw[if_pos cL10] at h
                obtain⟨cJ,eL11,h⟩:=bsm h
                exact LT.next mixed (hs:=⟨[(1,[]),(5,[]),(6,[]),(7,[]),(8,[]),(42,[]),(43,[]),(44,[])],[⟨.tmp 5,[],none⟩,⟨.tmp 6,[],none⟩,⟨.cell 0 2,[],none⟩,⟨.cell 0 3,[],some 4⟩],false,[],[]⟩) (es:=none) (u15++[df,df,df,df,dt,(A3_3 cJ),.n aF.2.2.2.2.2.length,(A3_4 aF)]) ([⟨(dF aB (l:=aF.2.2.2.2.2) (n:=aF.2.2.2.2.2.length) rfl)⟩,⟨(rfl:aF.2.2.2.2.2.length=aF.2.2.2.2.2.length)⟩,⟨(zle aF.2.2.2.2.2.length)⟩,⟨(rV k aR.1 aR.2.1 aR.2.2.1 _ eL11)⟩,⟨cL10⟩,⟨(nF cL9)⟩]++w18) (by kernel_rfl) (cO x1 x2 y k (aH .i64 bF 1) (aH .i64 bF 1) (aH .i64 bH 1) aF.2.2.1 aF.2.2.2.1 cJ.1 cJ.2.1 cJ.2.2 aF.2.2.2.2.1 aF.2.2.2.2.2 h)
              rw[if_neg cL10] at h;replace cL10:=eqf cL10
              exact LT.next mixed (hs:=⟨[(1,[]),(5,[]),(6,[]),(7,[]),(8,[]),(42,[]),(43,[]),(44,[])],[⟨.tmp 5,[],none⟩,⟨.tmp 6,[],none⟩,⟨.cell 0 2,[],none⟩,⟨.cell 0 3,[],some 4⟩],false,[],[]⟩) (es:=none) (u15++[df,df,df,df,df,.n aF.2.2.2.2.2.length,(A3_4 aF)]) ([⟨(dF aB (l:=aF.2.2.2.2.2) (n:=aF.2.2.2.2.2.length) rfl)⟩,⟨(rfl:aF.2.2.2.2.2.length=aF.2.2.2.2.2.length)⟩,⟨(zle aF.2.2.2.2.2.length)⟩,⟨cL10⟩,⟨(nF cL9)⟩]++w18) (by kernel_rfl) (cO x1 x2 y k (aH .i64 bF 1) cV (aH .i64 bH 1) aF.2.2.1 aF.2.2.2.1 aR.1 aR.2.1 aR.2.2.1 aF.2.2.2.2.1 aF.2.2.2.2.2 h)
            rw[if_neg cL9] at h;replace cL9:=eqf cL9
            obtain rfl:=osi h
            show LT _ _ _ _ (.fin (.bool false) [])
            exact LT.done mixed (hs:=⟨[],[],false,[],[]⟩) (es:=none) (u15++[df,df,df,dt]) ([⟨(nT cL9)⟩]++w18) (by kernel_rfl) (fun s h=>by cases h)
          rw[if_neg cL8] at h;replace cL8:=eqf cL8
          obtain rfl:=osi h
          show LT _ _ _ _ (.fin (.bool false) [])
          exact LT.done mixed (hs:=⟨[],[],false,[],[]⟩) (es:=none) (u15++[dt,dt,dt,dt]) ([⟨rT⟩,⟨(nT cL8)⟩,⟨(nT cL8)⟩,⟨(nT cL8)⟩]++w16) (by kernel_rfl) (fun s h=>by cases h)
        rw[if_neg cL5] at h;replace cL5:=eqf cL5
        exact LT.next mixed (hs:=⟨[(1,[]),(5,[]),(6,[]),(7,[]),(8,[]),(42,[]),(43,[]),(44,[])],[⟨.tmp 5,[],none⟩,⟨.tmp 6,[],none⟩,⟨.cell 0 2,[],none⟩,⟨.cell 0 3,[],some 4⟩],false,[],[]⟩) (es:=none) (u13++[dt,.n aF.2.2.2.2.2.length,(A3_4 aF)]) ([⟨(dF aB (l:=aF.2.2.2.2.2) (n:=aF.2.2.2.2.2.length) rfl)⟩,⟨(rfl:aF.2.2.2.2.2.length=aF.2.2.2.2.2.length)⟩,⟨(zle aF.2.2.2.2.2.length)⟩,⟨(nT cL5)⟩]++w14) (by kernel_rfl) (cO x1 x2 y k bF cV (aH .i64 bH 1) aF.2.2.1 aF.2.2.2.1 cW cX cY aF.2.2.2.2.1 aF.2.2.2.2.2 h)
      rw[if_neg cL3] at h;replace cL3:=eqf cL3
      by_cases cL4:eqI (conv .i64 (gK .u8 aQ.1 8)) 6=true
      · rw[if_pos cL4] at h
        obtain⟨aF,eL5,h⟩:=bsm h
        let u23:List Ans:=u11++[df,df,df,df,dt,(A3_0 aF)]
        let w24:List Prf:=[⟨(nQ k (conv .i64 (gK .u8 aQ.1 8)) (conv .i64 (gK .u8 aQ.2.1 4)) (gK .u8 aQ.2.2.1 4) (aA3 .i64 aQ.2.2.2.1 3) eB eC d6 dA _ eL5)⟩,⟨cL4⟩,⟨cL3⟩,⟨cL3⟩,⟨cL3⟩,⟨cL3⟩]++w12
        by_cases cL6:eqI aF.1 0=true
        · rw[if_pos cL6] at h
          obtain⟨dX,eL7,h⟩:=bsm h
          obtain⟨aR,eL8,h⟩:=bsm h
          let u25:List Ans:=u23++[df,(A3_1 dX),(A3_2 aR)]
          let w26:List Prf:=[⟨(rZ k cW cX cY dX.1 _ eL8)⟩,⟨(vV k (conv .i64 (gK .u8 aQ.1 8)) (conv .i64 (gK .u8 aQ.2.1 4)) (gK .u8 aQ.2.2.1 4) (aA3 .i64 aQ.2.2.2.1 3) _ eL7)⟩,⟨(nF cL6)⟩]++w24
          by_cases cL9:eqI dX.2 0=true
          · rw[if_pos cL9] at h
            let w28:List Prf:=[⟨(nF cL9)⟩,⟨(nF cL9)⟩,⟨(nF cL9)⟩]++w26
            by_cases cL10:eqI aR.2.2.2 0=true
            · rw[if_pos cL10] at h
              by_cases cL11:aQ.2.2.2.2=true
              · rw[if_pos cL11] at h
                obtain⟨cJ,eL12,h⟩:=bsm h
                exact LT.next mixed (hs:=⟨[(1,[]),(5,[]),(6,[]),(7,[]),(8,[]),(42,[]),(43,[]),(44,[])],[⟨.tmp 5,[],none⟩,⟨.tmp 6,[],none⟩,⟨.cell 0 2,[],none⟩,⟨.cell 0 3,[],some 4⟩],false,[],[]⟩) (es:=none) (u25++[df,df,df,df,dt,(A3_3 cJ),.n aF.2.2.2.2.2.length,(A3_4 aF)]) ([⟨(dF aB (l:=aF.2.2.2.2.2) (n:=aF.2.2.2.2.2.length) rfl)⟩,⟨(rfl:aF.2.2.2.2.2.length=aF.2.2.2.2.2.length)⟩,⟨(zle aF.2.2.2.2.2.length)⟩,⟨(rV k aR.1 aR.2.1 aR.2.2.1 _ eL12)⟩,⟨cL11⟩,⟨(nF cL10)⟩]++w28) (by kernel_rfl) (cO x1 x2 y k (aH .i64 bF 1) (aH .i64 bF 1) (aH .i64 bH 1) aF.2.2.1 aF.2.2.2.1 cJ.1 cJ.2.1 cJ.2.2 aF.2.2.2.2.1 aF.2.2.2.2.2 h)
              rw[if_neg cL11] at h;replace cL11:=eqf cL11
              exact LT.next mixed (hs:=⟨[(1,[]),(5,[]),(6,[]),(7,[]),(8,[]),(42,[]),(43,[]),(44,[])],[⟨.tmp 5,[],none⟩,⟨.tmp 6,[],none⟩,⟨.cell 0 2,[],none⟩,⟨.cell 0 3,[],some 4⟩],false,[],[]⟩) (es:=none) (u25++[df,df,df,df,df,.n aF.2.2.2.2.2.length,(A3_4 aF)]) ([⟨(dF aB (l:=aF.2.2.2.2.2) (n:=aF.2.2.2.2.2.length) rfl)⟩,⟨(rfl:aF.2.2.2.2.2.length=aF.2.2.2.2.2.length)⟩,⟨(zle aF.2.2.2.2.2.length)⟩,⟨cL11⟩,⟨(nF cL10)⟩]++w28) (by kernel_rfl) (cO x1 x2 y k (aH .i64 bF 1) cV (aH .i64 bH 1) aF.2.2.1 aF.2.2.2.1 aR.1 aR.2.1 aR.2.2.1 aF.2.2.2.2.1 aF.2.2.2.2.2 h)
            rw[if_neg cL10] at h;replace cL10:=eqf cL10
            obtain rfl:=osi h
            show LT _ _ _ _ (.fin (.bool false) [])
            exact LT.done mixed (hs:=⟨[],[],false,[],[]⟩) (es:=none) (u25++[df,df,df,dt]) ([⟨(nT cL10)⟩]++w28) (by kernel_rfl) (fun s h=>by cases h)
          rw[if_neg cL9] at h;replace cL9:=eqf cL9
          obtain rfl:=osi h
          show LT _ _ _ _ (.fin (.bool false) [])
          exact LT.done mixed (hs:=⟨[],[],false,[],[]⟩) (es:=none) (u25++[dt,dt,dt,dt]) ([⟨rT⟩,⟨(nT cL9)⟩,⟨(nT cL9)⟩,⟨(nT cL9)⟩]++w26) (by kernel_rfl) (fun s h=>by cases h)
        rw[if_neg cL6] at h;replace cL6:=eqf cL6
        exact LT.next mixed (hs:=⟨[(1,[]),(5,[]),(6,[]),(7,[]),(8,[]),(42,[]),(43,[]),(44,[])],[⟨.tmp 5,[],none⟩,⟨.tmp 6,[],none⟩,⟨.cell 0 2,[],none⟩,⟨.cell 0 3,[],some 4⟩],false,[],[]⟩) (es:=none) (u23++[dt,.n aF.2.2.2.2.2.length,(A3_4 aF)]) ([⟨(dF aB (l:=aF.2.2.2.2.2) (n:=aF.2.2.2.2.2.length) rfl)⟩,⟨(rfl:aF.2.2.2.2.2.length=aF.2.2.2.2.2.length)⟩,⟨(zle aF.2.2.2.2.2.length)⟩,⟨(nT cL6)⟩]++w24) (by kernel_rfl) (cO x1 x2 y k bF cV (aH .i64 bH 1) aF.2.2.1 aF.2.2.2.1 cW cX cY aF.2.2.2.2.1 aF.2.2.2.2.2 h)
      rw[if_neg cL4] at h;replace cL4:=eqf cL4
      obtain⟨aF,eL5,h⟩:=bsm h
      let u31:List Ans:=u11++[df,df,df,df,df,(A3_0 aF)]
      let w32:List Prf:=[⟨(nQ k (conv .i64 (gK .u8 aQ.1 8)) (conv .i64 (gK .u8 aQ.2.1 4)) (gK .u8 aQ.2.2.1 4) aQ.2.2.2.1 eB eC d6 dA _ eL5)⟩,⟨cL4⟩,⟨cL3⟩,⟨cL3⟩,⟨cL3⟩,⟨cL3⟩]++w12
      by_cases cL6:eqI aF.1 0=true
      · rw[if_pos cL6] at h
        obtain⟨dX,eL7,h⟩:=bsm h
        obtain⟨aR,eL8,h⟩:=bsm h
        let u33:List Ans:=u31++[df,(A3_1 dX),(A3_2 aR)]
        let w34:List Prf:=[⟨(rZ k cW cX cY dX.1 _ eL8)⟩,⟨(vV k (conv .i64 (gK .u8 aQ.1 8)) (conv .i64 (gK .u8 aQ.2.1 4)) (gK .u8 aQ.2.2.1 4) aQ.2.2.2.1 _ eL7)⟩,⟨(nF cL6)⟩]++w32
        by_cases cL9:eqI dX.2 0=true
        · rw[if_pos cL9] at h
          let w36:List Prf:=[⟨(nF cL9)⟩,⟨(nF cL9)⟩,⟨(nF cL9)⟩]++w34
          by_cases cL10:eqI aR.2.2.2 0=true
          · rw[if_pos cL10] at h
            by_cases cL11:aQ.2.2.2.2=true
            · rw[if_pos cL11] at h
              obtain⟨cJ,eL12,h⟩:=bsm h
              exact LT.next mixed (hs:=⟨[(1,[]),(5,[]),(6,[]),(7,[]),(8,[]),(42,[]),(43,[]),(44,[])],[⟨.tmp 5,[],none⟩,⟨.tmp 6,[],none⟩,⟨.cell 0 2,[],none⟩,⟨.cell 0 3,[],some 4⟩],false,[],[]⟩) (es:=none) (u33++[df,df,df,df,dt,(A3_3 cJ),.n aF.2.2.2.2.2.length,(A3_4 aF)]) ([⟨(dF aB (l:=aF.2.2.2.2.2) (n:=aF.2.2.2.2.2.length) rfl)⟩,⟨(rfl:aF.2.2.2.2.2.length=aF.2.2.2.2.2.length)⟩,⟨(zle aF.2.2.2.2.2.length)⟩,⟨(rV k aR.1 aR.2.1 aR.2.2.1 _ eL12)⟩,⟨cL11⟩,⟨(nF cL10)⟩]++w36) (by kernel_rfl) (cO x1 x2 y k (aH .i64 bF 1) (aH .i64 bF 1) (aH .i64 bH 1) aF.2.2.1 aF.2.2.2.1 cJ.1 cJ.2.1 cJ.2.2 aF.2.2.2.2.1 aF.2.2.2.2.2 h)
            rw[if_neg cL11] at h;replace cL11:=eqf cL11
            exact LT.next mixed (hs:=⟨[(1,[]),(5,[]),(6,[]),(7,[]),(8,[]),(42,[]),(43,[]),(44,[])],[⟨.tmp 5,[],none⟩,⟨.tmp 6,[],none⟩,⟨.cell 0 2,[],none⟩,⟨.cell 0 3,[],some 4⟩],false,[],[]⟩) (es:=none) (u33++[df,df,df,df,df,.n aF.2.2.2.2.2.length,(A3_4 aF)]) ([⟨(dF aB (l:=aF.2.2.2.2.2) (n:=aF.2.2.2.2.2.length) rfl)⟩,⟨(rfl:aF.2.2.2.2.2.length=aF.2.2.2.2.2.length)⟩,⟨(zle aF.2.2.2.2.2.length)⟩,⟨cL11⟩,⟨(nF cL10)⟩]++w36) (by kernel_rfl) (cO x1 x2 y k (aH .i64 bF 1) cV (aH .i64 bH 1) aF.2.2.1 aF.2.2.2.1 aR.1 aR.2.1 aR.2.2.1 aF.2.2.2.2.1 aF.2.2.2.2.2 h)
          rw[if_neg cL10] at h;replace cL10:=eqf cL10
          obtain rfl:=osi h
          show LT _ _ _ _ (.fin (.bool false) [])
          exact LT.done mixed (hs:=⟨[],[],false,[],[]⟩) (es:=none) (u33++[df,df,df,dt]) ([⟨(nT cL10)⟩]++w36) (by kernel_rfl) (fun s h=>by cases h)
        rw[if_neg cL9] at h;replace cL9:=eqf cL9
        obtain rfl:=osi h
        show LT _ _ _ _ (.fin (.bool false) [])
        exact LT.done mixed (hs:=⟨[],[],false,[],[]⟩) (es:=none) (u33++[dt,dt,dt,dt]) ([⟨rT⟩,⟨(nT cL9)⟩,⟨(nT cL9)⟩,⟨(nT cL9)⟩]++w34) (by kernel_rfl) (fun s h=>by cases h)
      rw[if_neg cL6] at h;replace cL6:=eqf cL6
      exact LT.next mixed (hs:=⟨[(1,[]),(5,[]),(6,[]),(7,[]),(8,[]),(42,[]),(43,[]),(44,[])],[⟨.tmp 5,[],none⟩,⟨.tmp 6,[],none⟩,⟨.cell 0 2,[],none⟩,⟨.cell 0 3,[],some 4⟩],false,[],[]⟩) (es:=none) (u31++[dt,.n aF.2.2.2.2.2.length,(A3_4 aF)]) ([⟨(dF aB (l:=aF.2.2.2.2.2) (n:=aF.2.2.2.2.2.length) rfl)⟩,⟨(rfl:aF.2.2.2.2.2.length=aF.2.2.2.2.2.length)⟩,⟨(zle aF.2.2.2.2.2.length)⟩,⟨(nT cL6)⟩]++w32) (by kernel_rfl) (cO x1 x2 y k bF cV (aH .i64 bH 1) aF.2.2.1 aF.2.2.2.1 cW cX cY aF.2.2.2.2.1 aF.2.2.2.2.2 h)
    rw[if_neg cL1] at h;replace cL1:=eqf cL1
    cases h
  rw[if_neg cL0] at h;replace cL0:=eqf cL0
  obtain rfl:=osi h
  show LT _ _ _ _ (.st (.exit 0) (aSO x2 cV eB eC cW cX cY d6 dA))
  exact LT.done mixed (hs:=⟨[],[],false,[],[]⟩) (es:=(some ⟨[(1,[]),(5,[]),(6,[]),(8,[])],[⟨.tmp 5,[],none⟩,⟨.tmp 6,[],none⟩,⟨.cell 0 2,[],none⟩,⟨.cell 0 3,[],none⟩],false,[],[]⟩)) [df] [⟨cL0⟩] (by kernel_rfl) (fun s h=>by cases h)
theorem aE5 (k:Nat) (x1:List (Int × Int × Int × Int × Bool)) (x2:Int) (r:Bool) (h:mT k x1 x2=some r):Tri Tryz.prog 3 [(.sl 5 (List.map fH x1)),(.int .u16 x2)] [] (.bool r) []:=by
 unfold mT at h
 let w40:List Prf:=[⟨(aN fH x1)⟩]
 by_cases c0:ltI 60 (nI x1.length)=true
 · rw[if_pos c0] at h
   obtain⟨x3,e1,h⟩:=bsm h
   obtain rfl:=osi h
   exact Tri.of (x:=X3) mixed qP [.n x1.length,dt,dt,dt,dt,.call ⟨true,[]⟩ (.bool x3) []] ([⟨(zV k _ e1)⟩,⟨rT⟩,⟨c0⟩,⟨c0⟩,⟨c0⟩]++w40) (by kernel_rfl)
 rw[if_neg c0] at h;replace c0:=eqf c0
 obtain⟨x3,e1,h⟩:=bsm h
 let u41:List Ans:=[.n x1.length,df,.call ⟨true,[]⟩ (.bool x3) [],df,df]
 let w42:List Prf:=[⟨c0⟩,⟨c0⟩,⟨(zV k _ e1)⟩,⟨c0⟩]++w40
 by_cases c2:x3=true
 · rw[if_pos c2] at h
   let u43:List Ans:=u41++[df,.call ⟨true,[]⟩ (.hp 0 0) [(.row [.nils,.nils,(.mp 1),.nils]),(.map (dR .i64 (fun y=>AV.agg (aD y)) ([]:Ty4)) ([]:Ty4).length)],.n x1.length,.norm 2 ⟨[(1,[]),(5,[]),(6,[]),(7,[]),(8,[]),(42,[]),(43,[]),(44,[])],[⟨.tmp 5,[(0,2),(1,3)],none⟩,⟨.tmp 6,[(0,1)],none⟩,⟨.cell 0 2,[],none⟩,⟨.cell 0 3,[],some 4⟩],false,[],[]⟩,.n 0,.rows (List.map aB [])]
   let w44:List Prf:=[⟨(dF aB (l:=[]) (n:=0) rfl)⟩,⟨(rfl:0=0)⟩,⟨(zle 0)⟩,⟨(aN fH x1)⟩,⟨(aB5)⟩,⟨(nF c2)⟩]++w42
   obtain⟨x4,e3,h⟩:=bsm h
   cases x4 with
   | inl x5 =>
    simp only[Sum.elim_inl] at h
    obtain⟨x6,e5,h⟩:=bsm h
    obtain⟨x7,e6,h⟩:=bsm h
    let u45:List Ans:=u43++[.out (.st .normal (aSO x2 x5.1 x5.2.1 x5.2.2.1 x5.2.2.2.1 x5.2.2.2.2.1 x5.2.2.2.2.2.1 x5.2.2.2.2.2.2.1 x5.2.2.2.2.2.2.2)),.call ⟨true,[]⟩ (.agg [(.sl 1 (List.map aJ x6.1)),(.int .i64 x6.2.1),(.int .i64 x6.2.2)]) [],.call ⟨true,[]⟩ (.tup [(.sl 1 (List.map iG x7.1)),(.int .i64 x7.2)]) [],.n x7.1.length,.norm 8 ⟨[(5,[]),(8,[]),(20,[]),(115,[]),(116,[]),(117,[])],[⟨.tmp 5,[],none⟩,⟨.tmp 20,[],some 4⟩,⟨.cell 0 2,[],none⟩,⟨.cell 0 3,[],none⟩],false,[],[]⟩,.n 0,.rows (List.map aB [])]
    let w46:List Prf:=[⟨(dF aB (l:=[]) (n:=0) rfl)⟩,⟨(rfl:0=0)⟩,⟨(zle 0)⟩,⟨(aN iG x7.1)⟩,⟨(aAP k x6.1 x6.2.1 x6.2.2 _ e6)⟩,⟨(aD6 k x5.2.2.2.1 x5.2.2.2.2.1 x5.2.2.2.2.2.1 x2 _ e5)⟩,⟨(LT.block (cO x1 x2 _ k 0 0 0 [] [] [] 0 1048576 ([]:Ty4) [] e3))⟩]++w44
    obtain⟨x8,e7,h⟩:=bsm h
    cases x8 with
    | inl x9 =>
     simp only[Sum.elim_inl] at h
     let u47:List Ans:=u45++[.out (.st .normal (aR3 x5 x9))]
     let w48:List Prf:=[⟨(aX aB (l:=x9) (n:=x9.length) rfl)⟩,⟨(bP aB (Nat.le_refl x9.length):0+x9.length≤(List.map aB x9).length)⟩,⟨(LT.block (nN x5 x7 _ k 0 [] e7))⟩]++w46
     obtain⟨x10,e9,h⟩:=bsm h
     cases x10 with
     | inl x11 =>
      simp only[Sum.elim_inl] at h
      obtain⟨x12,e11,h⟩:=bsm h
      let u49:List Ans:=u47++[.call ⟨true,[]⟩ (.tup [(.hp 0 0),(.int .i64 0)]) [(.row [(.sl 2 (List.map aC x11.1)),(.sl 3 (List.map aE x11.2.1)),(.mp 1),(.ref 4 2 0 0 x11.2.2.2.length .virt)]),(.map (dR .i64 (fun y=>AV.agg (aD y)) x11.2.2.1) x11.2.2.1.length),(.arr 4 (List.map aB x11.2.2.2) 0 0 false)],.rows (List.map aB x9),(A3_5 x5),df,df,df,df,df,df,df,df]
      let w50:List Prf:=[⟨rF⟩,⟨rF⟩,⟨rF⟩,⟨rF⟩,⟨rF⟩,⟨(nF (rfl:eqI 0 0=true))⟩,⟨(nF (rfl:eqI 0 0=true))⟩,⟨(nF (rfl:eqI 0 0=true))⟩,⟨(zB k x5.2.1 x5.2.2.1 x5.2.2.2.2.2.2.1 x5.2.2.2.2.2.2.2 _ e11)⟩,⟨(lT k x9 (.inl x11) e9)⟩]++w48
      by_cases c12:ltI (nI x9.length) x5.1=true
      · rw[if_pos c12] at h
        obtain rfl:=osi h
        exact Tri.of (x:=X3) mixed qP (u49++[dt,dt,dt,dt,dt,dt,dt]) ([⟨rT⟩,⟨c12⟩,⟨c12⟩,⟨c12⟩,⟨c12⟩,⟨c12⟩,⟨c12⟩]++w50) (by kernel_rfl)
      rw[if_neg c12] at h;replace c12:=eqf c12
      let w52:List Prf:=[⟨c12⟩,⟨c12⟩,⟨c12⟩,⟨c12⟩,⟨c12⟩,⟨c12⟩]++w50
      by_cases c13:ltI (nI x5.2.2.2.2.2.2.2.length) (nI x9.length)=true
      · rw[if_pos c13] at h
        obtain rfl:=osi h
        exact Tri.of (x:=X3) mixed qP (u49++[df,df,df,df,df,df,dt]) ([⟨c13⟩]++w52) (by kernel_rfl)
      rw[if_neg c13] at h;replace c13:=eqf c13
      by_cases c14:isZ x5.2.2.2.2.2.2.2.length=true
      · rw[if_pos c14] at h
        by_cases c15:leI (nI x9.length) 0=true
        · rw[if_pos c15] at h
          let u55:List Ans:=u49++[df,df,df,df,df,df,df,dt,.n 0,.rows (List.map aB [])]
          let w56:List Prf:=[⟨(by simp:(((List.map aB [])).drop 0).take (x9.length - 0)=(List.map aB []))⟩,⟨c15⟩,⟨(rfl:(List.map aB []).length=0)⟩,⟨c14⟩,⟨c13⟩]++w52
          obtain⟨x13,e16,h⟩:=bsm h
          cases x13 with
          | inl x14 =>
           simp only[Sum.elim_inl] at h
           let u57:List Ans:=u55++[(A3_6 x14),df,df,df,df,A3_7]
           let w58:List Prf:=[⟨rF⟩,⟨(nF (rfl:eqI 0 0=true))⟩,⟨(nF (rfl:eqI 0 0=true))⟩,⟨(nF (rfl:eqI 0 0=true))⟩,⟨(lT k [] (.inl x14) e16)⟩]++w56
           obtain⟨x15,e18,h⟩:=bsm h
           cases x15 with
           | inl x16 =>
            simp only[Sum.elim_inl] at h
            obtain⟨x17,e20,h⟩:=bsm h
            let u59:List Ans:=u57++[.out (.st .normal (aNB x5 x11)),(A3_8 x11),A3_9]
            let w60:List Prf:=[⟨(wY k x11.1 x11.2.1 x11.2.2.1 x11.2.2.2 _ e20)⟩,⟨(LT.block (gS x5 x9 x11 x14 _ k 0 e18))⟩]++w58
            obtain⟨x18,e21,h⟩:=bsm h
            cases x18 with
            | inl x19 =>
             simp only[Sum.elim_inl] at h
             obtain rfl:=osi h
             exact Tri.of (x:=X3) mixed qP (u59++[.out (.st .normal (aO8))]) ([⟨(LT.block (iZ x5 x11 _ k 0 e21))⟩]++w60) (by kernel_rfl)
            | inr x19 =>
             simp only[Sum.elim_inr] at h
             obtain rfl:=osi h
             exact Tri.of (x:=X3) mixed qP (u59++[.out (.fin (.bool x19) [])]) ([⟨(LT.blockFin (id:=6) (iZ x5 x11 _ k 0 e21))⟩]++w60) (by kernel_rfl)
           | inr x16 =>
            simp only[Sum.elim_inr] at h
            obtain rfl:=osi h
            exact Tri.of (x:=X3) mixed qP (u57++[.out (.fin (.bool x16) [])]) ([⟨(LT.blockFin (id:=4) (gS x5 x9 x11 x14 _ k 0 e18))⟩]++w58) (by kernel_rfl)
          | inr x14 =>
           simp only[Sum.elim_inr] at h
           obtain rfl:=osi h
           exact Tri.of (x:=X3) mixed qP (u55++[A3_10,dt,dt,dt,dt]) ([⟨rT⟩,⟨(nT (rfl:eqI 4 0=false))⟩,⟨(nT (rfl:eqI 4 0=false))⟩,⟨(nT (rfl:eqI 4 0=false))⟩,⟨(lT k [] (.inr x14) e16)⟩]++w56) (by kernel_rfl)
        rw[if_neg c15] at h;replace c15:=eqf c15
        cases h
      rw[if_neg c14] at h;replace c14:=eqf c14
      by_cases c15:leI (nI x9.length) x5.2.2.2.2.2.2.2.length=true
      · rw[if_pos c15] at h
        by_cases c16:qV x9.length x5.2.2.2.2.2.2.2.length=true
        · rw[if_pos c16] at h
          let u61:List Ans:=u49++[df,df,df,df,df,df,df,df,.n x5.2.2.2.2.2.2.2.length,.n x5.2.2.2.2.2.2.2.length,.n 0,.n x9.length]
          let w62:List Prf:=[⟨(aL1 aB x5.2.2.2.2.2.2.2 x9.length)⟩,⟨(bP aB (aHA c16))⟩,⟨(rfl:x9.length - 0=x9.length)⟩,⟨((Nat.zero_add _):0+0=0)⟩,⟨c15⟩,⟨(rfl:x5.2.2.2.2.2.2.2.length - 0=x5.2.2.2.2.2.2.2.length)⟩,⟨(aIT (Nat.le_refl _:x5.2.2.2.2.2.2.2.length≤x5.2.2.2.2.2.2.2.length))⟩,⟨(aN aB x5.2.2.2.2.2.2.2)⟩,⟨c14⟩,⟨c13⟩]++w52
          obtain⟨x13,e17,h⟩:=bsm h
          cases x13 with
          | inl x14 =>
           simp only[Sum.elim_inl] at h
           let u63:List Ans:=u61++[(A3_6 x14),.rows (List.map aB (List.take x9.length x5.2.2.2.2.2.2.2)),df,df,df,df,A3_7]
           let w64:List Prf:=[⟨rF⟩,⟨(nF (rfl:eqI 0 0=true))⟩,⟨(nF (rfl:eqI 0 0=true))⟩,⟨(nF (rfl:eqI 0 0=true))⟩,⟨(lT k (List.take x9.length x5.2.2.2.2.2.2.2) (.inl x14) e17)⟩]++w62
           obtain⟨x15,e19,h⟩:=bsm h
           cases x15 with
           | inl x16 =>
            simp only[Sum.elim_inl] at h
            obtain⟨x17,e21,h⟩:=bsm h
            let u65:List Ans:=u63++[.out (.st .normal (aNB x5 x11)),(A3_8 x11),A3_9]
            let w66:List Prf:=[⟨(wY k x11.1 x11.2.1 x11.2.2.1 x11.2.2.2 _ e21)⟩,⟨(LT.block (gS x5 x9 x11 x14 _ k 0 e19))⟩]++w64
            obtain⟨x18,e22,h⟩:=bsm h
            cases x18 with
            | inl x19 =>
             simp only[Sum.elim_inl] at h
             obtain rfl:=osi h
             exact Tri.of (x:=X3) mixed qP (u65++[.out (.st .normal (aO8))]) ([⟨(LT.block (iZ x5 x11 _ k 0 e22))⟩]++w66) (by kernel_rfl)
            | inr x19 =>
             simp only[Sum.elim_inr] at h
             obtain rfl:=osi h
             exact Tri.of (x:=X3) mixed qP (u65++[.out (.fin (.bool x19) [])]) ([⟨(LT.blockFin (id:=6) (iZ x5 x11 _ k 0 e22))⟩]++w66) (by kernel_rfl)
           | inr x16 =>
            simp only[Sum.elim_inr] at h
            obtain rfl:=osi h
            exact Tri.of (x:=X3) mixed qP (u63++[.out (.fin (.bool x16) [])]) ([⟨(LT.blockFin (id:=4) (gS x5 x9 x11 x14 _ k 0 e19))⟩]++w64) (by kernel_rfl)
          | inr x14 =>
           simp only[Sum.elim_inr] at h
           obtain rfl:=osi h
           exact Tri.of (x:=X3) mixed qP (u61++[A3_10,.rows (List.map aB (List.take x9.length x5.2.2.2.2.2.2.2)),dt,dt,dt,dt]) ([⟨rT⟩,⟨(nT (rfl:eqI 4 0=false))⟩,⟨(nT (rfl:eqI 4 0=false))⟩,⟨(nT (rfl:eqI 4 0=false))⟩,⟨(lT k (List.take x9.length x5.2.2.2.2.2.2.2) (.inr x14) e17)⟩]++w62) (by kernel_rfl)
        rw[if_neg c16] at h;replace c16:=eqf c16
        cases h
      rw[if_neg c15] at h;replace c15:=eqf c15
      cases h
     | inr x11 =>
      simp only[Sum.elim_inr] at h
      obtain⟨x12,e11,h⟩:=bsm h
      obtain rfl:=osi h
      exact Tri.of (x:=X3) mixed qP (u47++[A3_10,.rows (List.map aB x9),(A3_5 x5),dt,dt,dt,dt,dt,dt,dt,dt,dt,dt,dt,dt,dt,dt,dt]) ([⟨rT⟩,⟨rT⟩,⟨rT⟩,⟨rT⟩,⟨rT⟩,⟨rT⟩,⟨rT⟩,⟨rT⟩,⟨rT⟩,⟨rT⟩,⟨rT⟩,⟨rT⟩,⟨(nT (rfl:eqI 4 0=false))⟩,⟨(nT (rfl:eqI 4 0=false))⟩,⟨(nT (rfl:eqI 4 0=false))⟩,⟨(zB k x5.2.1 x5.2.2.1 x5.2.2.2.2.2.2.1 x5.2.2.2.2.2.2.2 _ e11)⟩,⟨(lT k x9 (.inr x11) e9)⟩]++w48) (by kernel_rfl)
    | inr x9 =>
     simp only[Sum.elim_inr] at h
     obtain rfl:=osi h
     exact Tri.of (x:=X3) mixed qP (u45++[.out (.fin (.bool x9) [])]) ([⟨(LT.blockFin (id:=2) (nN x5 x7 _ k 0 [] e7))⟩]++w46) (by kernel_rfl)
   | inr x5 =>
    simp only[Sum.elim_inr] at h
    obtain rfl:=osi h
    exact Tri.of (x:=X3) mixed qP (u43++[.out (.fin (.bool x5) [])]) ([⟨(LT.blockFin (id:=0) (cO x1 x2 _ k 0 0 0 [] [] [] 0 1048576 ([]:Ty4) [] e3))⟩]++w44) (by kernel_rfl)
 rw[if_neg c2] at h;replace c2:=eqf c2
 obtain⟨x4,e3,h⟩:=bsm h
 obtain rfl:=osi h
 exact Tri.of (x:=X3) mixed qP (u41++[dt,.call ⟨true,[]⟩ (.bool x4) []]) ([⟨(zV k _ e3)⟩,⟨(nT c2)⟩]++w42) (by kernel_rfl)
end Go.Ws
