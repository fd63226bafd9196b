/-
  Walks, merged.
  Conditions: none.
-/
import Derived.Test.YtojldadifhneeaaZPre
import Derived.Test.YtojldadifhneeaaZPure
import Derived.Test.YtojldadifhneeaaZWGSiteActs0
set_option linter.unusedVariables false
set_option linter.unusedSimpArgs false
namespace Go.Ws
open Go.Proofs
set_option linter.unusedSimpArgs false
set_option linter.unusedVariables false
set_option maxRecDepth 1000000
set_option maxHeartbeats 4000000
noncomputable def X54:Ctx:=⟨Try.f54,[],true⟩
theorem aFT (k:Nat) (x1:Int) (x2:aL) (x3:Bool) (x4:Int) (x5:Int) (x6:Int) (r:Int × aL × Bool × Int × Int) (h:wA k x1 x2 x3 x4 x5 x6=some r):Tri Try.prog 54 [(.agg [(.int .i64 x1),(.sl 2 (List.map aB x2)),(.bool x3),(.int .i64 x4)]),(.agg [(.int .u8 x5),(.int .i64 x6)])] [] (.tup [(.agg [(.int .i64 r.1),(.sl 2 (List.map aB r.2.1)),(.bool r.2.2.1),(.int .i64 r.2.2.2.1)]),(.int .i64 r.2.2.2.2)]) []:=by
 unfold wA at h
 obtain⟨x7,e0,h⟩:=bsm h
 by_cases c1:x7=true
 · rw[if_pos c1] at h
   by_cases c2:ltI x5 64=true
   · rw[if_pos c2] at h
     by_cases c3:eqI x1 0=true
     · rw[if_pos c3] at h
       by_cases c4:ltI (nI x2.length) 50=true
       · rw[if_pos c4] at h
         by_cases c5:bJ (x2.length*16)=true
         · rw[if_pos c5] at h
           by_cases c6:bJ (((x2++[(x5,x6)]).length)*16)=true
           · rw[if_pos c6] at h
             obtain rfl:=osi h
             exact Tri.of (x:=X54) aK aF3 [.call ⟨true,[]⟩ (.bool x7) [],df,df,df,df,df,df,.n x2.length,df,.n x2.length,.rows (List.map aB [(x5,x6)]),.n ((x2++[(x5,x6)]).length),.n x2.length,dt,.rows (List.map aB (x2++[(x5,x6)])),.rows (List.map aB (x2++[(x5,x6)]))] [⟨(aS aB (l:=(x2++[(x5,x6)])) (n:=((x2++[(x5,x6)]).length)) rfl)⟩,⟨(bB aB (Nat.le_refl ((x2++[(x5,x6)]).length)):0+(x2++[(x5,x6)]).length≤(List.map aB (x2++[(x5,x6)])).length)⟩,⟨(gQ aB x2 [(x5,x6)])⟩,⟨(eX x2.length)⟩,⟨(aG aB x2)⟩,⟨c6⟩,⟨(by simp only[wl,List.length_map,List.map_nil,List.map_cons]<;>omega:x2.length+(List.map aB [(x5,x6)]).length=(x2++[(x5,x6)]).length)⟩,⟨(aS aB (l:=[(x5,x6)]) (n:=1) rfl)⟩,⟨(bB aB (Nat.le_refl 1):0+1≤(List.map aB [(x5,x6)]).length)⟩,⟨c5⟩,⟨(aG aB x2)⟩,⟨(nF c4)⟩,⟨(aG aB x2)⟩,⟨(nF c3)⟩,⟨(nF c2)⟩,⟨(nF c1)⟩,⟨(nF c1)⟩,⟨(nF c1)⟩,⟨(nF c1)⟩,⟨(bN k x1 x2 x3 x4 _ e0)⟩] (by kernel_rfl)
           rw[if_neg c6] at h;replace c6:=eqf c6
           cases h
         rw[if_neg c5] at h;replace c5:=eqf c5
         cases h
       rw[if_neg c4] at h;replace c4:=eqf c4
       obtain rfl:=osi h
       exact Tri.of (x:=X54) aK aF3 [.call ⟨true,[]⟩ (.bool x7) [],df,df,df,df,df,df,.n x2.length,dt] [⟨(nT c4)⟩,⟨(aG aB x2)⟩,⟨(nF c3)⟩,⟨(nF c2)⟩,⟨(nF c1)⟩,⟨(nF c1)⟩,⟨(nF c1)⟩,⟨(nF c1)⟩,⟨(bN k x1 x2 x3 x4 _ e0)⟩] (by kernel_rfl)
     rw[if_neg c3] at h;replace c3:=eqf c3
     obtain rfl:=osi h
     exact Tri.of (x:=X54) aK aF3 [.call ⟨true,[]⟩ (.bool x7) [],df,df,df,df,df,dt] [⟨(nT c3)⟩,⟨(nF c2)⟩,⟨(nF c1)⟩,⟨(nF c1)⟩,⟨(nF c1)⟩,⟨(nF c1)⟩,⟨(bN k x1 x2 x3 x4 _ e0)⟩] (by kernel_rfl)
   rw[if_neg c2] at h;replace c2:=eqf c2
   obtain rfl:=osi h
   exact Tri.of (x:=X54) aK aF3 [.call ⟨true,[]⟩ (.bool x7) [],df,df,df,df,dt] [⟨(nT c2)⟩,⟨(nF c1)⟩,⟨(nF c1)⟩,⟨(nF c1)⟩,⟨(nF c1)⟩,⟨(bN k x1 x2 x3 x4 _ e0)⟩] (by kernel_rfl)
 rw[if_neg c1] at h;replace c1:=eqf c1
 obtain rfl:=osi h
 exact Tri.of (x:=X54) aK aF3 [.call ⟨true,[]⟩ (.bool x7) [],dt,dt,dt,dt,dt] [⟨rT⟩,⟨(nT c1)⟩,⟨(nT c1)⟩,⟨(nT c1)⟩,⟨(nT c1)⟩,⟨(bN k x1 x2 x3 x4 _ e0)⟩] (by kernel_rfl)
end Go.Ws

namespace Go.Ws
open Go.Proofs
set_option linter.unusedSimpArgs false
set_option linter.unusedVariables false
set_option maxRecDepth 1000000
set_option maxHeartbeats 4000000
noncomputable def X56:Ctx:=⟨Try.f56,[],true⟩
theorem y5 (k:Nat) (x1:Int) (x2:aL) (x3:Bool) (x4:Int) (x5:Bool) (r:Int × aL × Bool × Int × Int) (h:t5 k x1 x2 x3 x4 x5=some r):Tri Try.prog 56 [(.agg [(.int .i64 x1),(.sl 2 (List.map aB x2)),(.bool x3),(.int .i64 x4)]),(.bool x5)] [] (.tup [(.agg [(.int .i64 r.1),(.sl 2 (List.map aB r.2.1)),(.bool r.2.2.1),(.int .i64 r.2.2.2.1)]),(.int .i64 r.2.2.2.2)]) []:=by
 unfold t5 at h
 obtain⟨x6,e0,h⟩:=bsm h
 by_cases c1:x6=true
 · rw[if_pos c1] at h
   by_cases c2:eqI x1 0=true
   · rw[if_pos c2] at h
     by_cases c3:x5=true
     · rw[if_pos c3] at h
       obtain rfl:=osi h
       exact Tri.of (x:=X56) aK aIH [.call ⟨true,[]⟩ (.bool x6) [],df,df,dt] [⟨c3⟩,⟨(nF c2)⟩,⟨(nF c1)⟩,⟨(bN k x1 x2 x3 x4 _ e0)⟩] (by kernel_rfl)
     rw[if_neg c3] at h;replace c3:=eqf c3
     obtain rfl:=osi h
     exact Tri.of (x:=X56) aK aIH [.call ⟨true,[]⟩ (.bool x6) [],df,df,df] [⟨c3⟩,⟨(nF c2)⟩,⟨(nF c1)⟩,⟨(bN k x1 x2 x3 x4 _ e0)⟩] (by kernel_rfl)
   rw[if_neg c2] at h;replace c2:=eqf c2
   obtain rfl:=osi h
   exact Tri.of (x:=X56) aK aIH [.call ⟨true,[]⟩ (.bool x6) [],df,dt] [⟨(nT c2)⟩,⟨(nF c1)⟩,⟨(bN k x1 x2 x3 x4 _ e0)⟩] (by kernel_rfl)
 rw[if_neg c1] at h;replace c1:=eqf c1
 obtain rfl:=osi h
 exact Tri.of (x:=X56) aK aIH [.call ⟨true,[]⟩ (.bool x6) [],dt] [⟨(nT c1)⟩,⟨(bN k x1 x2 x3 x4 _ e0)⟩] (by kernel_rfl)
end Go.Ws

namespace Go.Ws
open Go.Proofs
set_option linter.unusedSimpArgs false
set_option linter.unusedVariables false
set_option maxRecDepth 1000000
set_option maxHeartbeats 4000000
noncomputable def X58:Ctx:=⟨Try.f58,[],true⟩
def A58_0:Ans:=.norm 0 ⟨[(2,[]),(3,[(0,2)]),(4,[])],[⟨.tmp 2,[],none⟩],false,[],[]⟩
theorem aB3 (k:Nat) (x1:Int) (x2:aL) (x3:Bool) (x4:Int) (r:Int × aL × Bool × Int × aL × Int) (h:sE k x1 x2 x3 x4=some r):Tri Try.prog 58 [(.agg [(.int .i64 x1),(.sl 2 (List.map aB x2)),(.bool x3),(.int .i64 x4)])] [] (.tup [(.agg [(.int .i64 r.1),(.sl 2 (List.map aB r.2.1)),(.bool r.2.2.1),(.int .i64 r.2.2.2.1)]),(.sl 2 (List.map aB r.2.2.2.2.1)),(.int .i64 r.2.2.2.2.2)]) []:=by
 unfold sE at h
 obtain⟨x5,e0,h⟩:=bsm h
 by_cases c1:x5=true
 · rw[if_pos c1] at h
   by_cases c2:eqI x1 1=true
   · rw[if_pos c2] at h
     by_cases c3:x3=true
     · rw[if_pos c3] at h
       obtain rfl:=osi h
       exact Tri.of (x:=X58) aK aHZ [.call ⟨true,[]⟩ (.bool x5) [],df,df,dt,A58_0] [⟨c3⟩,⟨(nF c2)⟩,⟨(nF c1)⟩,⟨(bN k x1 x2 x3 x4 _ e0)⟩] (by kernel_rfl)
     rw[if_neg c3] at h;replace c3:=eqf c3
     obtain rfl:=osi h
     exact Tri.of (x:=X58) aK aHZ [.call ⟨true,[]⟩ (.bool x5) [],df,df,df] [⟨c3⟩,⟨(nF c2)⟩,⟨(nF c1)⟩,⟨(bN k x1 x2 x3 x4 _ e0)⟩] (by kernel_rfl)
   rw[if_neg c2] at h;replace c2:=eqf c2
   obtain rfl:=osi h
   exact Tri.of (x:=X58) aK aHZ [.call ⟨true,[]⟩ (.bool x5) [],df,dt,A58_0] [⟨(nT c2)⟩,⟨(nF c1)⟩,⟨(bN k x1 x2 x3 x4 _ e0)⟩] (by kernel_rfl)
 rw[if_neg c1] at h;replace c1:=eqf c1
 obtain rfl:=osi h
 exact Tri.of (x:=X58) aK aHZ [.call ⟨true,[]⟩ (.bool x5) [],dt,A58_0] [⟨(nT c1)⟩,⟨(bN k x1 x2 x3 x4 _ e0)⟩] (by kernel_rfl)
end Go.Ws

namespace Go.Ws
open Go.Proofs
set_option linter.unusedSimpArgs false
set_option linter.unusedVariables false
set_option maxRecDepth 1000000
set_option maxHeartbeats 4000000
noncomputable def X83:Ctx:=⟨Try.f83,[],true⟩
noncomputable def L83_0:Code:=at_ Try.f83 [1,1,0,1,4,5]
def S83_0 (x1:aL) (dY:Int) (bX:aL):St:=⟨mkT 28 [(0,(.sl 2 (List.map aB x1))),(3,(.ref 2 0 0 0 bX.length .virt)),(4,(.int .i64 dY))],[(.arr 2 (List.map aB bX) 0 0 false)]⟩
def aNJ (aPZ:aL):St:=⟨mkT 28 [(3,(.ref 2 0 0 0 aPZ.length .virt))],[(.arr 2 (List.map aB aPZ) 0 0 false)]⟩
def O83_0 (x1:aL) (y:(aL)):GX:=.st (.exit 0) (aNJ y)
theorem tR (x1:aL) (y:(aL)):∀(k:Nat) (dY:Int) (bX:aL),dM k x1 dY bX=some y→LT Try.prog X83 L83_0 (S83_0 x1 dY bX) (O83_0 x1 y)
 | 0,dY,bX,h=>by cases h
 | k+1,dY,bX,h=>by
  rw[dM] at h
  by_cases cL0:ltI dY 0=true
  · rw[if_pos cL0] at h
    obtain rfl:=osi h
    show LT _ _ _ _ (.st (.exit 0) (aNJ bX))
    exact LT.done aK (hs:=⟨[],[],false,[],[]⟩) (es:=(some ⟨[(3,[])],[⟨.tmp 3,[],none⟩],false,[],[]⟩)) [df] [⟨(nF cL0)⟩] (by kernel_rfl) (fun s h=>by cases h)
  rw[if_neg cL0] at h;replace cL0:=eqf cL0
  by_cases cL1:inI dY x1.length=true
  · rw[if_pos cL1] at h
    obtain⟨bY,eL2,h⟩:=bsm h
    by_cases cL3:bJ (((bX++[(bY.1,rK .i64 bY.2)]).length)*16)=true
    · rw[if_pos cL3] at h
      exact LT.next aK (hs:=⟨[(0,[]),(3,[]),(4,[])],[⟨.tmp 3,[],some 2⟩],false,[],[]⟩) (es:=none) [dt,.n x1.length,.row [(.int .u8 bY.1)],.n x1.length,.row [(.int .i64 bY.2)],.rows (List.map aB [(bY.1,rK .i64 bY.2)]),.n ((bX++[(bY.1,rK .i64 bY.2)]).length),.n bX.length,dt,.rows (List.map aB (bX++[(bY.1,rK .i64 bY.2)])),.n ((bX++[(bY.1,rK .i64 bY.2)]).length),.rows (List.map aB (bX++[(bY.1,rK .i64 bY.2)]))] [⟨(bU aB (l:=(bX++[(bY.1,rK .i64 bY.2)])) (n:=((bX++[(bY.1,rK .i64 bY.2)]).length)) rfl)⟩,⟨(rfl:(bX++[(bY.1,rK .i64 bY.2)]).length=(bX++[(bY.1,rK .i64 bY.2)]).length)⟩,⟨(zle ((bX++[(bY.1,rK .i64 bY.2)]).length))⟩,⟨(gQ aB bX [(bY.1,rK .i64 bY.2)])⟩,⟨(eX bX.length)⟩,⟨(aG aB bX)⟩,⟨cL3⟩,⟨(by simp only[wl,List.length_map,List.map_nil,List.map_cons]<;>omega:bX.length+(List.map aB [(bY.1,rK .i64 bY.2)]).length=(bX++[(bY.1,rK .i64 bY.2)]).length)⟩,⟨(aS aB (l:=[(bY.1,rK .i64 bY.2)]) (n:=1) rfl)⟩,⟨(bB aB (Nat.le_refl 1):0+1≤(List.map aB [(bY.1,rK .i64 bY.2)]).length)⟩,⟨(aI (e:=aB) eL2 2 1 1 (by decide))⟩,⟨cL1⟩,⟨(aG aB x1)⟩,⟨(aI (e:=aB) eL2 2 0 1 (by decide))⟩,⟨cL1⟩,⟨(aG aB x1)⟩,⟨(nT cL0)⟩] (by kernel_rfl) (tR x1 y k (o6 .i64 dY 1) (bX++[(bY.1,rK .i64 bY.2)]) h)
    rw[if_neg cL3] at h;replace cL3:=eqf cL3
    cases h
  rw[if_neg cL1] at h;replace cL1:=eqf cL1
  cases h
theorem wJ (k:Nat) (x1:aL) (r:aL) (h:kO k x1=some r):Tri Try.prog 83 [(.sl 2 (List.map aB x1))] [] (.sl 2 (List.map aB r)) []:=by
 unfold kO at h
 obtain⟨x3,e0,h⟩:=bsm h
 obtain rfl:=osi h
 exact Tri.of (x:=X83) aK facts83 [.n x1.length,.norm 2 ⟨[(0,[]),(3,[]),(4,[])],[⟨.tmp 3,[],some 2⟩],false,[],[]⟩,.n 0,.rows (List.map aB []),.out (.st .normal (aNJ x3)),.rows (List.map aB x3)] [⟨(aS aB (l:=x3) (n:=x3.length) rfl)⟩,⟨(bB aB (Nat.le_refl x3.length):0+x3.length≤(List.map aB x3).length)⟩,⟨(LT.block (tR x1 _ k (o6 .i64 (nI x1.length) 1) [] e0))⟩,⟨(bU aB (l:=[]) (n:=0) rfl)⟩,⟨(rfl:0=0)⟩,⟨(zle 0)⟩,⟨(aG aB x1)⟩] (by kernel_rfl)
end Go.Ws

namespace Go.Ws
open Go.Proofs
set_option linter.unusedSimpArgs false
set_option linter.unusedVariables false
set_option maxRecDepth 1000000
set_option maxHeartbeats 4000000
noncomputable def X59:Ctx:=⟨Try.f59,[],true⟩
def aFF:Ans:=.norm 0 ⟨[(4,[]),(5,[(0,2)]),(6,[])],[⟨.tmp 4,[],none⟩],false,[],[]⟩
theorem mF (k:Nat) (x1:Int) (x2:aL) (x3:Bool) (x4:Int) (x5:Int) (r:Int × aL × Bool × Int × aL × Int) (h:mP k x1 x2 x3 x4 x5=some r):Tri Try.prog 59 [(.agg [(.int .i64 x1),(.sl 2 (List.map aB x2)),(.bool x3),(.int .i64 x4)]),(.int .i64 x5)] [] (.tup [(.agg [(.int .i64 r.1),(.sl 2 (List.map aB r.2.1)),(.bool r.2.2.1),(.int .i64 r.2.2.2.1)]),(.sl 2 (List.map aB r.2.2.2.2.1)),(.int .i64 r.2.2.2.2.2)]) []:=by
 unfold mP at h
 obtain⟨x6,e0,h⟩:=bsm h
 by_cases c1:x6=true
 · rw[if_pos c1] at h
   by_cases c2:eqI x5 1=true
   · rw[if_pos c2] at h
     by_cases c3:eqI x1 3=true
     · rw[if_pos c3] at h
       by_cases c4:eqI x4 x5=true
       · rw[if_pos c4] at h
         obtain rfl:=osi h
         exact Tri.of (x:=X59) aK rD [.call ⟨true,[]⟩ (.bool x6) [],df,df,df,df,df,df,df,df,df,dt,dt,dt,dt,dt,dt,aFF] [⟨c4⟩,⟨c3⟩,⟨c3⟩,⟨c3⟩,⟨c3⟩,⟨c3⟩,⟨rF⟩,⟨(nF c1)⟩,⟨(nF c2)⟩,⟨(nF c1)⟩,⟨(nF c2)⟩,⟨(nF c2)⟩,⟨(nF c1)⟩,⟨(nF c1)⟩,⟨(nF c1)⟩,⟨(bN k x1 x2 x3 x4 _ e0)⟩] (by kernel_rfl)
       rw[if_neg c4] at h;replace c4:=eqf c4
       obtain rfl:=osi h
       exact Tri.of (x:=X59) aK rD [.call ⟨true,[]⟩ (.bool x6) [],df,df,df,df,df,df,df,df,df,dt,dt,dt,dt,dt,df,dt,dt,aFF] [⟨c3⟩,⟨c3⟩,⟨c4⟩,⟨c3⟩,⟨c3⟩,⟨c3⟩,⟨c3⟩,⟨c3⟩,⟨rF⟩,⟨(nF c1)⟩,⟨(nF c2)⟩,⟨(nF c1)⟩,⟨(nF c2)⟩,⟨(nF c2)⟩,⟨(nF c1)⟩,⟨(nF c1)⟩,⟨(nF c1)⟩,⟨(bN k x1 x2 x3 x4 _ e0)⟩] (by kernel_rfl)
     rw[if_neg c3] at h;replace c3:=eqf c3
     by_cases c4:eqI x1 1=true
     · rw[if_pos c4] at h
       by_cases c5:x3=true
       · rw[if_pos c5] at h
         by_cases c6:eqI x5 2=true
         · rw[if_pos c6] at h
           obtain⟨x7,e7,h⟩:=bsm h
           obtain rfl:=osi h
           exact Tri.of (x:=X59) aK rD [.call ⟨true,[]⟩ (.bool x6) [],df,df,df,df,df,df,df,df,df,df,df,df,df,df,df,df,dt,dt,dt,dt,df,dt,dt,dt,dt,df,dt,dt,dt,dt,.call ⟨true,[]⟩ (.sl 2 (List.map aB x7)) []] [⟨(wJ k x2 _ e7)⟩,⟨c5⟩,⟨c6⟩,⟨c6⟩,⟨c6⟩,⟨(nF c5)⟩,⟨c2⟩,⟨c2⟩,⟨c2⟩,⟨c2⟩,⟨(nF c4)⟩,⟨c2⟩,⟨c2⟩,⟨c2⟩,⟨c2⟩,⟨c3⟩,⟨rF⟩,⟨c3⟩,⟨c3⟩,⟨c3⟩,⟨c3⟩,⟨c3⟩,⟨rF⟩,⟨(nF c1)⟩,⟨(nF c2)⟩,⟨(nF c1)⟩,⟨(nF c2)⟩,⟨(nF c2)⟩,⟨(nF c1)⟩,⟨(nF c1)⟩,⟨(nF c1)⟩,⟨(bN k x1 x2 x3 x4 _ e0)⟩] (by kernel_rfl)
         rw[if_neg c6] at h;replace c6:=eqf c6
         obtain rfl:=osi h
         exact Tri.of (x:=X59) aK rD [.call ⟨true,[]⟩ (.bool x6) [],df,df,df,df,df,df,df,df,df,df,df,df,df,df,df,df,dt,dt,dt,dt,df,dt,dt,dt,dt,df,df,df,df,df,aFF] [⟨rF⟩,⟨c6⟩,⟨c6⟩,⟨c6⟩,⟨(nF c5)⟩,⟨c2⟩,⟨c2⟩,⟨c2⟩,⟨c2⟩,⟨(nF c4)⟩,⟨c2⟩,⟨c2⟩,⟨c2⟩,⟨c2⟩,⟨c3⟩,⟨rF⟩,⟨c3⟩,⟨c3⟩,⟨c3⟩,⟨c3⟩,⟨c3⟩,⟨rF⟩,⟨(nF c1)⟩,⟨(nF c2)⟩,⟨(nF c1)⟩,⟨(nF c2)⟩,⟨(nF c2)⟩,⟨(nF c1)⟩,⟨(nF c1)⟩,⟨(nF c1)⟩,⟨(bN k x1 x2 x3 x4 _ e0)⟩] (by kernel_rfl)
       rw[if_neg c5] at h;replace c5:=eqf c5
       obtain rfl:=osi h
       exact Tri.of (x:=X59) aK rD [.call ⟨true,[]⟩ (.bool x6) [],df,df,df,df,df,df,df,df,df,df,df,df,df,df,df,df,dt,dt,dt,dt,df,dt,dt,dt,dt,dt] [⟨(nT c5)⟩,⟨c2⟩,⟨c2⟩,⟨c2⟩,⟨c2⟩,⟨(nF c4)⟩,⟨c2⟩,⟨c2⟩,⟨c2⟩,⟨c2⟩,⟨c3⟩,⟨rF⟩,⟨c3⟩,⟨c3⟩,⟨c3⟩,⟨c3⟩,⟨c3⟩,⟨rF⟩,⟨(nF c1)⟩,⟨(nF c2)⟩,⟨(nF c1)⟩,⟨(nF c2)⟩,⟨(nF c2)⟩,⟨(nF c1)⟩,⟨(nF c1)⟩,⟨(nF c1)⟩,⟨(bN k x1 x2 x3 x4 _ e0)⟩] (by kernel_rfl)
     rw[if_neg c4] at h;replace c4:=eqf c4
     obtain rfl:=osi h
     exact Tri.of (x:=X59) aK rD [.call ⟨true,[]⟩ (.bool x6) [],df,df,df,df,df,df,df,df,df,df,df,df,df,df,df,df,dt,dt,dt,dt,dt,aFF] [⟨(nT c4)⟩,⟨c2⟩,⟨c2⟩,⟨c2⟩,⟨c2⟩,⟨c3⟩,⟨rF⟩,⟨c3⟩,⟨c3⟩,⟨c3⟩,⟨c3⟩,⟨c3⟩,⟨rF⟩,⟨(nF c1)⟩,⟨(nF c2)⟩,⟨(nF c1)⟩,⟨(nF c2)⟩,⟨(nF c2)⟩,⟨(nF c1)⟩,⟨(nF c1)⟩,⟨(nF c1)⟩,⟨(bN k x1 x2 x3 x4 _ e0)⟩] (by kernel_rfl)
   rw[if_neg c2] at h;replace c2:=eqf c2
   by_cases c3:eqI x5 2=true
   · rw[if_pos c3] at h
     by_cases c4:eqI x1 3=true
     · rw[if_pos c4] at h
       by_cases c5:eqI x4 x5=true
       · rw[if_pos c5] at h
         obtain rfl:=osi h
         exact Tri.of (x:=X59) aK rD [.call ⟨true,[]⟩ (.bool x6) [],df,df,df,dt,dt,df,dt,df,df,dt,dt,dt,dt,dt,dt,aFF] [⟨c5⟩,⟨c4⟩,⟨c4⟩,⟨c4⟩,⟨c4⟩,⟨c4⟩,⟨(nF c3)⟩,⟨(nF c1)⟩,⟨(nT c2)⟩,⟨(nF c1)⟩,⟨(nT c2)⟩,⟨(nT c2)⟩,⟨(nF c1)⟩,⟨(nF c1)⟩,⟨(nF c1)⟩,⟨(bN k x1 x2 x3 x4 _ e0)⟩] (by kernel_rfl)
       rw[if_neg c5] at h;replace c5:=eqf c5
       obtain rfl:=osi h
       exact Tri.of (x:=X59) aK rD [.call ⟨true,[]⟩ (.bool x6) [],df,df,df,dt,dt,df,dt,df,df,dt,dt,dt,dt,dt,df,dt,dt,aFF] [⟨c4⟩,⟨c4⟩,⟨c5⟩,⟨c4⟩,⟨c4⟩,⟨c4⟩,⟨c4⟩,⟨c4⟩,⟨(nF c3)⟩,⟨(nF c1)⟩,⟨(nT c2)⟩,⟨(nF c1)⟩,⟨(nT c2)⟩,⟨(nT c2)⟩,⟨(nF c1)⟩,⟨(nF c1)⟩,⟨(nF c1)⟩,⟨(bN k x1 x2 x3 x4 _ e0)⟩] (by kernel_rfl)
     rw[if_neg c4] at h;replace c4:=eqf c4
     by_cases c5:x3=true
     · rw[if_pos c5] at h
       obtain⟨x7,e6,h⟩:=bsm h
       obtain rfl:=osi h
       exact Tri.of (x:=X59) aK rD [.call ⟨true,[]⟩ (.bool x6) [],df,df,df,dt,dt,df,dt,df,df,df,df,df,df,df,df,df,df,df,df,df,df,df,df,df,df,df,dt,dt,dt,dt,.call ⟨true,[]⟩ (.sl 2 (List.map aB x7)) []] [⟨(wJ k x2 _ e6)⟩,⟨c5⟩,⟨c3⟩,⟨c3⟩,⟨c3⟩,⟨rF⟩,⟨c2⟩,⟨c2⟩,⟨c2⟩,⟨c2⟩,⟨rF⟩,⟨c2⟩,⟨c2⟩,⟨c2⟩,⟨c2⟩,⟨c4⟩,⟨rF⟩,⟨c4⟩,⟨c4⟩,⟨c4⟩,⟨c4⟩,⟨c4⟩,⟨(nF c3)⟩,⟨(nF c1)⟩,⟨(nT c2)⟩,⟨(nF c1)⟩,⟨(nT c2)⟩,⟨(nT c2)⟩,⟨(nF c1)⟩,⟨(nF c1)⟩,⟨(nF c1)⟩,⟨(bN k x1 x2 x3 x4 _ e0)⟩] (by kernel_rfl)
     rw[if_neg c5] at h;replace c5:=eqf c5
     obtain rfl:=osi h
     exact Tri.of (x:=X59) aK rD [.call ⟨true,[]⟩ (.bool x6) [],df,df,df,dt,dt,df,dt,df,df,df,df,df,df,df,df,df,df,df,df,df,df,df,df,df,df,df,dt,dt,dt,df,aFF] [⟨c5⟩,⟨c3⟩,⟨c3⟩,⟨c3⟩,⟨rF⟩,⟨c2⟩,⟨c2⟩,⟨c2⟩,⟨c2⟩,⟨rF⟩,⟨c2⟩,⟨c2⟩,⟨c2⟩,⟨c2⟩,⟨c4⟩,⟨rF⟩,⟨c4⟩,⟨c4⟩,⟨c4⟩,⟨c4⟩,⟨c4⟩,⟨(nF c3)⟩,⟨(nF c1)⟩,⟨(nT c2)⟩,⟨(nF c1)⟩,⟨(nT c2)⟩,⟨(nT c2)⟩,⟨(nF c1)⟩,⟨(nF c1)⟩,⟨(nF c1)⟩,⟨(bN k x1 x2 x3 x4 _ e0)⟩] (by kernel_rfl)
   rw[if_neg c3] at h;replace c3:=eqf c3
   obtain rfl:=osi h
   exact Tri.of (x:=X59) aK rD [.call ⟨true,[]⟩ (.bool x6) [],df,df,df,dt,dt,df,dt,df,dt,aFF] [⟨(nT c3)⟩,⟨(nF c1)⟩,⟨(nT c2)⟩,⟨(nF c1)⟩,⟨(nT c2)⟩,⟨(nT c2)⟩,⟨(nF c1)⟩,⟨(nF c1)⟩,⟨(nF c1)⟩,⟨(bN k x1 x2 x3 x4 _ e0)⟩] (by kernel_rfl)
 rw[if_neg c1] at h;replace c1:=eqf c1
 obtain rfl:=osi h
 exact Tri.of (x:=X59) aK rD [.call ⟨true,[]⟩ (.bool x6) [],dt,dt,dt,dt,dt,dt,aFF] [⟨rT⟩,⟨(nT c1)⟩,⟨(nT c1)⟩,⟨(nT c1)⟩,⟨(nT c1)⟩,⟨(nT c1)⟩,⟨(bN k x1 x2 x3 x4 _ e0)⟩] (by kernel_rfl)
end Go.Ws

namespace Go.Ws
open Go.Proofs
set_option linter.unusedSimpArgs false
set_option linter.unusedVariables false
set_option maxRecDepth 1000000
set_option maxHeartbeats 4000000
noncomputable def X36:Ctx:=⟨Try.f36,[],true⟩
noncomputable def L36_0:Code:=at_ Try.f36 [1,1,0,1,4,5]
def S36_0 (x1:aL) (x2:Int) (eH:Int) (dG:Int):St:=⟨mkT 28 [(0,(.sl 2 (List.map aB x1))),(1,(.int .u8 x2)),(5,(.int .i64 eH)),(6,(.int .i64 dG))],[]⟩
def aMA (v36002_1:Int):St:=⟨mkT 28 [(5,(.int .i64 v36002_1))],[]⟩
def O36_0 (x1:aL) (x2:Int) (y:(Int)):GX:=.st (.exit 0) (aMA y)
theorem vJ (x1:aL) (x2:Int) (y:(Int)):∀(k:Nat) (eH:Int) (dG:Int),hO k x1 x2 eH dG=some y→LT Try.prog X36 L36_0 (S36_0 x1 x2 eH dG) (O36_0 x1 x2 y)
 | 0,eH,dG,h=>by cases h
 | k+1,eH,dG,h=>by
  rw[hO] at h
  by_cases cL0:ltI dG (nI x1.length)=true
  · rw[if_pos cL0] at h
    by_cases cL1:inI dG x1.length=true
    · rw[if_pos cL1] at h
      obtain⟨pV,eL2,h⟩:=bsm h
      by_cases cL3:eqI pV.1 x2=true
      · rw[if_pos cL3] at h
        exact LT.next aK (hs:=⟨[(0,[]),(1,[]),(5,[]),(6,[])],[],false,[],[]⟩) (es:=none) [.n x1.length,dt,.n x1.length,.row [(.int .u8 pV.1)],dt,.n x1.length,.row [(.int .i64 pV.2)]] [⟨(aI (e:=aB) eL2 2 1 1 (by decide))⟩,⟨cL1⟩,⟨(aG aB x1)⟩,⟨cL3⟩,⟨(aI (e:=aB) eL2 2 0 1 (by decide))⟩,⟨cL1⟩,⟨(aG aB x1)⟩,⟨cL0⟩,⟨(aG aB x1)⟩] (by kernel_rfl) (vJ x1 x2 y k (aO .i64 eH pV.2) (aO .i64 dG 1) h)
      rw[if_neg cL3] at h;replace cL3:=eqf cL3
      exact LT.next aK (hs:=⟨[(0,[]),(1,[]),(5,[]),(6,[])],[],false,[],[]⟩) (es:=none) [.n x1.length,dt,.n x1.length,.row [(.int .u8 pV.1)],df] [⟨cL3⟩,⟨(aI (e:=aB) eL2 2 0 1 (by decide))⟩,⟨cL1⟩,⟨(aG aB x1)⟩,⟨cL0⟩,⟨(aG aB x1)⟩] (by kernel_rfl) (vJ x1 x2 y k eH (aO .i64 dG 1) h)
    rw[if_neg cL1] at h;replace cL1:=eqf cL1
    cases h
  rw[if_neg cL0] at h;replace cL0:=eqf cL0
  obtain rfl:=osi h
  show LT _ _ _ _ (.st (.exit 0) (aMA eH))
  exact LT.done aK (hs:=⟨[],[],false,[],[]⟩) (es:=(some ⟨[(5,[])],[],false,[],[]⟩)) [.n x1.length,df] [⟨cL0⟩,⟨(aG aB x1)⟩] (by kernel_rfl) (fun s h=>by cases h)
theorem aFU (k:Nat) (x1:aL) (x2:Int) (r:Int) (h:wE k x1 x2=some r):Tri Try.prog 36 [(.sl 2 (List.map aB x1)),(.int .u8 x2)] [] (.int .i64 r) []:=by
 unfold wE at h
 obtain⟨x4,e0,h⟩:=bsm h
 obtain rfl:=osi h
 exact Tri.of (x:=X36) aK facts36 [.norm 2 ⟨[(0,[]),(1,[]),(5,[]),(6,[])],[],false,[],[]⟩,.out (.st .normal (aMA x4))] [⟨(LT.block (vJ x1 x2 _ k 0 0 e0))⟩] (by kernel_rfl)
end Go.Ws

namespace Go.Ws
open Go.Proofs
set_option linter.unusedSimpArgs false
set_option linter.unusedVariables false
set_option maxRecDepth 1000000
set_option maxHeartbeats 4000000
noncomputable def X24:Ctx:=⟨Try.f24,[],true⟩
noncomputable def L24_0:Code:=at_ Try.f24 [1,1,0,1,4,5]
def S24_0 (x1:aL) (bH:Int) (bE:aL):St:=⟨mkT 24 [(0,(.sl 2 (List.map aB x1))),(3,(.ref 2 0 0 0 bE.length .virt)),(4,(.int .i64 bH))],[(.arr 2 (List.map aB bE) 0 0 false)]⟩
def aMP (aPX:aL):St:=⟨mkT 24 [(3,(.ref 2 0 0 0 aPX.length .virt))],[(.arr 2 (List.map aB aPX) 0 0 false)]⟩
def O24_0 (x1:aL) (y:(aL)):GX:=.st (.exit 0) (aMP y)
theorem xH (x1:aL) (y:(aL)):∀(k:Nat) (bH:Int) (bE:aL),iV k x1 bH bE=some y→LT Try.prog X24 L24_0 (S24_0 x1 bH bE) (O24_0 x1 y)
 | 0,bH,bE,h=>by cases h
 | k+1,bH,bE,h=>by
  rw[iV] at h
  by_cases cL0:ltI bH 64=true
  · rw[if_pos cL0] at h
    obtain⟨eY,eL1,h⟩:=bsm h
    by_cases cL2:eqI eY 0=true
    · rw[if_pos cL2] at h
      exact LT.next aK (hs:=⟨[(0,[]),(3,[]),(4,[])],[⟨.tmp 3,[],some 2⟩],false,[],[]⟩) (es:=none) [dt,.call ⟨true,[]⟩ (.int .i64 eY) [],df,.n bE.length,.rows (List.map aB bE)] [⟨(bU aB (l:=bE) (n:=bE.length) rfl)⟩,⟨(rfl:bE.length=bE.length)⟩,⟨(zle bE.length)⟩,⟨(nF cL2)⟩,⟨(aFU k x1 (conv .u8 bH) _ eL1)⟩,⟨cL0⟩] (by kernel_rfl) (xH x1 y k (aO .i64 bH 1) bE h)
    rw[if_neg cL2] at h;replace cL2:=eqf cL2
    by_cases cL3:bJ (((bE++[(conv .u8 bH,eY)]).length)*16)=true
    · rw[if_pos cL3] at h
      exact LT.next aK (hs:=⟨[(0,[]),(3,[]),(4,[])],[⟨.tmp 3,[],some 2⟩],false,[],[]⟩) (es:=none) [dt,.call ⟨true,[]⟩ (.int .i64 eY) [],dt,.rows (List.map aB [(conv .u8 bH,eY)]),.n ((bE++[(conv .u8 bH,eY)]).length),.n bE.length,dt,.rows (List.map aB (bE++[(conv .u8 bH,eY)])),.n ((bE++[(conv .u8 bH,eY)]).length),.rows (List.map aB (bE++[(conv .u8 bH,eY)]))] [⟨(bU aB (l:=(bE++[(conv .u8 bH,eY)])) (n:=((bE++[(conv .u8 bH,eY)]).length)) rfl)⟩,⟨(rfl:(bE++[(conv .u8 bH,eY)]).length=(bE++[(conv .u8 bH,eY)]).length)⟩,⟨(zle ((bE++[(conv .u8 bH,eY)]).length))⟩,⟨(gQ aB bE [(conv .u8 bH,eY)])⟩,⟨(eX bE.length)⟩,⟨(aG aB bE)⟩,⟨cL3⟩,⟨(by simp only[wl,List.length_map,List.map_nil,List.map_cons]<;>omega:bE.length+(List.map aB [(conv .u8 bH,eY)]).length=(bE++[(conv .u8 bH,eY)]).length)⟩,⟨(aS aB (l:=[(conv .u8 bH,eY)]) (n:=1) rfl)⟩,⟨(bB aB (Nat.le_refl 1):0+1≤(List.map aB [(conv .u8 bH,eY)]).length)⟩,⟨(nT cL2)⟩,⟨(aFU k x1 (conv .u8 bH) _ eL1)⟩,⟨cL0⟩] (by kernel_rfl) (xH x1 y k (aO .i64 bH 1) (bE++[(conv .u8 bH,eY)]) h)
    rw[if_neg cL3] at h;replace cL3:=eqf cL3
    cases h
  rw[if_neg cL0] at h;replace cL0:=eqf cL0
  obtain rfl:=osi h
  show LT _ _ _ _ (.st (.exit 0) (aMP bE))
  exact LT.done aK (hs:=⟨[],[],false,[],[]⟩) (es:=(some ⟨[(3,[])],[⟨.tmp 3,[],none⟩],false,[],[]⟩)) [df] [⟨cL0⟩] (by kernel_rfl) (fun s h=>by cases h)
theorem aOM (k:Nat) (x1:aL) (r:aL) (h:z3 k x1=some r):Tri Try.prog 24 [(.sl 2 (List.map aB x1))] [] (.sl 2 (List.map aB r)) []:=by
 unfold z3 at h
 obtain⟨x3,e0,h⟩:=bsm h
 obtain rfl:=osi h
 exact Tri.of (x:=X24) aK facts24 [.norm 2 ⟨[(0,[]),(3,[]),(4,[])],[⟨.tmp 3,[],some 2⟩],false,[],[]⟩,.n 0,.rows (List.map aB []),.out (.st .normal (aMP x3)),.rows (List.map aB x3)] [⟨(aS aB (l:=x3) (n:=x3.length) rfl)⟩,⟨(bB aB (Nat.le_refl x3.length):0+x3.length≤(List.map aB x3).length)⟩,⟨(LT.block (xH x1 _ k 0 [] e0))⟩,⟨(bU aB (l:=[]) (n:=0) rfl)⟩,⟨(rfl:0=0)⟩,⟨(zle 0)⟩] (by kernel_rfl)
end Go.Ws

namespace Go.Ws
open Go.Proofs
set_option linter.unusedSimpArgs false
set_option linter.unusedVariables false
set_option maxRecDepth 1000000
set_option maxHeartbeats 4000000
noncomputable def X25:Ctx:=⟨Try.f25,[],true⟩
noncomputable def L25_0:Code:=at_ Try.f25 [1,0,1,4,5]
def S25_0 (x1:aL) (x2:Int) (dZ:Int):St:=⟨mkT 24 [(0,(.sl 2 (List.map aB x1))),(1,(.int .u8 x2)),(5,(.int .i64 dZ))],[]⟩
def aNI:St:=⟨mkT 24 [],[]⟩
def O25_0 (x1:aL) (x2:Int) (y:(Sum (Unit) (Int))):GX:=match y with
 | .inl y=>.st (.exit 0) (aNI)
 | .inr y=>.fin (.int .i64 y) []
theorem vI (x1:aL) (x2:Int) (y:(Sum (Unit) (Int))):∀(k:Nat) (dZ:Int),iO k x1 x2 dZ=some y→LT Try.prog X25 L25_0 (S25_0 x1 x2 dZ) (O25_0 x1 x2 y)
 | 0,dZ,h=>by cases h
 | k+1,dZ,h=>by
  rw[iO] at h
  by_cases cL0:ltI dZ (nI x1.length)=true
  · rw[if_pos cL0] at h
    by_cases cL1:inI dZ x1.length=true
    · rw[if_pos cL1] at h
      obtain⟨pW,eL2,h⟩:=bsm h
      by_cases cL3:eqI pW.1 x2=true
      · rw[if_pos cL3] at h
        obtain rfl:=osi h
        show LT _ _ _ _ (.fin (.int .i64 pW.2) [])
        exact LT.done aK (hs:=⟨[],[],false,[],[]⟩) (es:=none) [.n x1.length,dt,.n x1.length,.row [(.int .u8 pW.1)],dt,.n x1.length,.row [(.int .i64 pW.2)]] [⟨(aI (e:=aB) eL2 2 1 1 (by decide))⟩,⟨cL1⟩,⟨(aG aB x1)⟩,⟨cL3⟩,⟨(aI (e:=aB) eL2 2 0 1 (by decide))⟩,⟨cL1⟩,⟨(aG aB x1)⟩,⟨cL0⟩,⟨(aG aB x1)⟩] (by kernel_rfl) (fun s h=>by cases h)
      rw[if_neg cL3] at h;replace cL3:=eqf cL3
      exact LT.next aK (hs:=⟨[(0,[]),(1,[]),(5,[])],[],false,[],[]⟩) (es:=none) [.n x1.length,dt,.n x1.length,.row [(.int .u8 pW.1)],df] [⟨cL3⟩,⟨(aI (e:=aB) eL2 2 0 1 (by decide))⟩,⟨cL1⟩,⟨(aG aB x1)⟩,⟨cL0⟩,⟨(aG aB x1)⟩] (by kernel_rfl) (vI x1 x2 y k (aO .i64 dZ 1) h)
    rw[if_neg cL1] at h;replace cL1:=eqf cL1
    cases h
  rw[if_neg cL0] at h;replace cL0:=eqf cL0
  obtain rfl:=osi h
  show LT _ _ _ _ (.st (.exit 0) (aNI))
  exact LT.done aK (hs:=⟨[],[],false,[],[]⟩) (es:=(some ⟨[],[],false,[],[]⟩)) [.n x1.length,df] [⟨cL0⟩,⟨(aG aB x1)⟩] (by kernel_rfl) (fun s h=>by cases h)
theorem aAM (k:Nat) (x1:aL) (x2:Int) (r:Int) (h:sH k x1 x2=some r):Tri Try.prog 25 [(.sl 2 (List.map aB x1)),(.int .u8 x2)] [] (.int .i64 r) []:=by
 unfold sH at h
 obtain⟨x3,e0,h⟩:=bsm h
 cases x3 with
 | inl x4 =>
  simp only[Sum.elim_inl] at h
  obtain rfl:=osi h
  exact Tri.of (x:=X25) aK aRV [.norm 2 ⟨[(0,[]),(1,[]),(5,[])],[],false,[],[]⟩,.out (.st .normal (aNI))] [⟨(LT.block (vI x1 x2 _ k 0 e0))⟩] (by kernel_rfl)
 | inr x4 =>
  simp only[Sum.elim_inr] at h
  obtain rfl:=osi h
  exact Tri.of (x:=X25) aK aRV [.norm 2 ⟨[(0,[]),(1,[]),(5,[])],[],false,[],[]⟩,.out (.fin (.int .i64 x4) [])] [⟨(LT.blockFin (id:=0) (vI x1 x2 _ k 0 e0))⟩] (by kernel_rfl)
end Go.Ws

namespace Go.Ws
open Go.Proofs
set_option linter.unusedSimpArgs false
set_option linter.unusedVariables false
set_option maxRecDepth 1000000
set_option maxHeartbeats 4000000
noncomputable def X41:Ctx:=⟨Try.f41,[],true⟩
noncomputable def L41_0:Code:=at_ Try.f41 [1,1,0,1,4,5]
def S41_0 (x1:aL) (x2:aL) (cV:Int):St:=⟨mkT 26 [(0,(.sl 2 (List.map aB x1))),(1,(.sl 2 (List.map aB x2))),(5,(.int .i64 cV))],[]⟩
def aNG:St:=⟨mkT 26 [],[]⟩
def O41_0 (x1:aL) (x2:aL) (y:lZ):GX:=match y with
 | .inl y=>.st (.exit 0) (aNG)
 | .inr y=>.fin (.bool y) []
theorem rU (x1:aL) (x2:aL) (y:lZ):∀(k:Nat) (cV:Int),fA k x1 x2 cV=some y→LT Try.prog X41 L41_0 (S41_0 x1 x2 cV) (O41_0 x1 x2 y)
 | 0,cV,h=>by cases h
 | k+1,cV,h=>by
  rw[fA] at h
  by_cases cL0:ltI cV (nI x1.length)=true
  · rw[if_pos cL0] at h
    by_cases cL1:inI cV x1.length=true
    · rw[if_pos cL1] at h
      obtain⟨lW,eL2,h⟩:=bsm h
      by_cases cL3:inI cV x2.length=true
      · rw[if_pos cL3] at h
        obtain⟨lX,eL4,h⟩:=bsm h
        by_cases cL5:eqI lW.1 lX.1=true
        · rw[if_pos cL5] at h
          by_cases cL6:eqI lW.2 lX.2=true
          · rw[if_pos cL6] at h
            exact LT.next aK (hs:=⟨[(0,[]),(1,[]),(5,[])],[],false,[],[]⟩) (es:=none) [.n x1.length,dt,.n x1.length,.row [(.int .u8 lW.1),(.int .i64 lW.2)],.n x2.length,.row [(.int .u8 lX.1),(.int .i64 lX.2)],df] [⟨(nF (aT cL5 cL6))⟩,⟨(aI (e:=aB) eL4 2 0 2 (by decide))⟩,⟨cL3⟩,⟨(aG aB x2)⟩,⟨(aI (e:=aB) eL2 2 0 2 (by decide))⟩,⟨cL1⟩,⟨(aG aB x1)⟩,⟨cL0⟩,⟨(aG aB x1)⟩] (by kernel_rfl) (rU x1 x2 y k (aO .i64 cV 1) h)
          rw[if_neg cL6] at h;replace cL6:=eqf cL6
          obtain rfl:=osi h
          show LT _ _ _ _ (.fin (.bool false) [])
          exact LT.done aK (hs:=⟨[],[],false,[],[]⟩) (es:=none) [.n x1.length,dt,.n x1.length,.row [(.int .u8 lW.1),(.int .i64 lW.2)],.n x2.length,.row [(.int .u8 lX.1),(.int .i64 lX.2)],dt] [⟨(nT (aF2 cL5 cL6))⟩,⟨(aI (e:=aB) eL4 2 0 2 (by decide))⟩,⟨cL3⟩,⟨(aG aB x2)⟩,⟨(aI (e:=aB) eL2 2 0 2 (by decide))⟩,⟨cL1⟩,⟨(aG aB x1)⟩,⟨cL0⟩,⟨(aG aB x1)⟩] (by kernel_rfl) (fun s h=>by cases h)
        rw[if_neg cL5] at h;replace cL5:=eqf cL5
        obtain rfl:=osi h
        show LT _ _ _ _ (.fin (.bool false) [])
        exact LT.done aK (hs:=⟨[],[],false,[],[]⟩) (es:=none) [.n x1.length,dt,.n x1.length,.row [(.int .u8 lW.1),(.int .i64 lW.2)],.n x2.length,.row [(.int .u8 lX.1),(.int .i64 lX.2)],dt] [⟨(nT (aF1 (b:=eqI lW.2 lX.2) cL5))⟩,⟨(aI (e:=aB) eL4 2 0 2 (by decide))⟩,⟨cL3⟩,⟨(aG aB x2)⟩,⟨(aI (e:=aB) eL2 2 0 2 (by decide))⟩,⟨cL1⟩,⟨(aG aB x1)⟩,⟨cL0⟩,⟨(aG aB x1)⟩] (by kernel_rfl) (fun s h=>by cases h)
      rw[if_neg cL3] at h;replace cL3:=eqf cL3
      cases h
    rw[if_neg cL1] at h;replace cL1:=eqf cL1
    cases h
  rw[if_neg cL0] at h;replace cL0:=eqf cL0
  obtain rfl:=osi h
  show LT _ _ _ _ (.st (.exit 0) (aNG))
  exact LT.done aK (hs:=⟨[],[],false,[],[]⟩) (es:=(some ⟨[],[],false,[],[]⟩)) [.n x1.length,df] [⟨cL0⟩,⟨(aG aB x1)⟩] (by kernel_rfl) (fun s h=>by cases h)
theorem aHT (k:Nat) (x1:aL) (x2:aL) (r:Bool) (h:p9 k x1 x2=some r):Tri Try.prog 41 [(.sl 2 (List.map aB x1)),(.sl 2 (List.map aB x2))] [] (.bool r) []:=by
 unfold p9 at h
 by_cases c0:eqI (nI x1.length) (nI x2.length)=true
 · rw[if_pos c0] at h
   obtain⟨x3,e1,h⟩:=bsm h
   cases x3 with
   | inl x4 =>
    simp only[Sum.elim_inl] at h
    obtain rfl:=osi h
    exact Tri.of (x:=X41) aK aNR [.n x1.length,.n x2.length,df,.norm 2 ⟨[(0,[]),(1,[]),(5,[])],[],false,[],[]⟩,.out (.st .normal (aNG))] [⟨(LT.block (rU x1 x2 _ k 0 e1))⟩,⟨(nF c0)⟩,⟨(aG aB x2)⟩,⟨(aG aB x1)⟩] (by kernel_rfl)
   | inr x4 =>
    simp only[Sum.elim_inr] at h
    obtain rfl:=osi h
    exact Tri.of (x:=X41) aK aNR [.n x1.length,.n x2.length,df,.norm 2 ⟨[(0,[]),(1,[]),(5,[])],[],false,[],[]⟩,.out (.fin (.bool x4) [])] [⟨(LT.blockFin (id:=0) (rU x1 x2 _ k 0 e1))⟩,⟨(nF c0)⟩,⟨(aG aB x2)⟩,⟨(aG aB x1)⟩] (by kernel_rfl)
 rw[if_neg c0] at h;replace c0:=eqf c0
 obtain rfl:=osi h
 exact Tri.of (x:=X41) aK aNR [.n x1.length,.n x2.length,dt] [⟨(nT c0)⟩,⟨(aG aB x2)⟩,⟨(aG aB x1)⟩] (by kernel_rfl)
end Go.Ws

namespace Go.Ws
open Go.Proofs
set_option linter.unusedSimpArgs false
set_option linter.unusedVariables false
set_option maxRecDepth 1000000
set_option maxHeartbeats 4000000
noncomputable def X30:Ctx:=⟨Try.f30,[],true⟩
theorem aDE (k:Nat) (x1:Int) (x2:aL) (x3:Bool) (x4:Int) (x5:Int) (x6:aL) (x7:Bool) (x8:Int) (r:Bool) (h:rN k x1 x2 x3 x4 x5 x6 x7 x8=some r):Tri Try.prog 30 [(.agg [(.int .i64 x1),(.sl 2 (List.map aB x2)),(.bool x3),(.int .i64 x4)]),(.agg [(.int .i64 x5),(.sl 2 (List.map aB x6)),(.bool x7),(.int .i64 x8)])] [] (.bool r) []:=by
 unfold rN at h
 by_cases c0:eqI x1 x5=true
 · rw[if_pos c0] at h
   by_cases c1:eqB x3 x7=true
   · rw[if_pos c1] at h
     by_cases c2:eqI x4 x8=true
     · rw[if_pos c2] at h
       obtain⟨x9,e3,h⟩:=bsm h
       obtain rfl:=osi h
       exact Tri.of (x:=X30) aK aHY [dt,dt,dt,dt,dt,dt,dt,dt,dt,dt,dt,dt,dt,dt,dt,dt,dt,.call ⟨true,[]⟩ (.bool x9) [],dt] [⟨c2⟩,⟨(aHT k x2 x6 _ e3)⟩,⟨c2⟩,⟨c2⟩,⟨c2⟩,⟨c2⟩,⟨c2⟩,⟨c1⟩,⟨c1⟩,⟨c1⟩,⟨c1⟩,⟨c1⟩,⟨c1⟩,⟨c0⟩,⟨c0⟩,⟨c0⟩,⟨c0⟩,⟨c0⟩,⟨c0⟩] (by kernel_rfl)
     rw[if_neg c2] at h;replace c2:=eqf c2
     obtain rfl:=osi h
     exact Tri.of (x:=X30) aK aHY [dt,dt,dt,dt,dt,dt,dt,dt,dt,dt,dt,dt,df,df,df,df,df,df] [⟨c2⟩,⟨c2⟩,⟨c2⟩,⟨c2⟩,⟨c2⟩,⟨c2⟩,⟨c1⟩,⟨c1⟩,⟨c1⟩,⟨c1⟩,⟨c1⟩,⟨c1⟩,⟨c0⟩,⟨c0⟩,⟨c0⟩,⟨c0⟩,⟨c0⟩,⟨c0⟩] (by kernel_rfl)
   rw[if_neg c1] at h;replace c1:=eqf c1
   obtain rfl:=osi h
   exact Tri.of (x:=X30) aK aHY [dt,dt,dt,dt,dt,dt,df,df,df,df,df,df,df,df,df,df,df,df] [⟨rF⟩,⟨rF⟩,⟨rF⟩,⟨rF⟩,⟨rF⟩,⟨rF⟩,⟨c1⟩,⟨c1⟩,⟨c1⟩,⟨c1⟩,⟨c1⟩,⟨c1⟩,⟨c0⟩,⟨c0⟩,⟨c0⟩,⟨c0⟩,⟨c0⟩,⟨c0⟩] (by kernel_rfl)
 rw[if_neg c0] at h;replace c0:=eqf c0
 obtain rfl:=osi h
 exact Tri.of (x:=X30) aK aHY [df,df,df,df,df,df,df,df,df,df,df,df,df,df,df,df,df,df] [⟨rF⟩,⟨rF⟩,⟨rF⟩,⟨rF⟩,⟨rF⟩,⟨rF⟩,⟨rF⟩,⟨rF⟩,⟨rF⟩,⟨rF⟩,⟨rF⟩,⟨rF⟩,⟨c0⟩,⟨c0⟩,⟨c0⟩,⟨c0⟩,⟨c0⟩,⟨c0⟩] (by kernel_rfl)
end Go.Ws

namespace Go.Ws
open Go.Proofs
set_option linter.unusedSimpArgs false
set_option linter.unusedVariables false
set_option maxRecDepth 1000000
set_option maxHeartbeats 4000000
noncomputable def X17:Ctx:=⟨Try.f17,[],true⟩
noncomputable def L17_0:Code:=at_ Try.f17 [1,0,1,4,5]
def S17_0 (x1:aL) (x2:aN) (x3:Ty7) (x4:a8) (x5:Int) (dH:Int):St:=⟨mkT 22 [(1,(.int .i64 x5)),(2,(.hp 0 0)),(5,(.int .i64 dH))],[(.row [(.sl 2 (List.map aB x1)),(.sl 3 (List.map aA x2)),(.sl 5 (List.map aD x3)),(.sl 4 (List.map aC x4))])]⟩
def aMT:St:=⟨mkT 22 [],[]⟩
def O17_0 (x1:aL) (x2:aN) (x3:Ty7) (x4:a8) (x5:Int) (y:(Sum (Unit) (Int))):GX:=match y with
 | .inl y=>.st (.exit 0) (aMT)
 | .inr y=>.fin (.int .i64 y) []
def A17_0:Ans:=.norm 2 ⟨[(1,[]),(2,[]),(5,[])],[⟨.tmp 2,[],none⟩],false,[],[]⟩
theorem uD (x1:aL) (x2:aN) (x3:Ty7) (x4:a8) (x5:Int) (y:(Sum (Unit) (Int))):∀(k:Nat) (dH:Int),g8 k x1 x2 x3 x4 x5 dH=some y→LT Try.prog X17 L17_0 (S17_0 x1 x2 x3 x4 x5 dH) (O17_0 x1 x2 x3 x4 x5 y)
 | 0,dH,h=>by cases h
 | k+1,dH,h=>by
  rw[g8] at h
  by_cases cL0:ltI dH (nI x3.length)=true
  · rw[if_pos cL0] at h
    by_cases cL1:inI dH x3.length=true
    · rw[if_pos cL1] at h
      obtain⟨xS,eL2,h⟩:=bsm h
      by_cases cL3:eqI xS.1 x5=true
      · rw[if_pos cL3] at h
        obtain rfl:=osi h
        show LT _ _ _ _ (.fin (.int .i64 dH) [])
        exact LT.done aK (hs:=⟨[],[],false,[],[]⟩) (es:=none) [.n x3.length,dt,.n x3.length,.row [(.int .i64 xS.1)],dt] [⟨cL3⟩,⟨(aI (e:=aD) eL2 5 0 1 (by decide))⟩,⟨cL1⟩,⟨(aG aD x3)⟩,⟨cL0⟩,⟨(aG aD x3)⟩] (by kernel_rfl) (fun s h=>by cases h)
      rw[if_neg cL3] at h;replace cL3:=eqf cL3
      exact LT.next aK (hs:=⟨[(1,[]),(2,[]),(5,[])],[⟨.tmp 2,[],none⟩],false,[],[]⟩) (es:=none) [.n x3.length,dt,.n x3.length,.row [(.int .i64 xS.1)],df] [⟨cL3⟩,⟨(aI (e:=aD) eL2 5 0 1 (by decide))⟩,⟨cL1⟩,⟨(aG aD x3)⟩,⟨cL0⟩,⟨(aG aD x3)⟩] (by kernel_rfl) (uD x1 x2 x3 x4 x5 y k (aO .i64 dH 1) h)
    rw[if_neg cL1] at h;replace cL1:=eqf cL1
    cases h
  rw[if_neg cL0] at h;replace cL0:=eqf cL0
  obtain rfl:=osi h
  show LT _ _ _ _ (.st (.exit 0) (aMT))
  exact LT.done aK (hs:=⟨[],[],false,[],[]⟩) (es:=(some ⟨[],[],false,[],[]⟩)) [.n x3.length,df] [⟨cL0⟩,⟨(aG aD x3)⟩] (by kernel_rfl) (fun s h=>by cases h)
theorem lB (k:Nat) (x1:aL) (x2:aN) (x3:Ty7) (x4:a8) (x5:Int) (r:Int) (h:rS k x1 x2 x3 x4 x5=some r):Tri Try.prog 17 [(.agg [(.sl 2 (List.map aB x1)),(.sl 3 (List.map aA x2)),(.sl 5 (List.map aD x3)),(.sl 4 (List.map aC x4))]),(.int .i64 x5)] [] (.int .i64 r) []:=by
 unfold rS at h
 obtain⟨x6,e0,h⟩:=bsm h
 cases x6 with
 | inl x7 =>
  simp only[Sum.elim_inl] at h
  obtain rfl:=osi h
  exact Tri.of (x:=X17) aK aR0 [A17_0,.out (.st .normal (aMT))] [⟨(LT.block (uD x1 x2 x3 x4 x5 _ k 0 e0))⟩] (by kernel_rfl)
 | inr x7 =>
  simp only[Sum.elim_inr] at h
  obtain rfl:=osi h
  exact Tri.of (x:=X17) aK aR0 [A17_0,.out (.fin (.int .i64 x7) [])] [⟨(LT.blockFin (id:=0) (uD x1 x2 x3 x4 x5 _ k 0 e0))⟩] (by kernel_rfl)
end Go.Ws

namespace Go.Ws
open Go.Proofs
set_option linter.unusedSimpArgs false
set_option linter.unusedVariables false
set_option maxRecDepth 1000000
set_option maxHeartbeats 4000000
noncomputable def X55:Ctx:=⟨Try.f55,[],true⟩
theorem mS (k:Nat) (x1:aL) (x2:aN) (x3:Ty7) (x4:a8) (x5:Int) (x6:Int) (x7:aL) (x8:Bool) (x9:Int) (r:aL × aN × Ty7 × a8) (h:lO k x1 x2 x3 x4 x5 x6 x7 x8 x9=some r):Tri Try.prog 55 [(.agg [(.sl 2 (List.map aB x1)),(.sl 3 (List.map aA x2)),(.sl 5 (List.map aD x3)),(.sl 4 (List.map aC x4))]),(.int .i64 x5),(.agg [(.int .i64 x6),(.sl 2 (List.map aB x7)),(.bool x8),(.int .i64 x9)])] [] (.agg [(.sl 2 (List.map aB r.1)),(.sl 3 (List.map aA r.2.1)),(.sl 5 (List.map aD r.2.2.1)),(.sl 4 (List.map aC r.2.2.2))]) []:=by
 unfold lO at h
 by_cases c0:bJ (x3.length*56)=true
 · rw[if_pos c0] at h
   by_cases c1:inI x5 x3.length=true
   · rw[if_pos c1] at h
     obtain⟨x10,e2,h⟩:=bsm h
     obtain rfl:=osi h
     exact Tri.of (x:=X55) aK facts55 [.n x3.length,.row [(.int .i64 x10.1)],.rows (List.map aD (List.set x3 (tN x5) (x10.1,x6,x7,x8,x9))),.rows (List.map aD (List.set x3 (tN x5) (x10.1,x6,x7,x8,x9)))] [⟨(aS aD (l:=(List.set x3 (tN x5) (x10.1,x6,x7,x8,x9))) (n:=x3.length) (by simp:x3.length=List.length (α:=Int × Int × aL × Bool × Int) (List.set x3 (tN x5) (x10.1,x6,x7,x8,x9))))⟩,⟨(bB aD (Nat.le_of_eq (by simp:x3.length=List.length (α:=Int × Int × aL × Bool × Int) (List.set x3 (tN x5) (x10.1,x6,x7,x8,x9)))))⟩,⟨(rX (e:=aD) e2 0 [(.int .i64 x10.1),(.int .i64 x6),(.sl 2 (List.map aB x7)),(.bool x8),(.int .i64 x9)] (x10.1,x6,x7,x8,x9) rfl)⟩,⟨c1⟩,⟨(aI (e:=aD) e2 5 0 1 (by decide))⟩,⟨c1⟩,⟨c0⟩,⟨(aG aD x3)⟩] (by kernel_rfl)
   rw[if_neg c1] at h;replace c1:=eqf c1
   cases h
 rw[if_neg c0] at h;replace c0:=eqf c0
 cases h
end Go.Ws

namespace Go.Ws
open Go.Proofs
set_option linter.unusedSimpArgs false
set_option linter.unusedVariables false
set_option maxRecDepth 1000000
set_option maxHeartbeats 4000000
noncomputable def X94:Ctx:=⟨Try.f94,[],true⟩
noncomputable def L94_0:Code:=at_ Try.f94 [1,0,1,4,5]
def S94_0 (x1:aL) (cA:Int):St:=⟨mkT 42 [(0,(.sl 2 (List.map aB x1))),(3,(.int .i64 cA))],[]⟩
def aM5:St:=⟨mkT 42 [],[]⟩
def O94_0 (x1:aL) (y:lZ):GX:=match y with
 | .inl y=>.st (.exit 0) (aM5)
 | .inr y=>.fin (.bool y) []
theorem oY (x1:aL) (y:lZ):∀(k:Nat) (cA:Int),fE k x1 cA=some y→LT Try.prog X94 L94_0 (S94_0 x1 cA) (O94_0 x1 y)
 | 0,cA,h=>by cases h
 | k+1,cA,h=>by
  rw[fE] at h
  by_cases cL0:ltI cA (nI x1.length)=true
  · rw[if_pos cL0] at h
    by_cases cL1:inI cA x1.length=true
    · rw[if_pos cL1] at h
      obtain⟨iA,eL2,h⟩:=bsm h
      by_cases cL3:ltI iA.1 64=true
      · rw[if_pos cL3] at h
        by_cases cL4:eqI iA.2 0=true
        · rw[if_pos cL4] at h
          obtain rfl:=osi h
          show LT _ _ _ _ (.fin (.bool false) [])
          exact LT.done aK (hs:=⟨[],[],false,[],[]⟩) (es:=none) [.n x1.length,dt,.n x1.length,.row [(.int .u8 iA.1)],df,df,df,.n x1.length,df,df,.row [(.int .i64 iA.2)],df,df,dt,dt,dt,dt,dt,dt] [⟨rT⟩,⟨cL4⟩,⟨cL4⟩,⟨cL4⟩,⟨cL4⟩,⟨cL4⟩,⟨(nF cL3)⟩,⟨(nF cL3)⟩,⟨(aI (e:=aB) eL2 2 1 1 (by decide))⟩,⟨(nF cL3)⟩,⟨(nF cL3)⟩,⟨cL1⟩,⟨(aG aB x1)⟩,⟨(nF cL3)⟩,⟨(nF cL3)⟩,⟨(nF cL3)⟩,⟨(aI (e:=aB) eL2 2 0 1 (by decide))⟩,⟨cL1⟩,⟨(aG aB x1)⟩,⟨cL0⟩,⟨(aG aB x1)⟩] (by kernel_rfl) (fun s h=>by cases h)
        rw[if_neg cL4] at h;replace cL4:=eqf cL4
        by_cases cL5:ltI 0 cA=true
        · rw[if_pos cL5] at h
          by_cases cL6:inI (o6 .i64 cA 1) x1.length=true
          · rw[if_pos cL6] at h
            obtain⟨xT,eL7,h⟩:=bsm h
            by_cases cL8:ltI xT.1 iA.1=true
            · rw[if_pos cL8] at h
              exact LT.next aK (hs:=⟨[(0,[]),(3,[])],[],false,[],[]⟩) (es:=none) [.n x1.length,dt,.n x1.length,.row [(.int .u8 iA.1)],df,df,df,.n x1.length,df,df,.row [(.int .i64 iA.2)],df,df,df,df,df,dt,dt,dt,dt,.n x1.length,dt,dt,.row [(.int .u8 xT.1)],dt,dt,dt,.n x1.length,dt,dt,.row [(.int .u8 iA.1)],dt,df,dt,df,df] [⟨(nF cL8)⟩,⟨cL4⟩,⟨cL5⟩,⟨cL4⟩,⟨cL5⟩,⟨(aI (e:=aB) eL2 2 0 1 (by decide))⟩,⟨cL5⟩,⟨cL5⟩,⟨cL1⟩,⟨(aG aB x1)⟩,⟨cL5⟩,⟨cL5⟩,⟨cL5⟩,⟨(aI (e:=aB) eL7 2 0 1 (by decide))⟩,⟨cL5⟩,⟨cL5⟩,⟨cL6⟩,⟨(aG aB x1)⟩,⟨cL5⟩,⟨cL5⟩,⟨cL5⟩,⟨cL5⟩,⟨cL4⟩,⟨cL4⟩,⟨cL4⟩,⟨(nF cL3)⟩,⟨(nF cL3)⟩,⟨(aI (e:=aB) eL2 2 1 1 (by decide))⟩,⟨(nF cL3)⟩,⟨(nF cL3)⟩,⟨cL1⟩,⟨(aG aB x1)⟩,⟨(nF cL3)⟩,⟨(nF cL3)⟩,⟨(nF cL3)⟩,⟨(aI (e:=aB) eL2 2 0 1 (by decide))⟩,⟨cL1⟩,⟨(aG aB x1)⟩,⟨cL0⟩,⟨(aG aB x1)⟩] (by kernel_rfl) (oY x1 y k (aO .i64 cA 1) h)
            rw[if_neg cL8] at h;replace cL8:=eqf cL8
            obtain rfl:=osi h
            show LT _ _ _ _ (.fin (.bool false) [])
            exact LT.done aK (hs:=⟨[],[],false,[],[]⟩) (es:=none) [.n x1.length,dt,.n x1.length,.row [(.int .u8 iA.1)],df,df,df,.n x1.length,df,df,.row [(.int .i64 iA.2)],df,df,df,df,df,dt,dt,dt,dt,.n x1.length,dt,dt,.row [(.int .u8 xT.1)],dt,dt,dt,.n x1.length,dt,dt,.row [(.int .u8 iA.1)],dt,df,dt,df,dt] [⟨(nT cL8)⟩,⟨cL4⟩,⟨cL5⟩,⟨cL4⟩,⟨cL5⟩,⟨(aI (e:=aB) eL2 2 0 1 (by decide))⟩,⟨cL5⟩,⟨cL5⟩,⟨cL1⟩,⟨(aG aB x1)⟩,⟨cL5⟩,⟨cL5⟩,⟨cL5⟩,⟨(aI (e:=aB) eL7 2 0 1 (by decide))⟩,⟨cL5⟩,⟨cL5⟩,⟨cL6⟩,⟨(aG aB x1)⟩,⟨cL5⟩,⟨cL5⟩,⟨cL5⟩,⟨cL5⟩,⟨cL4⟩,⟨cL4⟩,⟨cL4⟩,⟨(nF cL3)⟩,⟨(nF cL3)⟩,⟨(aI (e:=aB) eL2 2 1 1 (by decide))⟩,⟨(nF cL3)⟩,⟨(nF cL3)⟩,⟨cL1⟩,⟨(aG aB x1)⟩,⟨(nF cL3)⟩,⟨(nF cL3)⟩,⟨(nF cL3)⟩,⟨(aI (e:=aB) eL2 2 0 1 (by decide))⟩,⟨cL1⟩,⟨(aG aB x1)⟩,⟨cL0⟩,⟨(aG aB x1)⟩] (by kernel_rfl) (fun s h=>by cases h)
          rw[if_neg cL6] at h;replace cL6:=eqf cL6
          cases h
        rw[if_neg cL5] at h;replace cL5:=eqf cL5
        exact LT.next aK (hs:=⟨[(0,[]),(3,[])],[],false,[],[]⟩) (es:=none) [.n x1.length,dt,.n x1.length,.row [(.int .u8 iA.1)],df,df,df,.n x1.length,df,df,.row [(.int .i64 iA.2)],df,df,df,df,df,df,df,df,df,df,df,df,df,df,df,df,df,df,df,df,df] [⟨rF⟩,⟨cL4⟩,⟨cL5⟩,⟨cL4⟩,⟨cL5⟩,⟨cL5⟩,⟨cL5⟩,⟨cL5⟩,⟨cL5⟩,⟨cL5⟩,⟨cL5⟩,⟨cL5⟩,⟨cL5⟩,⟨cL5⟩,⟨cL5⟩,⟨cL5⟩,⟨cL4⟩,⟨cL4⟩,⟨cL4⟩,⟨(nF cL3)⟩,⟨(nF cL3)⟩,⟨(aI (e:=aB) eL2 2 1 1 (by decide))⟩,⟨(nF cL3)⟩,⟨(nF cL3)⟩,⟨cL1⟩,⟨(aG aB x1)⟩,⟨(nF cL3)⟩,⟨(nF cL3)⟩,⟨(nF cL3)⟩,⟨(aI (e:=aB) eL2 2 0 1 (by decide))⟩,⟨cL1⟩,⟨(aG aB x1)⟩,⟨cL0⟩,⟨(aG aB x1)⟩] (by kernel_rfl) (oY x1 y k (aO .i64 cA 1) h)
      rw[if_neg cL3] at h;replace cL3:=eqf cL3
      obtain rfl:=osi h
      show LT _ _ _ _ (.fin (.bool false) [])
      exact LT.done aK (hs:=⟨[],[],false,[],[]⟩) (es:=none) [.n x1.length,dt,.n x1.length,.row [(.int .u8 iA.1)],dt,dt,dt,dt,dt,dt,dt,dt,dt,dt,dt,dt,dt] [⟨rT⟩,⟨rT⟩,⟨rT⟩,⟨rT⟩,⟨rT⟩,⟨rT⟩,⟨(nT cL3)⟩,⟨(nT cL3)⟩,⟨(nT cL3)⟩,⟨(nT cL3)⟩,⟨(nT cL3)⟩,⟨(nT cL3)⟩,⟨(nT cL3)⟩,⟨(aI (e:=aB) eL2 2 0 1 (by decide))⟩,⟨cL1⟩,⟨(aG aB x1)⟩,⟨cL0⟩,⟨(aG aB x1)⟩] (by kernel_rfl) (fun s h=>by cases h)
    rw[if_neg cL1] at h;replace cL1:=eqf cL1
    cases h
  rw[if_neg cL0] at h;replace cL0:=eqf cL0
  obtain rfl:=osi h
  show LT _ _ _ _ (.st (.exit 0) (aM5))
  exact LT.done aK (hs:=⟨[],[],false,[],[]⟩) (es:=(some ⟨[],[],false,[],[]⟩)) [.n x1.length,df] [⟨cL0⟩,⟨(aG aB x1)⟩] (by kernel_rfl) (fun s h=>by cases h)
theorem xN (k:Nat) (x1:aL) (r:Bool) (h:r7 k x1=some r):Tri Try.prog 94 [(.sl 2 (List.map aB x1))] [] (.bool r) []:=by
 unfold r7 at h
 obtain⟨x2,e0,h⟩:=bsm h
 cases x2 with
 | inl x3 =>
  simp only[Sum.elim_inl] at h
  obtain rfl:=osi h
  exact Tri.of (x:=X94) aK aRE [.norm 2 ⟨[(0,[]),(3,[])],[],false,[],[]⟩,.out (.st .normal (aM5))] [⟨(LT.block (oY x1 _ k 0 e0))⟩] (by kernel_rfl)
 | inr x3 =>
  simp only[Sum.elim_inr] at h
  obtain rfl:=osi h
  exact Tri.of (x:=X94) aK aRE [.norm 2 ⟨[(0,[]),(3,[])],[],false,[],[]⟩,.out (.fin (.bool x3) [])] [⟨(LT.blockFin (id:=0) (oY x1 _ k 0 e0))⟩] (by kernel_rfl)
end Go.Ws

namespace Go.Ws
open Go.Proofs
set_option linter.unusedSimpArgs false
set_option linter.unusedVariables false
set_option maxRecDepth 1000000
set_option maxHeartbeats 4000000
noncomputable def X81:Ctx:=⟨Try.f81,[],true⟩
noncomputable def L81_0:Code:=at_ Try.f81 [1,1,0,1,4,5]
def S81_0 (x1:aL) (x2:aL) (d5:Int):St:=⟨mkT 33 [(0,(.sl 2 (List.map aB x1))),(1,(.sl 2 (List.map aB x2))),(6,(.int .i64 d5))],[]⟩
def aL5 (x1:aL) (x2:aL):St:=⟨mkT 33 [(0,(.sl 2 (List.map aB x1))),(1,(.sl 2 (List.map aB x2)))],[]⟩
def O81_0 (x1:aL) (x2:aL) (y:(Sum (Unit) (aL × Int))):GX:=match y with
 | .inl y=>.st (.exit 0) (aL5 x1 x2)
 | .inr y=>.fin (.tup [(.sl 2 (List.map aB y.1)),(.int .i64 y.2)]) []
theorem vG (x1:aL) (x2:aL) (y:(Sum (Unit) (aL × Int))):∀(k:Nat) (d5:Int),iM k x1 x2 d5=some y→LT Try.prog X81 L81_0 (S81_0 x1 x2 d5) (O81_0 x1 x2 y)
 | 0,d5,h=>by cases h
 | k+1,d5,h=>by
  rw[iM] at h
  by_cases cL0:ltI d5 (nI x2.length)=true
  · rw[if_pos cL0] at h
    by_cases cL1:inI d5 x2.length=true
    · rw[if_pos cL1] at h
      obtain⟨xU,eL2,h⟩:=bsm h
      by_cases cL3:ltI xU.1 64=true
      · rw[if_pos cL3] at h
        exact LT.next aK (hs:=⟨[(0,[]),(1,[]),(6,[])],[],false,[],[]⟩) (es:=none) [.n x2.length,dt,.n x2.length,.row [(.int .u8 xU.1)],df] [⟨(nF cL3)⟩,⟨(aI (e:=aB) eL2 2 0 1 (by decide))⟩,⟨cL1⟩,⟨(aG aB x2)⟩,⟨cL0⟩,⟨(aG aB x2)⟩] (by kernel_rfl) (vG x1 x2 y k (aO .i64 d5 1) h)
      rw[if_neg cL3] at h;replace cL3:=eqf cL3
      obtain rfl:=osi h
      show LT _ _ _ _ (.fin (.tup [(.sl 2 (List.map aB ((x1,2).1))),(.int .i64 ((x1,2).2))]) [])
      exact LT.done aK (hs:=⟨[],[],false,[],[]⟩) (es:=none) [.n x2.length,dt,.n x2.length,.row [(.int .u8 xU.1)],dt] [⟨(nT cL3)⟩,⟨(aI (e:=aB) eL2 2 0 1 (by decide))⟩,⟨cL1⟩,⟨(aG aB x2)⟩,⟨cL0⟩,⟨(aG aB x2)⟩] (by kernel_rfl) (fun s h=>by cases h)
    rw[if_neg cL1] at h;replace cL1:=eqf cL1
    cases h
  rw[if_neg cL0] at h;replace cL0:=eqf cL0
  obtain rfl:=osi h
  show LT _ _ _ _ (.st (.exit 0) (aL5 x1 x2))
  exact LT.done aK (hs:=⟨[],[],false,[],[]⟩) (es:=(some ⟨[(0,[]),(1,[])],[],false,[],[]⟩)) [.n x2.length,df] [⟨cL0⟩,⟨(aG aB x2)⟩] (by kernel_rfl) (fun s h=>by cases h)
theorem aML (k:Nat) (x1:aL) (x2:aL) (r:aL × Int) (h:v7 k x1 x2=some r):Tri Try.prog 81 [(.sl 2 (List.map aB x1)),(.sl 2 (List.map aB x2))] [] (.tup [(.sl 2 (List.map aB r.1)),(.int .i64 r.2)]) []:=by
 unfold v7 at h
 obtain⟨x3,e0,h⟩:=bsm h
 by_cases c1:x3=true
 · rw[if_pos c1] at h
   obtain⟨x4,e2,h⟩:=bsm h
   cases x4 with
   | inl x5 =>
    simp only[Sum.elim_inl] at h
    by_cases c4:bJ (x1.length*16)=true
    · rw[if_pos c4] at h
      by_cases c5:bJ (((x1++x2).length)*16)=true
      · rw[if_pos c5] at h
        obtain⟨x6,e6,h⟩:=bsm h
        obtain rfl:=osi h
        exact Tri.of (x:=X81) aK aMX [.call ⟨true,[]⟩ (.bool x3) [],df,.norm 2 ⟨[(0,[]),(1,[]),(6,[])],[],false,[],[]⟩,.out (.st .normal (aL5 x1 x2)),.n x1.length,.n ((x1++x2).length),.n x1.length,dt,.rows (List.map aB (x1++x2)),.call ⟨true,[]⟩ (.sl 2 (List.map aB x6)) [],.rows (List.map aB (x1++x2))] [⟨(aOM k (x1++x2) _ e6)⟩,⟨(aS aB (l:=(x1++x2)) (n:=((x1++x2).length)) rfl)⟩,⟨(bB aB (Nat.le_refl ((x1++x2).length)):0+(x1++x2).length≤(List.map aB (x1++x2)).length)⟩,⟨(gQ aB x1 x2)⟩,⟨(eX x1.length)⟩,⟨(aG aB x1)⟩,⟨c5⟩,⟨(by simp only[wl,List.length_map,List.map_nil,List.map_cons]<;>omega:x1.length+(List.map aB x2).length=(x1++x2).length)⟩,⟨c4⟩,⟨(aG aB x1)⟩,⟨(LT.block (vG x1 x2 _ k 0 e2))⟩,⟨(nF c1)⟩,⟨(xN k x1 _ e0)⟩] (by kernel_rfl)
      rw[if_neg c5] at h;replace c5:=eqf c5
      cases h
    rw[if_neg c4] at h;replace c4:=eqf c4
    cases h
   | inr x5 =>
    simp only[Sum.elim_inr] at h
    obtain rfl:=osi h
    exact Tri.of (x:=X81) aK aMX [.call ⟨true,[]⟩ (.bool x3) [],df,.norm 2 ⟨[(0,[]),(1,[]),(6,[])],[],false,[],[]⟩,.out (.fin (.tup [(.sl 2 (List.map aB x5.1)),(.int .i64 x5.2)]) [])] [⟨(LT.blockFin (id:=0) (vG x1 x2 _ k 0 e2))⟩,⟨(nF c1)⟩,⟨(xN k x1 _ e0)⟩] (by kernel_rfl)
 rw[if_neg c1] at h;replace c1:=eqf c1
 obtain rfl:=osi h
 exact Tri.of (x:=X81) aK aMX [.call ⟨true,[]⟩ (.bool x3) [],dt] [⟨(nT c1)⟩,⟨(xN k x1 _ e0)⟩] (by kernel_rfl)
end Go.Ws

namespace Go.Ws
open Go.Proofs
set_option linter.unusedSimpArgs false
set_option linter.unusedVariables false
set_option maxRecDepth 1000000
set_option maxHeartbeats 4000000
noncomputable def X82:Ctx:=⟨Try.f82,[],true⟩
noncomputable def L82_0:Code:=at_ Try.f82 [1,1,0,1,4,5]
def S82_0 (x1:aN) (x2:Int) (dI:Int) (bF:aN):St:=⟨mkT 28 [(0,(.sl 3 (List.map aA x1))),(1,(.int .i64 x2)),(5,(.ref 3 0 0 0 bF.length .virt)),(6,(.int .i64 dI))],[(.arr 3 (List.map aA bF) 0 0 false)]⟩
def aM4 (aPY:aN):St:=⟨mkT 28 [(5,(.ref 3 0 0 0 aPY.length .virt))],[(.arr 3 (List.map aA aPY) 0 0 false)]⟩
def O82_0 (x1:aN) (x2:Int) (y:(aN)):GX:=.st (.exit 0) (aM4 y)
theorem tT (x1:aN) (x2:Int) (y:(aN)):∀(k:Nat) (dI:Int) (bF:aN),f5 k x1 x2 dI bF=some y→LT Try.prog X82 L82_0 (S82_0 x1 x2 dI bF) (O82_0 x1 x2 y)
 | 0,dI,bF,h=>by cases h
 | k+1,dI,bF,h=>by
  rw[f5] at h
  by_cases cL0:ltI dI (nI x1.length)=true
  · rw[if_pos cL0] at h
    by_cases cL1:inI dI x1.length=true
    · rw[if_pos cL1] at h
      obtain⟨eD,eL2,h⟩:=bsm h
      by_cases cL3:eqI eD.2.1 x2=true
      · rw[if_pos cL3] at h
        exact LT.next aK (hs:=⟨[(0,[]),(1,[]),(5,[]),(6,[])],[⟨.tmp 5,[],some 3⟩],false,[],[]⟩) (es:=none) [.n x1.length,dt,.n x1.length,.row [(.int .i64 eD.2.1)],df,.n bF.length,.rows (List.map aA bF)] [⟨(bU aA (l:=bF) (n:=bF.length) rfl)⟩,⟨(rfl:bF.length=bF.length)⟩,⟨(zle bF.length)⟩,⟨(nF cL3)⟩,⟨(aI (e:=aA) eL2 3 1 1 (by decide))⟩,⟨cL1⟩,⟨(aG aA x1)⟩,⟨cL0⟩,⟨(aG aA x1)⟩] (by kernel_rfl) (tT x1 x2 y k (aO .i64 dI 1) bF h)
      rw[if_neg cL3] at h;replace cL3:=eqf cL3
      by_cases cL4:bJ (((bF++[eD]).length)*24)=true
      · rw[if_pos cL4] at h
        exact LT.next aK (hs:=⟨[(0,[]),(1,[]),(5,[]),(6,[])],[⟨.tmp 5,[],some 3⟩],false,[],[]⟩) (es:=none) [.n x1.length,dt,.n x1.length,.row [(.int .i64 eD.2.1)],dt,.n x1.length,.row [(.int .u8 eD.1),(.int .i64 eD.2.1),(.bool eD.2.2)],.rows (List.map aA [eD]),.n ((bF++[eD]).length),.n bF.length,dt,.rows (List.map aA (bF++[eD])),.n ((bF++[eD]).length),.rows (List.map aA (bF++[eD]))] [⟨(bU aA (l:=(bF++[eD])) (n:=((bF++[eD]).length)) rfl)⟩,⟨(rfl:(bF++[eD]).length=(bF++[eD]).length)⟩,⟨(zle ((bF++[eD]).length))⟩,⟨(gQ aA bF [eD])⟩,⟨(eX bF.length)⟩,⟨(aG aA bF)⟩,⟨cL4⟩,⟨(by simp only[wl,List.length_map,List.map_nil,List.map_cons]<;>omega:bF.length+(List.map aA [eD]).length=(bF++[eD]).length)⟩,⟨(aS aA (l:=[eD]) (n:=1) rfl)⟩,⟨(bB aA (Nat.le_refl 1):0+1≤(List.map aA [eD]).length)⟩,⟨(aI (e:=aA) eL2 3 0 3 (by decide))⟩,⟨cL1⟩,⟨(aG aA x1)⟩,⟨(nT cL3)⟩,⟨(aI (e:=aA) eL2 3 1 1 (by decide))⟩,⟨cL1⟩,⟨(aG aA x1)⟩,⟨cL0⟩,⟨(aG aA x1)⟩] (by kernel_rfl) (tT x1 x2 y k (aO .i64 dI 1) (bF++[eD]) h)
      rw[if_neg cL4] at h;replace cL4:=eqf cL4
      cases h
    rw[if_neg cL1] at h;replace cL1:=eqf cL1
    cases h
  rw[if_neg cL0] at h;replace cL0:=eqf cL0
  obtain rfl:=osi h
  show LT _ _ _ _ (.st (.exit 0) (aM4 bF))
  exact LT.done aK (hs:=⟨[],[],false,[],[]⟩) (es:=(some ⟨[(5,[])],[⟨.tmp 5,[],none⟩],false,[],[]⟩)) [.n x1.length,df] [⟨cL0⟩,⟨(aG aA x1)⟩] (by kernel_rfl) (fun s h=>by cases h)
theorem aKK (k:Nat) (x1:aN) (x2:Int) (r:aN) (h:tY k x1 x2=some r):Tri Try.prog 82 [(.sl 3 (List.map aA x1)),(.int .i64 x2)] [] (.sl 3 (List.map aA r)) []:=by
 unfold tY at h
 obtain⟨x4,e0,h⟩:=bsm h
 obtain rfl:=osi h
 exact Tri.of (x:=X82) aK facts82 [.norm 2 ⟨[(0,[]),(1,[]),(5,[]),(6,[])],[⟨.tmp 5,[],some 3⟩],false,[],[]⟩,.n 0,.rows (List.map aA []),.out (.st .normal (aM4 x4)),.rows (List.map aA x4)] [⟨(aS aA (l:=x4) (n:=x4.length) rfl)⟩,⟨(bB aA (Nat.le_refl x4.length):0+x4.length≤(List.map aA x4).length)⟩,⟨(LT.block (tT x1 x2 _ k 0 [] e0))⟩,⟨(bU aA (l:=[]) (n:=0) rfl)⟩,⟨(rfl:0=0)⟩,⟨(zle 0)⟩] (by kernel_rfl)
end Go.Ws

namespace Go.Ws
open Go.Proofs
set_option linter.unusedSimpArgs false
set_option linter.unusedVariables false
set_option maxRecDepth 1000000
set_option maxHeartbeats 4000000
noncomputable def X57:Ctx:=⟨Try.f57,[],true⟩
theorem oG (k:Nat) (x1:aL) (x2:aN) (x3:Ty7) (x4:a8) (x5:Int) (x6:aL) (r:aL × aN × Ty7 × a8) (h:j5 k x1 x2 x3 x4 x5 x6=some r):Tri Try.prog 57 [(.agg [(.sl 2 (List.map aB x1)),(.sl 3 (List.map aA x2)),(.sl 5 (List.map aD x3)),(.sl 4 (List.map aC x4))]),(.int .i64 x5),(.sl 2 (List.map aB x6))] [] (.agg [(.sl 2 (List.map aB r.1)),(.sl 3 (List.map aA r.2.1)),(.sl 5 (List.map aD r.2.2.1)),(.sl 4 (List.map aC r.2.2.2))]) []:=by
 unfold j5 at h
 obtain⟨x7,e0,h⟩:=bsm h
 obtain⟨x8,e1,h⟩:=bsm h
 obtain rfl:=osi h
 exact Tri.of (x:=X57) aK facts57 [.call ⟨true,[]⟩ (.tup [(.sl 2 (List.map aB x7.1)),(.int .i64 x7.2)]) [],.call ⟨true,[]⟩ (.sl 3 (List.map aA x8)) []] [⟨(aKK k x2 x5 _ e1)⟩,⟨(aML k x1 x6 _ e0)⟩] (by kernel_rfl)
end Go.Ws

namespace Go.Ws
open Go.Proofs
set_option linter.unusedSimpArgs false
set_option linter.unusedVariables false
set_option maxRecDepth 1000000
set_option maxHeartbeats 4000000
noncomputable def X40:Ctx:=⟨Try.f40,[],true⟩
def aBK (x10:Int × Int × aL × Bool × Int):Ans:=.row [(.int .i64 x10.2.1),(.sl 2 (List.map aB x10.2.2.1)),(.bool x10.2.2.2.1),(.int .i64 x10.2.2.2.2)]
def A40_1 (x11:Int × aL × Bool × Int × Int):Ans:=.call ⟨true,[]⟩ (.tup [(.agg [(.int .i64 x11.1),(.sl 2 (List.map aB x11.2.1)),(.bool x11.2.2.1),(.int .i64 x11.2.2.2.1)]),(.int .i64 x11.2.2.2.2)]) []
def aK2 (x12:aL × aN × Ty7 × a8):Ans:=.call ⟨true,[]⟩ (.agg [(.sl 2 (List.map aB x12.1)),(.sl 3 (List.map aA x12.2.1)),(.sl 5 (List.map aD x12.2.2.1)),(.sl 4 (List.map aC x12.2.2.2))]) []
def aG4 (x11:Int × aL × Bool × Int × aL × Int):Ans:=.call ⟨true,[]⟩ (.tup [(.agg [(.int .i64 x11.1),(.sl 2 (List.map aB x11.2.1)),(.bool x11.2.2.1),(.int .i64 x11.2.2.2.1)]),(.sl 2 (List.map aB x11.2.2.2.2.1)),(.int .i64 x11.2.2.2.2.2)]) []
def A40_4 (x13:aL × aN × Ty7 × a8):Ans:=.call ⟨true,[]⟩ (.agg [(.sl 2 (List.map aB x13.1)),(.sl 3 (List.map aA x13.2.1)),(.sl 5 (List.map aD x13.2.2.1)),(.sl 4 (List.map aC x13.2.2.2))]) []
theorem aMS (k:Nat) (x1:aL) (x2:aN) (x3:Ty7) (x4:a8) (x5:Int) (x6:Int) (x7:Int) (x8:Int) (x9:Int) (r:aL × aN × Ty7 × a8 × Int) (h:v8 k x1 x2 x3 x4 x5 x6 x7 x8 x9=some r):Tri Try.prog 40 [(.agg [(.sl 2 (List.map aB x1)),(.sl 3 (List.map aA x2)),(.sl 5 (List.map aD x3)),(.sl 4 (List.map aC x4))]),(.int .i64 x5),(.agg [(.int .i64 x6),(.int .i64 x7),(.int .u8 x8),(.int .i64 x9)])] [] (.tup [(.agg [(.sl 2 (List.map aB r.1)),(.sl 3 (List.map aA r.2.1)),(.sl 5 (List.map aD r.2.2.1)),(.sl 4 (List.map aC r.2.2.2.1))]),(.int .i64 r.2.2.2.2)]) []:=by
 unfold v8 at h
 by_cases c0:inI x5 x3.length=true
 · rw[if_pos c0] at h
   obtain⟨x10,e1,h⟩:=bsm h
   by_cases c2:eqI x6 4=true
   · rw[if_pos c2] at h
     obtain⟨x11,e3,h⟩:=bsm h
     by_cases c4:eqI x11.2.2.2.2 0=true
     · rw[if_pos c4] at h
       obtain⟨x12,e5,h⟩:=bsm h
       by_cases c6:eqI x9 0=true
       · rw[if_pos c6] at h
         obtain⟨x13,e7,h⟩:=bsm h
         obtain rfl:=osi h
         exact Tri.of (x:=X40) aK s9 [.n x3.length,(aBK x10),dt,(A40_1 x11),df,(aK2 x12),dt,.call ⟨true,[[],[],[(0,2)]]⟩ (.agg [(.sl 2 (List.map aB x13.1)),(.sl 3 (List.map aA x13.2.1)),(.sl 5 (List.map aD x13.2.2.1)),(.sl 4 (List.map aC x13.2.2.2))]) []] [⟨(oG k x12.1 x12.2.1 x12.2.2.1 x12.2.2.2 x7 [] _ e7)⟩,⟨c6⟩,⟨(mS k x1 x2 x3 x4 x5 x11.1 x11.2.1 x11.2.2.1 x11.2.2.2.1 _ e5)⟩,⟨(nF c4)⟩,⟨(y5 k x10.2.1 x10.2.2.1 x10.2.2.2.1 x10.2.2.2.2 (!eqI x9 0) _ e3)⟩,⟨c2⟩,⟨(aI (e:=aD) e1 5 1 4 (by decide))⟩,⟨c0⟩,⟨(aG aD x3)⟩] (by kernel_rfl)
       rw[if_neg c6] at h;replace c6:=eqf c6
       obtain rfl:=osi h
       exact Tri.of (x:=X40) aK s9 [.n x3.length,(aBK x10),dt,(A40_1 x11),df,(aK2 x12),df] [⟨c6⟩,⟨(mS k x1 x2 x3 x4 x5 x11.1 x11.2.1 x11.2.2.1 x11.2.2.2.1 _ e5)⟩,⟨(nF c4)⟩,⟨(y5 k x10.2.1 x10.2.2.1 x10.2.2.2.1 x10.2.2.2.2 (!eqI x9 0) _ e3)⟩,⟨c2⟩,⟨(aI (e:=aD) e1 5 1 4 (by decide))⟩,⟨c0⟩,⟨(aG aD x3)⟩] (by kernel_rfl)
     rw[if_neg c4] at h;replace c4:=eqf c4
     obtain rfl:=osi h
     exact Tri.of (x:=X40) aK s9 [.n x3.length,(aBK x10),dt,(A40_1 x11),dt] [⟨(nT c4)⟩,⟨(y5 k x10.2.1 x10.2.2.1 x10.2.2.2.1 x10.2.2.2.2 (!eqI x9 0) _ e3)⟩,⟨c2⟩,⟨(aI (e:=aD) e1 5 1 4 (by decide))⟩,⟨c0⟩,⟨(aG aD x3)⟩] (by kernel_rfl)
   rw[if_neg c2] at h;replace c2:=eqf c2
   by_cases c3:eqI x6 5=true
   · rw[if_pos c3] at h
     obtain⟨x11,e4,h⟩:=bsm h
     by_cases c5:eqI x11.2.2.2.2.2 0=true
     · rw[if_pos c5] at h
       obtain⟨x12,e6,h⟩:=bsm h
       obtain⟨x13,e7,h⟩:=bsm h
       obtain rfl:=osi h
       exact Tri.of (x:=X40) aK s9 [.n x3.length,(aBK x10),df,dt,(aG4 x11),df,(aK2 x12),(A40_4 x13)] [⟨(oG k x12.1 x12.2.1 x12.2.2.1 x12.2.2.2 x7 x11.2.2.2.2.1 _ e7)⟩,⟨(mS k x1 x2 x3 x4 x5 x11.1 x11.2.1 x11.2.2.1 x11.2.2.2.1 _ e6)⟩,⟨(nF c5)⟩,⟨(aB3 k x10.2.1 x10.2.2.1 x10.2.2.2.1 x10.2.2.2.2 _ e4)⟩,⟨c3⟩,⟨c2⟩,⟨(aI (e:=aD) e1 5 1 4 (by decide))⟩,⟨c0⟩,⟨(aG aD x3)⟩] (by kernel_rfl)
     rw[if_neg c5] at h;replace c5:=eqf c5
     obtain rfl:=osi h
     exact Tri.of (x:=X40) aK s9 [.n x3.length,(aBK x10),df,dt,(aG4 x11),dt] [⟨(nT c5)⟩,⟨(aB3 k x10.2.1 x10.2.2.1 x10.2.2.2.1 x10.2.2.2.2 _ e4)⟩,⟨c3⟩,⟨c2⟩,⟨(aI (e:=aD) e1 5 1 4 (by decide))⟩,⟨c0⟩,⟨(aG aD x3)⟩] (by kernel_rfl)
   rw[if_neg c3] at h;replace c3:=eqf c3
   by_cases c4:eqI x9 1=true
   · rw[if_pos c4] at h
     obtain⟨x11,e5,h⟩:=bsm h
     by_cases c6:eqI x11.2.2.2.2.2 0=true
     · rw[if_pos c6] at h
       obtain⟨x12,e7,h⟩:=bsm h
       obtain⟨x13,e8,h⟩:=bsm h
       obtain rfl:=osi h
       exact Tri.of (x:=X40) aK s9 [.n x3.length,(aBK x10),df,df,dt,dt,dt,dt,dt,(aG4 x11),df,(aK2 x12),(A40_4 x13)] [⟨(oG k x12.1 x12.2.1 x12.2.2.1 x12.2.2.2 x7 x11.2.2.2.2.1 _ e8)⟩,⟨(mS k x1 x2 x3 x4 x5 x11.1 x11.2.1 x11.2.2.1 x11.2.2.2.1 _ e7)⟩,⟨(nF c6)⟩,⟨(mF k x10.2.1 x10.2.2.1 x10.2.2.2.1 x10.2.2.2.2 x9 _ e5)⟩,⟨rT⟩,⟨c4⟩,⟨c4⟩,⟨c4⟩,⟨c4⟩,⟨c3⟩,⟨c2⟩,⟨(aI (e:=aD) e1 5 1 4 (by decide))⟩,⟨c0⟩,⟨(aG aD x3)⟩] (by kernel_rfl)
     rw[if_neg c6] at h;replace c6:=eqf c6
     obtain rfl:=osi h
     exact Tri.of (x:=X40) aK s9 [.n x3.length,(aBK x10),df,df,dt,dt,dt,dt,dt,(aG4 x11),dt] [⟨(nT c6)⟩,⟨(mF k x10.2.1 x10.2.2.1 x10.2.2.2.1 x10.2.2.2.2 x9 _ e5)⟩,⟨rT⟩,⟨c4⟩,⟨c4⟩,⟨c4⟩,⟨c4⟩,⟨c3⟩,⟨c2⟩,⟨(aI (e:=aD) e1 5 1 4 (by decide))⟩,⟨c0⟩,⟨(aG aD x3)⟩] (by kernel_rfl)
   rw[if_neg c4] at h;replace c4:=eqf c4
   by_cases c5:eqI x9 2=true
   · rw[if_pos c5] at h
     obtain⟨x11,e6,h⟩:=bsm h
     by_cases c7:eqI x11.2.2.2.2.2 0=true
     · rw[if_pos c7] at h
       obtain⟨x12,e8,h⟩:=bsm h
       obtain⟨x13,e9,h⟩:=bsm h
       obtain rfl:=osi h
       exact Tri.of (x:=X40) aK s9 [.n x3.length,(aBK x10),df,df,df,df,df,df,dt,(aG4 x11),df,(aK2 x12),(A40_4 x13)] [⟨(oG k x12.1 x12.2.1 x12.2.2.1 x12.2.2.2 x7 x11.2.2.2.2.1 _ e9)⟩,⟨(mS k x1 x2 x3 x4 x5 x11.1 x11.2.1 x11.2.2.1 x11.2.2.2.1 _ e8)⟩,⟨(nF c7)⟩,⟨(mF k x10.2.1 x10.2.2.1 x10.2.2.2.1 x10.2.2.2.2 x9 _ e6)⟩,⟨c5⟩,⟨c4⟩,⟨c4⟩,⟨c4⟩,⟨c4⟩,⟨c3⟩,⟨c2⟩,⟨(aI (e:=aD) e1 5 1 4 (by decide))⟩,⟨c0⟩,⟨(aG aD x3)⟩] (by kernel_rfl)
     rw[if_neg c7] at h;replace c7:=eqf c7
     obtain rfl:=osi h
     exact Tri.of (x:=X40) aK s9 [.n x3.length,(aBK x10),df,df,df,df,df,df,dt,(aG4 x11),dt] [⟨(nT c7)⟩,⟨(mF k x10.2.1 x10.2.2.1 x10.2.2.2.1 x10.2.2.2.2 x9 _ e6)⟩,⟨c5⟩,⟨c4⟩,⟨c4⟩,⟨c4⟩,⟨c4⟩,⟨c3⟩,⟨c2⟩,⟨(aI (e:=aD) e1 5 1 4 (by decide))⟩,⟨c0⟩,⟨(aG aD x3)⟩] (by kernel_rfl)
   rw[if_neg c5] at h;replace c5:=eqf c5
   obtain⟨x11,e6,h⟩:=bsm h
   by_cases c7:eqI x11.2.2.2.2.2 0=true
   · rw[if_pos c7] at h
     obtain⟨x12,e8,h⟩:=bsm h
     obtain⟨x13,e9,h⟩:=bsm h
     obtain rfl:=osi h
     exact Tri.of (x:=X40) aK s9 [.n x3.length,(aBK x10),df,df,df,df,df,df,df,(aG4 x11),df,(aK2 x12),(A40_4 x13)] [⟨(oG k x12.1 x12.2.1 x12.2.2.1 x12.2.2.2 x7 x11.2.2.2.2.1 _ e9)⟩,⟨(mS k x1 x2 x3 x4 x5 x11.1 x11.2.1 x11.2.2.1 x11.2.2.2.1 _ e8)⟩,⟨(nF c7)⟩,⟨(mF k x10.2.1 x10.2.2.1 x10.2.2.2.1 x10.2.2.2.2 0 _ e6)⟩,⟨c5⟩,⟨c4⟩,⟨c4⟩,⟨c4⟩,⟨c4⟩,⟨c3⟩,⟨c2⟩,⟨(aI (e:=aD) e1 5 1 4 (by decide))⟩,⟨c0⟩,⟨(aG aD x3)⟩] (by kernel_rfl)
   rw[if_neg c7] at h;replace c7:=eqf c7
   obtain rfl:=osi h
   exact Tri.of (x:=X40) aK s9 [.n x3.length,(aBK x10),df,df,df,df,df,df,df,(aG4 x11),dt] [⟨(nT c7)⟩,⟨(mF k x10.2.1 x10.2.2.1 x10.2.2.2.1 x10.2.2.2.2 0 _ e6)⟩,⟨c5⟩,⟨c4⟩,⟨c4⟩,⟨c4⟩,⟨c4⟩,⟨c3⟩,⟨c2⟩,⟨(aI (e:=aD) e1 5 1 4 (by decide))⟩,⟨c0⟩,⟨(aG aD x3)⟩] (by kernel_rfl)
 rw[if_neg c0] at h;replace c0:=eqf c0
 cases h
end Go.Ws

namespace Go.Ws
open Go.Proofs
set_option linter.unusedSimpArgs false
set_option linter.unusedVariables false
set_option maxRecDepth 1000000
set_option maxHeartbeats 4000000
noncomputable def X39:Ctx:=⟨Try.f39,[],true⟩
noncomputable def L39_0:Code:=at_ Try.f39 [1,1,1,1,1,1,1,1,1,0,1,4,5]
def S39_0 (x1:aL) (x3:Ty7) (x4:a8) (x6:Int) (x7:Int) (x8:Int) (x9:Int) (x10:Int × Int × aL × Bool × Int) (x11:aN × Int) (eI:Int) (dJ:Int):St:=⟨mkT 99 [(5,(.hp 0 0)),(6,(.hp 1 0)),(9,(.hp 2 0)),(12,(.hp 3 0)),(15,(.int .i64 eI)),(16,(.int .i64 dJ))],[(.row [(.int .i64 x6),(.int .i64 x7),(.int .u8 x8),(.int .i64 x9)]),(.row [.nils,.nils,.nils,.nils]),(.row [(.int .i64 x10.2.1),(.sl 2 (List.map aB x10.2.2.1)),(.bool x10.2.2.2.1),(.int .i64 x10.2.2.2.2)]),(.row [(.sl 2 (List.map aB x1)),(.sl 3 (List.map aA x11.1)),(.sl 5 (List.map aD x3)),(.sl 4 (List.map aC x4))])]⟩
def aMJ (x1:aL) (x3:Ty7) (x4:a8) (x11:aN × Int) (v39002_1:Int):St:=⟨mkT 99 [(6,(.hp 0 0)),(12,(.hp 1 0)),(15,(.int .i64 v39002_1))],[(.row [.nils,.nils,.nils,.nils]),(.row [(.sl 2 (List.map aB x1)),(.sl 3 (List.map aA x11.1)),(.sl 5 (List.map aD x3)),(.sl 4 (List.map aC x4))])]⟩
def O39_0 (x1:aL) (x3:Ty7) (x4:a8) (x6:Int) (x7:Int) (x8:Int) (x9:Int) (x10:Int × Int × aL × Bool × Int) (x11:aN × Int) (y:(Int)):GX:=.st (.exit 0) (aMJ x1 x3 x4 x11 y)
def aOC (x10:Int × Int × aL × Bool × Int):Ans:=.row [(.int .i64 x10.2.1),(.sl 2 (List.map aB x10.2.2.1)),(.bool x10.2.2.2.1),(.int .i64 x10.2.2.2.2)]
def A39_1 (x11:aN × Int):Ans:=.call ⟨true,[]⟩ (.tup [(.sl 3 (List.map aA x11.1)),(.int .i64 x11.2)]) []
def A39_2 (x12:Int × aL × Bool × Int × Int):Ans:=.call ⟨true,[]⟩ (.tup [(.agg [(.int .i64 x12.1),(.sl 2 (List.map aB x12.2.1)),(.bool x12.2.2.1),(.int .i64 x12.2.2.2.1)]),(.int .i64 x12.2.2.2.2)]) []
theorem rI (x1:aL) (x3:Ty7) (x4:a8) (x6:Int) (x7:Int) (x8:Int) (x9:Int) (x10:Int × Int × aL × Bool × Int) (x11:aN × Int) (y:(Int)):∀(k:Nat) (eI:Int) (dJ:Int),eM k x1 x3 x4 x6 x7 x8 x9 x10 x11 eI dJ=some y→LT Try.prog X39 L39_0 (S39_0 x1 x3 x4 x6 x7 x8 x9 x10 x11 eI dJ) (O39_0 x1 x3 x4 x6 x7 x8 x9 x10 x11 y)
 | 0,eI,dJ,h=>by cases h
 | k+1,eI,dJ,h=>by
  rw[eM] at h
  by_cases cL0:ltI dJ (nI x10.2.2.1.length)=true
  · rw[if_pos cL0] at h
    by_cases cL1:inI dJ x10.2.2.1.length=true
    · rw[if_pos cL1] at h
      obtain⟨pX,eL2,h⟩:=bsm h
      by_cases cL3:eqI pX.1 x8=true
      · rw[if_pos cL3] at h
        exact LT.next aK (hs:=⟨[(5,[]),(6,[]),(9,[]),(12,[]),(15,[]),(16,[])],[⟨.tmp 5,[],none⟩,⟨.tmp 6,[],none⟩,⟨.tmp 9,[],none⟩,⟨.tmp 12,[],none⟩],false,[],[]⟩) (es:=none) [.n x10.2.2.1.length,dt,.n x10.2.2.1.length,.row [(.int .u8 pX.1)],dt,.n x10.2.2.1.length,.row [(.int .i64 pX.2)]] [⟨(aI (e:=aB) eL2 2 1 1 (by decide))⟩,⟨cL1⟩,⟨(aG aB x10.2.2.1)⟩,⟨cL3⟩,⟨(aI (e:=aB) eL2 2 0 1 (by decide))⟩,⟨cL1⟩,⟨(aG aB x10.2.2.1)⟩,⟨cL0⟩,⟨(aG aB x10.2.2.1)⟩] (by kernel_rfl) (rI x1 x3 x4 x6 x7 x8 x9 x10 x11 y k (aO .i64 eI pX.2) (aO .i64 dJ 1) h)
      rw[if_neg cL3] at h;replace cL3:=eqf cL3
      exact LT.next aK (hs:=⟨[(5,[]),(6,[]),(9,[]),(12,[]),(15,[]),(16,[])],[⟨.tmp 5,[],none⟩,⟨.tmp 6,[],none⟩,⟨.tmp 9,[],none⟩,⟨.tmp 12,[],none⟩],false,[],[]⟩) (es:=none) [.n x10.2.2.1.length,dt,.n x10.2.2.1.length,.row [(.int .u8 pX.1)],df] [⟨cL3⟩,⟨(aI (e:=aB) eL2 2 0 1 (by decide))⟩,⟨cL1⟩,⟨(aG aB x10.2.2.1)⟩,⟨cL0⟩,⟨(aG aB x10.2.2.1)⟩] (by kernel_rfl) (rI x1 x3 x4 x6 x7 x8 x9 x10 x11 y k eI (aO .i64 dJ 1) h)
    rw[if_neg cL1] at h;replace cL1:=eqf cL1
    cases h
  rw[if_neg cL0] at h;replace cL0:=eqf cL0
  obtain rfl:=osi h
  show LT _ _ _ _ (.st (.exit 0) (aMJ x1 x3 x4 x11 eI))
  exact LT.done aK (hs:=⟨[],[],false,[],[]⟩) (es:=(some ⟨[(6,[]),(12,[]),(15,[])],[⟨.tmp 6,[],none⟩,⟨.tmp 12,[],none⟩],false,[],[]⟩)) [.n x10.2.2.1.length,df] [⟨cL0⟩,⟨(aG aB x10.2.2.1)⟩] (by kernel_rfl) (fun s h=>by cases h)
theorem aHS (k:Nat) (x1:aL) (x2:aN) (x3:Ty7) (x4:a8) (x5:Int) (x6:Int) (x7:Int) (x8:Int) (x9:Int) (r:aL × aN × Ty7 × a8 × Int × Int) (h:qI k x1 x2 x3 x4 x5 x6 x7 x8 x9=some r):Tri Try.prog 39 [(.agg [(.sl 2 (List.map aB x1)),(.sl 3 (List.map aA x2)),(.sl 5 (List.map aD x3)),(.sl 4 (List.map aC x4))]),(.int .i64 x5),(.agg [(.int .i64 x6),(.int .i64 x7),(.int .u8 x8),(.int .i64 x9)])] [] (.tup [(.agg [(.sl 2 (List.map aB r.1)),(.sl 3 (List.map aA r.2.1)),(.sl 5 (List.map aD r.2.2.1)),(.sl 4 (List.map aC r.2.2.2.1))]),(.int .i64 r.2.2.2.2.1),(.int .i64 r.2.2.2.2.2)]) []:=by
 unfold qI at h
 by_cases c0:inI x5 x3.length=true
 · rw[if_pos c0] at h
   obtain⟨x10,e1,h⟩:=bsm h
   by_cases c2:eqI x10.2.1 0=true
   · rw[if_pos c2] at h
     obtain⟨x11,e3,h⟩:=bsm h
     by_cases c4:eqI x11.2 0=true
     · rw[if_pos c4] at h
       by_cases c5:eqI x6 3=true
       · rw[if_pos c5] at h
         obtain⟨x12,e6,h⟩:=bsm h
         by_cases c7:eqI x12.2.2.2.2 0=true
         · rw[if_pos c7] at h
           obtain⟨x13,e8,h⟩:=bsm h
           obtain rfl:=osi h
           exact Tri.of (x:=X39) aK aEW [.n x3.length,(aOC x10),df,(A39_1 x11),df,dt,(A39_2 x12),df,.call ⟨true,[]⟩ (.agg [(.sl 2 (List.map aB x13.1)),(.sl 3 (List.map aA x13.2.1)),(.sl 5 (List.map aD x13.2.2.1)),(.sl 4 (List.map aC x13.2.2.2))]) []] [⟨(mS k x1 x11.1 x3 x4 x5 x12.1 x12.2.1 x12.2.2.1 x12.2.2.2.1 _ e8)⟩,⟨(nF c7)⟩,⟨(aFT k x10.2.1 x10.2.2.1 x10.2.2.2.1 x10.2.2.2.2 x8 x9 _ e6)⟩,⟨c5⟩,⟨(nF c4)⟩,⟨(uJ k x2 x7 x8 (eqI x6 3) _ e3)⟩,⟨(nF c2)⟩,⟨(aI (e:=aD) e1 5 1 4 (by decide))⟩,⟨c0⟩,⟨(aG aD x3)⟩] (by kernel_rfl)
         rw[if_neg c7] at h;replace c7:=eqf c7
         obtain rfl:=osi h
         exact Tri.of (x:=X39) aK aEW [.n x3.length,(aOC x10),df,(A39_1 x11),df,dt,(A39_2 x12),dt] [⟨(nT c7)⟩,⟨(aFT k x10.2.1 x10.2.2.1 x10.2.2.2.1 x10.2.2.2.2 x8 x9 _ e6)⟩,⟨c5⟩,⟨(nF c4)⟩,⟨(uJ k x2 x7 x8 (eqI x6 3) _ e3)⟩,⟨(nF c2)⟩,⟨(aI (e:=aD) e1 5 1 4 (by decide))⟩,⟨c0⟩,⟨(aG aD x3)⟩] (by kernel_rfl)
       rw[if_neg c5] at h;replace c5:=eqf c5
       obtain⟨x12,e6,h⟩:=bsm h
       obtain⟨x14,e7,h⟩:=bsm h
       obtain rfl:=osi h
       exact Tri.of (x:=X39) aK aEW [.n x3.length,(aOC x10),df,(A39_1 x11),df,df,.call ⟨true,[]⟩ (.int .i64 x12) [],.norm 2 ⟨[(5,[]),(6,[]),(9,[]),(12,[]),(15,[]),(16,[])],[⟨.tmp 5,[],none⟩,⟨.tmp 6,[],none⟩,⟨.tmp 9,[],none⟩,⟨.tmp 12,[],none⟩],false,[],[]⟩,.out (.st .normal (aMJ x1 x3 x4 x11 x14))] [⟨(LT.block (rI x1 x3 x4 x6 x7 x8 x9 x10 x11 _ k x12 0 e7))⟩,⟨(aAM k x1 x8 _ e6)⟩,⟨c5⟩,⟨(nF c4)⟩,⟨(uJ k x2 x7 x8 (eqI x6 3) _ e3)⟩,⟨(nF c2)⟩,⟨(aI (e:=aD) e1 5 1 4 (by decide))⟩,⟨c0⟩,⟨(aG aD x3)⟩] (by kernel_rfl)
     rw[if_neg c4] at h;replace c4:=eqf c4
     obtain rfl:=osi h
     exact Tri.of (x:=X39) aK aEW [.n x3.length,(aOC x10),df,(A39_1 x11),dt] [⟨(nT c4)⟩,⟨(uJ k x2 x7 x8 (eqI x6 3) _ e3)⟩,⟨(nF c2)⟩,⟨(aI (e:=aD) e1 5 1 4 (by decide))⟩,⟨c0⟩,⟨(aG aD x3)⟩] (by kernel_rfl)
   rw[if_neg c2] at h;replace c2:=eqf c2
   obtain rfl:=osi h
   exact Tri.of (x:=X39) aK aEW [.n x3.length,(aOC x10),dt] [⟨(nT c2)⟩,⟨(aI (e:=aD) e1 5 1 4 (by decide))⟩,⟨c0⟩,⟨(aG aD x3)⟩] (by kernel_rfl)
 rw[if_neg c0] at h;replace c0:=eqf c0
 cases h
end Go.Ws

namespace Go.Ws
open Go.Proofs
set_option linter.unusedSimpArgs false
set_option linter.unusedVariables false
set_option maxRecDepth 1000000
set_option maxHeartbeats 4000000
noncomputable def X28:Ctx:=⟨Try.f28,[],true⟩
theorem aDG (k:Nat) (x1:aL) (x2:aN) (x3:Ty7) (x4:a8) (x5:Int) (x6:Int) (x7:Int) (x8:Int) (r:aL × aN × Ty7 × a8 × Int × Int) (h:tW k x1 x2 x3 x4 x5 x6 x7 x8=some r):Tri Try.prog 28 [(.agg [(.sl 2 (List.map aB x1)),(.sl 3 (List.map aA x2)),(.sl 5 (List.map aD x3)),(.sl 4 (List.map aC x4))]),(.agg [(.int .i64 x5),(.int .i64 x6),(.int .u8 x7),(.int .i64 x8)])] [] (.tup [(.agg [(.sl 2 (List.map aB r.1)),(.sl 3 (List.map aA r.2.1)),(.sl 5 (List.map aD r.2.2.1)),(.sl 4 (List.map aC r.2.2.2.1))]),(.int .i64 r.2.2.2.2.1),(.int .i64 r.2.2.2.2.2)]) []:=by
 unfold tW at h
 by_cases c0:ltI x5 1=true
 · rw[if_pos c0] at h
   obtain rfl:=osi h
   exact Tri.of (x:=X28) aK vX [dt,dt,dt,dt,dt,dt,dt,dt,dt,dt,dt,dt,dt] [⟨rT⟩,⟨rT⟩,⟨rT⟩,⟨rT⟩,⟨rT⟩,⟨rT⟩,⟨rT⟩,⟨rT⟩,⟨rT⟩,⟨c0⟩,⟨c0⟩,⟨c0⟩,⟨c0⟩] (by kernel_rfl)
 rw[if_neg c0] at h;replace c0:=eqf c0
 by_cases c1:ltI 6 x5=true
 · rw[if_pos c1] at h
   obtain rfl:=osi h
   exact Tri.of (x:=X28) aK vX [df,df,df,df,dt,dt,dt,dt,dt,dt,dt,dt,dt] [⟨rT⟩,⟨rT⟩,⟨rT⟩,⟨rT⟩,⟨rT⟩,⟨c1⟩,⟨c1⟩,⟨c1⟩,⟨c1⟩,⟨c0⟩,⟨c0⟩,⟨c0⟩,⟨c0⟩] (by kernel_rfl)
 rw[if_neg c1] at h;replace c1:=eqf c1
 by_cases c2:ltI x6 0=true
 · rw[if_pos c2] at h
   obtain rfl:=osi h
   exact Tri.of (x:=X28) aK vX [df,df,df,df,df,df,df,df,dt,dt,dt,dt,dt] [⟨rT⟩,⟨c2⟩,⟨c2⟩,⟨c2⟩,⟨c2⟩,⟨c1⟩,⟨c1⟩,⟨c1⟩,⟨c1⟩,⟨c0⟩,⟨c0⟩,⟨c0⟩,⟨c0⟩] (by kernel_rfl)
 rw[if_neg c2] at h;replace c2:=eqf c2
 by_cases c3:ltI x6 1000=true
 · rw[if_pos c3] at h
   obtain⟨x9,e4,h⟩:=bsm h
   by_cases c5:eqI x5 1=true
   · rw[if_pos c5] at h
     by_cases c6:ltI x9 0=true
     · rw[if_pos c6] at h
       by_cases c7:bJ (x3.length*56)=true
       · rw[if_pos c7] at h
         by_cases c8:bJ (((x3++[(x6,0,[],false,0)]).length)*56)=true
         · rw[if_pos c8] at h
           obtain rfl:=osi h
           exact Tri.of (x:=X28) aK vX [df,df,df,df,df,df,df,df,df,df,df,df,df,.call ⟨true,[]⟩ (.int .i64 x9) [],dt,df,.n x3.length,.rows (List.map aD [(x6,0,[],false,0)]),.n ((x3++[(x6,0,[],false,0)]).length),.n x3.length,dt,.rows (List.map aD (x3++[(x6,0,[],false,0)])),.rows (List.map aD (x3++[(x6,0,[],false,0)]))] [⟨(aS aD (l:=(x3++[(x6,0,[],false,0)])) (n:=((x3++[(x6,0,[],false,0)]).length)) rfl)⟩,⟨(bB aD (Nat.le_refl ((x3++[(x6,0,[],false,0)]).length)):0+(x3++[(x6,0,[],false,0)]).length≤(List.map aD (x3++[(x6,0,[],false,0)])).length)⟩,⟨(gQ aD x3 [(x6,0,[],false,0)])⟩,⟨(eX x3.length)⟩,⟨(aG aD x3)⟩,⟨c8⟩,⟨(by simp only[wl,List.length_map,List.map_nil,List.map_cons]<;>omega:x3.length+(List.map aD [(x6,0,[],false,0)]).length=(x3++[(x6,0,[],false,0)]).length)⟩,⟨(aS aD (l:=[(x6,0,[],false,0)]) (n:=1) rfl)⟩,⟨(bB aD (Nat.le_refl 1):0+1≤(List.map aD [(x6,0,[],false,0)]).length)⟩,⟨c7⟩,⟨(aG aD x3)⟩,⟨(nF c6)⟩,⟨c5⟩,⟨(lB k x1 x2 x3 x4 x6 _ e4)⟩,⟨(nF c3)⟩,⟨c2⟩,⟨c2⟩,⟨c2⟩,⟨c2⟩,⟨c1⟩,⟨c1⟩,⟨c1⟩,⟨c1⟩,⟨c0⟩,⟨c0⟩,⟨c0⟩,⟨c0⟩] (by kernel_rfl)
         rw[if_neg c8] at h;replace c8:=eqf c8
         cases h
       rw[if_neg c7] at h;replace c7:=eqf c7
       cases h
     rw[if_neg c6] at h;replace c6:=eqf c6
     obtain rfl:=osi h
     exact Tri.of (x:=X28) aK vX [df,df,df,df,df,df,df,df,df,df,df,df,df,.call ⟨true,[]⟩ (.int .i64 x9) [],dt,dt] [⟨(nT c6)⟩,⟨c5⟩,⟨(lB k x1 x2 x3 x4 x6 _ e4)⟩,⟨(nF c3)⟩,⟨c2⟩,⟨c2⟩,⟨c2⟩,⟨c2⟩,⟨c1⟩,⟨c1⟩,⟨c1⟩,⟨c1⟩,⟨c0⟩,⟨c0⟩,⟨c0⟩,⟨c0⟩] (by kernel_rfl)
   rw[if_neg c5] at h;replace c5:=eqf c5
   by_cases c6:ltI x9 0=true
   · rw[if_pos c6] at h
     obtain rfl:=osi h
     exact Tri.of (x:=X28) aK vX [df,df,df,df,df,df,df,df,df,df,df,df,df,.call ⟨true,[]⟩ (.int .i64 x9) [],df,dt] [⟨c6⟩,⟨c5⟩,⟨(lB k x1 x2 x3 x4 x6 _ e4)⟩,⟨(nF c3)⟩,⟨c2⟩,⟨c2⟩,⟨c2⟩,⟨c2⟩,⟨c1⟩,⟨c1⟩,⟨c1⟩,⟨c1⟩,⟨c0⟩,⟨c0⟩,⟨c0⟩,⟨c0⟩] (by kernel_rfl)
   rw[if_neg c6] at h;replace c6:=eqf c6
   by_cases c7:ltI 3 x5=true
   · rw[if_pos c7] at h
     obtain⟨x10,e8,h⟩:=bsm h
     obtain rfl:=osi h
     exact Tri.of (x:=X28) aK vX [df,df,df,df,df,df,df,df,df,df,df,df,df,.call ⟨true,[]⟩ (.int .i64 x9) [],df,df,df,.call ⟨true,[]⟩ (.tup [(.agg [(.sl 2 (List.map aB x10.1)),(.sl 3 (List.map aA x10.2.1)),(.sl 5 (List.map aD x10.2.2.1)),(.sl 4 (List.map aC x10.2.2.2.1))]),(.int .i64 x10.2.2.2.2)]) []] [⟨(aMS k x1 x2 x3 x4 x9 x5 x6 x7 x8 _ e8)⟩,⟨(nF c7)⟩,⟨c6⟩,⟨c5⟩,⟨(lB k x1 x2 x3 x4 x6 _ e4)⟩,⟨(nF c3)⟩,⟨c2⟩,⟨c2⟩,⟨c2⟩,⟨c2⟩,⟨c1⟩,⟨c1⟩,⟨c1⟩,⟨c1⟩,⟨c0⟩,⟨c0⟩,⟨c0⟩,⟨c0⟩] (by kernel_rfl)
   rw[if_neg c7] at h;replace c7:=eqf c7
   obtain⟨x10,e8,h⟩:=bsm h
   obtain rfl:=osi h
   exact Tri.of (x:=X28) aK vX [df,df,df,df,df,df,df,df,df,df,df,df,df,.call ⟨true,[]⟩ (.int .i64 x9) [],df,df,dt,.call ⟨true,[]⟩ (.tup [(.agg [(.sl 2 (List.map aB x10.1)),(.sl 3 (List.map aA x10.2.1)),(.sl 5 (List.map aD x10.2.2.1)),(.sl 4 (List.map aC x10.2.2.2.1))]),(.int .i64 x10.2.2.2.2.1),(.int .i64 x10.2.2.2.2.2)]) []] [⟨(aHS k x1 x2 x3 x4 x9 x5 x6 x7 x8 _ e8)⟩,⟨(nT c7)⟩,⟨c6⟩,⟨c5⟩,⟨(lB k x1 x2 x3 x4 x6 _ e4)⟩,⟨(nF c3)⟩,⟨c2⟩,⟨c2⟩,⟨c2⟩,⟨c2⟩,⟨c1⟩,⟨c1⟩,⟨c1⟩,⟨c1⟩,⟨c0⟩,⟨c0⟩,⟨c0⟩,⟨c0⟩] (by kernel_rfl)
 rw[if_neg c3] at h;replace c3:=eqf c3
 obtain rfl:=osi h
 exact Tri.of (x:=X28) aK vX [df,df,df,df,df,df,df,df,df,df,df,df,dt] [⟨(nT c3)⟩,⟨c2⟩,⟨c2⟩,⟨c2⟩,⟨c2⟩,⟨c1⟩,⟨c1⟩,⟨c1⟩,⟨c1⟩,⟨c0⟩,⟨c0⟩,⟨c0⟩,⟨c0⟩] (by kernel_rfl)
end Go.Ws

namespace Go.Ws
open Go.Proofs
set_option linter.unusedSimpArgs false
set_option linter.unusedVariables false
set_option maxRecDepth 1000000
set_option maxHeartbeats 4000000
noncomputable def X15:Ctx:=⟨Try.f15,[],true⟩
def A15_0 (x9:aL × aN × Ty7 × a8 × Int × Int):Ans:=.call ⟨true,[]⟩ (.tup [(.agg [(.sl 2 (List.map aB x9.1)),(.sl 3 (List.map aA x9.2.1)),(.sl 5 (List.map aD x9.2.2.1)),(.sl 4 (List.map aC x9.2.2.2.1))]),(.int .i64 x9.2.2.2.2.1),(.int .i64 x9.2.2.2.2.2)]) []
theorem vD (k:Nat) (x1:aL) (x2:aN) (x3:Ty7) (x4:a8) (x5:Int) (x6:Int) (x7:Int) (x8:Int) (r:aL × aN × Ty7 × a8 × Int × Int) (h:zA k x1 x2 x3 x4 x5 x6 x7 x8=some r):Tri Try.prog 15 [(.agg [(.sl 2 (List.map aB x1)),(.sl 3 (List.map aA x2)),(.sl 5 (List.map aD x3)),(.sl 4 (List.map aC x4))]),(.agg [(.int .i64 x5),(.int .i64 x6),(.int .u8 x7),(.int .i64 x8)])] [] (.tup [(.agg [(.sl 2 (List.map aB r.1)),(.sl 3 (List.map aA r.2.1)),(.sl 5 (List.map aD r.2.2.1)),(.sl 4 (List.map aC r.2.2.2.1))]),(.int .i64 r.2.2.2.2.1),(.int .i64 r.2.2.2.2.2)]) []:=by
 unfold zA at h
 obtain⟨x9,e0,h⟩:=bsm h
 by_cases c1:eqI x9.2.2.2.2.2 0=true
 · rw[if_pos c1] at h
   by_cases c2:bJ (x4.length*32)=true
   · rw[if_pos c2] at h
     by_cases c3:bJ (((x4++[(x5,x6,x7,x8)]).length)*32)=true
     · rw[if_pos c3] at h
       obtain rfl:=osi h
       exact Tri.of (x:=X15) aK aR7 [(A15_0 x9),df,.n x4.length,.rows (List.map aC [(x5,x6,x7,x8)]),.n ((x4++[(x5,x6,x7,x8)]).length),.n x4.length,dt,.rows (List.map aC (x4++[(x5,x6,x7,x8)])),.rows (List.map aC (x4++[(x5,x6,x7,x8)]))] [⟨(aS aC (l:=(x4++[(x5,x6,x7,x8)])) (n:=((x4++[(x5,x6,x7,x8)]).length)) rfl)⟩,⟨(bB aC (Nat.le_refl ((x4++[(x5,x6,x7,x8)]).length)):0+(x4++[(x5,x6,x7,x8)]).length≤(List.map aC (x4++[(x5,x6,x7,x8)])).length)⟩,⟨(gQ aC x4 [(x5,x6,x7,x8)])⟩,⟨(eX x4.length)⟩,⟨(aG aC x4)⟩,⟨c3⟩,⟨(by simp only[wl,List.length_map,List.map_nil,List.map_cons]<;>omega:x4.length+(List.map aC [(x5,x6,x7,x8)]).length=(x4++[(x5,x6,x7,x8)]).length)⟩,⟨(aS aC (l:=[(x5,x6,x7,x8)]) (n:=1) rfl)⟩,⟨(bB aC (Nat.le_refl 1):0+1≤(List.map aC [(x5,x6,x7,x8)]).length)⟩,⟨c2⟩,⟨(aG aC x4)⟩,⟨(nF c1)⟩,⟨(aDG k x1 x2 x3 x4 x5 x6 x7 x8 _ e0)⟩] (by kernel_rfl)
     rw[if_neg c3] at h;replace c3:=eqf c3
     cases h
   rw[if_neg c2] at h;replace c2:=eqf c2
   cases h
 rw[if_neg c1] at h;replace c1:=eqf c1
 obtain rfl:=osi h
 exact Tri.of (x:=X15) aK aR7 [(A15_0 x9),dt] [⟨(nT c1)⟩,⟨(aDG k x1 x2 x3 x4 x5 x6 x7 x8 _ e0)⟩] (by kernel_rfl)
end Go.Ws

namespace Go.Ws
open Go.Proofs
set_option linter.unusedSimpArgs false
set_option linter.unusedVariables false
set_option maxRecDepth 1000000
set_option maxHeartbeats 4000000
noncomputable def X13:Ctx:=⟨Try.f13,[],false⟩
theorem pJ:Tri Try.prog 13 [] [] (.hp 0 0) [(.row [.nils,.nils,(.mp 1),.nils]),(.map (cO .i64 (fun y=>AV.agg (aF y)) ([]:Ty6)) ([]:Ty6).length)]:=by
 obtain⟨r,h⟩:∃r,aI6=r:=⟨_,rfl⟩
 try rw[h]
 unfold aI6 at h
 obtain rfl:=h
 exact Tri.of (x:=X13) aK facts13 [.norm 0 ⟨[(0,[])],[⟨.tmp 0,[],none⟩,⟨.cell 0 2,[],none⟩],false,[],[]⟩] [] (by kernel_rfl)
end Go.Ws

namespace Go.Ws
open Go.Proofs
set_option linter.unusedSimpArgs false
set_option linter.unusedVariables false
set_option maxRecDepth 1000000
set_option maxHeartbeats 4000000
noncomputable def X26_3 (x1:aL) (x2:aN) (x3:Ty6) (x4:a8):Ctx:=⟨Try.f26,[(.row [(.sl 2 (List.map aB x1)),(.sl 3 (List.map aA x2)),(.mp 1),(.ref 4 2 0 0 x4.length .virt)]),(.map (cO .i64 (fun y=>AV.agg (aF y)) x3) x3.length),(.arr 4 (List.map aC x4) 0 0 true)],false⟩
theorem cE (x1:aL) (x2:aN) (x3:Ty6) (x4:a8):Tri Try.prog 26 [(.hp 0 0)] [(.row [(.sl 2 (List.map aB x1)),(.sl 3 (List.map aA x2)),(.mp 1),(.ref 4 2 0 0 x4.length .virt)]),(.map (cO .i64 (fun y=>AV.agg (aF y)) x3) x3.length),(.arr 4 (List.map aC x4) 0 0 true)] (.bool (!false)) [(.row [(.sl 2 (List.map aB x1)),(.sl 3 (List.map aA x2)),(.mp 1),(.ref 4 2 0 0 x4.length .virt)]),(.map (cO .i64 (fun y=>AV.agg (aF y)) x3) x3.length),(.arr 4 (List.map aC x4) 0 0 true)]:=by
 obtain⟨r,h⟩:∃r,t6 x1 x2 x3 x4=r:=⟨_,rfl⟩
 try rw[h]
 unfold t6 at h
 obtain rfl:=h
 exact Tri.of (x:=(X26_3 x1 x2 x3 x4)) aK aQ6 [dt,dt,dt,dt,dt,dt,.norm 0 ⟨[(2,[])],[],false,[],[]⟩] [⟨(nT rfl)⟩,⟨(nT rfl)⟩,⟨(nT rfl)⟩,⟨(nT rfl)⟩,⟨(nT rfl)⟩,⟨(nT rfl)⟩] (by kernel_rfl)
end Go.Ws

namespace Go.Ws
open Go.Proofs
set_option linter.unusedSimpArgs false
set_option linter.unusedVariables false
set_option maxRecDepth 1000000
set_option maxHeartbeats 4000000
noncomputable def aJM (x9:aL) (x10:aN) (x11:Ty6) (x12:a8):Ctx:=⟨Try.f37,[(.row [(.sl 2 (List.map aB x9)),(.sl 3 (List.map aA x10)),(.mp 1),(.ref 4 2 0 0 x12.length .virt)]),(.map (cO .i64 (fun y=>AV.agg (aF y)) x11) x11.length),(.arr 4 (List.map aC x12) 0 0 true)],false⟩
noncomputable def L37_3_0:Code:=at_ Try.f37 [1,1,1,1,1,1,1,0,1,4,5]
def S37_3_0 (x2:aL) (x5:Int) (x6:Int) (x7:Int) (x8:Int) (x9:aL) (x11:Ty6) (x12:a8) (x13:aN × Int) (dA:Int) (cL:Int):St:=⟨mkT 92 [(5,(.hp 3 0)),(10,(.int .i64 dA)),(75,(.sl 2 (List.map aB x2))),(76,(.int .i64 (nI x2.length))),(77,(.int .i64 cL))],[(.row [(.sl 2 (List.map aB x9)),(.sl 3 (List.map aA x13.1)),(.mp 1),(.ref 4 2 0 0 x12.length .virt)]),(.map (cO .i64 (fun y=>AV.agg (aF y)) x11) x11.length),(.arr 4 (List.map aC x12) 0 0 true),(.row [(.int .i64 x5),(.int .i64 x6),(.int .u8 x7),(.int .i64 x8)])]⟩
def aGD (x9:aL) (x11:Ty6) (x12:a8) (x13:aN × Int) (aTX:Int):St:=⟨mkT 92 [(10,(.int .i64 aTX))],[(.row [(.sl 2 (List.map aB x9)),(.sl 3 (List.map aA x13.1)),(.mp 1),(.ref 4 2 0 0 x12.length .virt)]),(.map (cO .i64 (fun y=>AV.agg (aF y)) x11) x11.length),(.arr 4 (List.map aC x12) 0 0 true)]⟩
def O37_3_0 (x2:aL) (x5:Int) (x6:Int) (x7:Int) (x8:Int) (x9:aL) (x10:aN) (x11:Ty6) (x12:a8) (x13:aN × Int) (y:(Int)):GX:=.st (.exit 0) (aGD x9 x11 x12 x13 y)
def aFJ (x13:aN × Int):Ans:=.call ⟨true,[]⟩ (.tup [(.sl 3 (List.map aA x13.1)),(.int .i64 x13.2)]) []
def aNH (x14:Int × aL × Bool × Int × Int):Ans:=.call ⟨true,[]⟩ (.tup [(.agg [(.int .i64 x14.1),(.sl 2 (List.map aB x14.2.1)),(.bool x14.2.2.1),(.int .i64 x14.2.2.2.1)]),(.int .i64 x14.2.2.2.2)]) []
def aCH:Ans:=.norm 0 ⟨[(6,[]),(7,[])],[],false,[],[]⟩
theorem mY (x2:aL) (x5:Int) (x6:Int) (x7:Int) (x8:Int) (x9:aL) (x10:aN) (x11:Ty6) (x12:a8) (x13:aN × Int) (y:(Int)):∀(k:Nat) (dA:Int) (cL:Int),b7 k x2 x5 x6 x7 x8 x9 x10 x11 x12 x13 dA cL=some y→LT Try.prog (aJM x9 x10 x11 x12) L37_3_0 (S37_3_0 x2 x5 x6 x7 x8 x9 x11 x12 x13 dA cL) (O37_3_0 x2 x5 x6 x7 x8 x9 x10 x11 x12 x13 y)
 | 0,dA,cL,h=>by cases h
 | k+1,dA,cL,h=>by
  rw[b7] at h
  by_cases cL0:ltI cL (nI x2.length)=true
  · rw[if_pos cL0] at h
    by_cases cL1:inI cL x2.length=true
    · rw[if_pos cL1] at h
      obtain⟨mG,eL2,h⟩:=bsm h
      by_cases cL3:eqI mG.1 x7=true
      · rw[if_pos cL3] at h
        exact LT.next aK (hs:=⟨[(5,[]),(10,[]),(75,[]),(76,[]),(77,[])],[⟨.tmp 5,[],none⟩],false,[],[]⟩) (es:=none) [dt,.n x2.length,.row [(.int .u8 mG.1),(.int .i64 mG.2)],dt] [⟨cL3⟩,⟨(aI (e:=aB) eL2 2 0 2 (by decide))⟩,⟨cL1⟩,⟨(aG aB x2)⟩,⟨cL0⟩] (by kernel_rfl) (mY x2 x5 x6 x7 x8 x9 x10 x11 x12 x13 y k (aO .i64 dA mG.2) (aO .i64 cL 1) h)
      rw[if_neg cL3] at h;replace cL3:=eqf cL3
      exact LT.next aK (hs:=⟨[(5,[]),(10,[]),(75,[]),(76,[]),(77,[])],[⟨.tmp 5,[],none⟩],false,[],[]⟩) (es:=none) [dt,.n x2.length,.row [(.int .u8 mG.1),(.int .i64 mG.2)],df] [⟨cL3⟩,⟨(aI (e:=aB) eL2 2 0 2 (by decide))⟩,⟨cL1⟩,⟨(aG aB x2)⟩,⟨cL0⟩] (by kernel_rfl) (mY x2 x5 x6 x7 x8 x9 x10 x11 x12 x13 y k dA (aO .i64 cL 1) h)
    rw[if_neg cL1] at h;replace cL1:=eqf cL1
    cases h
  rw[if_neg cL0] at h;replace cL0:=eqf cL0
  obtain rfl:=osi h
  show LT _ _ _ _ (.st (.exit 0) (aGD x9 x11 x12 x13 dA))
  exact LT.done aK (hs:=⟨[],[],false,[],[]⟩) (es:=(some ⟨[(10,[])],[],false,[],[]⟩)) [df] [⟨cL0⟩] (by kernel_rfl) (fun s h=>by cases h)
theorem tQ (k:Nat) (x1:Int) (x2:aL) (x3:Bool) (x4:Int) (x5:Int) (x6:Int) (x7:Int) (x8:Int) (x9:aL) (x10:aN) (x11:Ty6) (x12:a8) (r:aN × Ty6 × Int × Int) (h:iR k x1 x2 x3 x4 x5 x6 x7 x8 x9 x10 x11 x12=some r):Tri Try.prog 37 [(.hp 0 0),(.agg [(.int .i64 x1),(.sl 2 (List.map aB x2)),(.bool x3),(.int .i64 x4)]),(.agg [(.int .i64 x5),(.int .i64 x6),(.int .u8 x7),(.int .i64 x8)])] [(.row [(.sl 2 (List.map aB x9)),(.sl 3 (List.map aA x10)),(.mp 1),(.ref 4 2 0 0 x12.length .virt)]),(.map (cO .i64 (fun y=>AV.agg (aF y)) x11) x11.length),(.arr 4 (List.map aC x12) 0 0 true)] (.tup [(.int .i64 r.2.2.2),(.int .i64 r.2.2.1)]) [(.row [(.sl 2 (List.map aB x9)),(.sl 3 (List.map aA r.1)),(.mp 1),(.ref 4 2 0 0 x12.length .virt)]),(.map (cO .i64 (fun y=>AV.agg (aF y)) r.2.1) r.2.1.length),(.arr 4 (List.map aC x12) 0 0 true)]:=by
 unfold iR at h
 by_cases c0:eqI x1 0=true
 · rw[if_pos c0] at h
   obtain⟨x13,e1,h⟩:=bsm h
   by_cases c2:eqI x13.2 0=true
   · rw[if_pos c2] at h
     by_cases c3:eqI x5 3=true
     · rw[if_pos c3] at h
       obtain⟨x14,e4,h⟩:=bsm h
       by_cases c5:eqI x14.2.2.2.2 0=true
       · rw[if_pos c5] at h
         by_cases c6:xD x11 x6=true
         · rw[if_pos c6] at h
           obtain⟨x15,e7,h⟩:=bsm h
           obtain rfl:=osi h
           exact Tri.of (x:=(aJM x9 x10 x11 x12)) aK aCV [df,(aFJ x13),df,dt,(aNH x14),df,.opt (some (.agg [(.int .i64 x15.1),(.sl 2 (List.map aB x15.2.1)),(.bool x15.2.2.1),(.int .i64 x15.2.2.2)])),.n (mIx x11 x6),.ents (cO .i64 (fun y=>AV.agg (aF y)) x11) x11.length,.ents (cO .i64 (fun y=>AV.agg (aF y)) (dU x11 x6 (x14.1,x14.2.1,x14.2.2.1,x14.2.2.2.1))) (dU x11 x6 (x14.1,x14.2.1,x14.2.2.1,x14.2.2.2.1)).length,aCH] [⟨(aR8 .i64 (fun y=>AV.agg (aF y)) e7 (x14.1,x14.2.1,x14.2.2.1,x14.2.2.2.1))⟩,⟨(ent_some .i64 (fun y=>AV.agg (aF y)) e7 (.agg [(.int .i64 0),(.sl 2 (List.map aB [])),(.bool false),(.int .i64 0)]))⟩,⟨(aSD .i64 (fun y=>AV.agg (aF y)) x11 x6)⟩,⟨(wC .i64 (fun y=>AV.agg (aF y)) e7)⟩,⟨(nF c5)⟩,⟨(aB2 k x1 x2 x3 x4 x7 x8 _ e4)⟩,⟨c3⟩,⟨(nF c2)⟩,⟨(sR k x10 x6 x7 (eqI x5 3) _ e1)⟩,⟨(nF c0)⟩] (by kernel_rfl)
         rw[if_neg c6] at h;replace c6:=eqf c6
         obtain rfl:=osi h
         exact Tri.of (x:=(aJM x9 x10 x11 x12)) aK aCV [df,(aFJ x13),df,dt,(aNH x14),df,.opt none,.n (mIx x11 x6),.ents (cO .i64 (fun y=>AV.agg (aF y)) (dU x11 x6 (0,[],false,0))) (dU x11 x6 (0,[],false,0)).length,.ents (cO .i64 (fun y=>AV.agg (aF y)) (dU x11 x6 (x14.1,x14.2.1,x14.2.2.1,x14.2.2.2.1))) (dU x11 x6 (x14.1,x14.2.1,x14.2.2.1,x14.2.2.2.1)).length,aCH] [⟨(sb_none .i64 (fun y=>AV.agg (aF y)) (l:=x11) (q:=x6) (0,[],false,0) (x14.1,x14.2.1,x14.2.2.1,x14.2.2.2.1))⟩,⟨(ent_none .i64 (fun y=>AV.agg (aF y)) c6 (0,[],false,0))⟩,⟨(aSD .i64 (fun y=>AV.agg (aF y)) x11 x6)⟩,⟨(wF .i64 (fun y=>AV.agg (aF y)) c6)⟩,⟨(nF c5)⟩,⟨(aB2 k x1 x2 x3 x4 x7 x8 _ e4)⟩,⟨c3⟩,⟨(nF c2)⟩,⟨(sR k x10 x6 x7 (eqI x5 3) _ e1)⟩,⟨(nF c0)⟩] (by kernel_rfl)
       rw[if_neg c5] at h;replace c5:=eqf c5
       obtain rfl:=osi h
       exact Tri.of (x:=(aJM x9 x10 x11 x12)) aK aCV [df,(aFJ x13),df,dt,(aNH x14),dt,aCH] [⟨(nT c5)⟩,⟨(aB2 k x1 x2 x3 x4 x7 x8 _ e4)⟩,⟨c3⟩,⟨(nF c2)⟩,⟨(sR k x10 x6 x7 (eqI x5 3) _ e1)⟩,⟨(nF c0)⟩] (by kernel_rfl)
     rw[if_neg c3] at h;replace c3:=eqf c3
     obtain⟨x14,e4,h⟩:=bsm h
     obtain⟨x16,e5,h⟩:=bsm h
     obtain rfl:=osi h
     exact Tri.of (x:=(aJM x9 x10 x11 x12)) aK aCV [df,(aFJ x13),df,df,.call ⟨true,[]⟩ (.int .i64 x14) [],.n x2.length,.norm 2 ⟨[(5,[]),(10,[]),(75,[]),(76,[]),(77,[])],[⟨.tmp 5,[],none⟩],false,[],[]⟩,.out (.st .normal (aGD x9 x11 x12 x13 x16)),aCH] [⟨(LT.block (mY x2 x5 x6 x7 x8 x9 x10 x11 x12 x13 _ k x14 0 e5))⟩,⟨(aG aB x2)⟩,⟨(yX k x9 x7 _ e4)⟩,⟨c3⟩,⟨(nF c2)⟩,⟨(sR k x10 x6 x7 (eqI x5 3) _ e1)⟩,⟨(nF c0)⟩] (by kernel_rfl)
   rw[if_neg c2] at h;replace c2:=eqf c2
   obtain rfl:=osi h
   exact Tri.of (x:=(aJM x9 x10 x11 x12)) aK aCV [df,(aFJ x13),dt,aCH] [⟨(nT c2)⟩,⟨(sR k x10 x6 x7 (eqI x5 3) _ e1)⟩,⟨(nF c0)⟩] (by kernel_rfl)
 rw[if_neg c0] at h;replace c0:=eqf c0
 obtain rfl:=osi h
 exact Tri.of (x:=(aJM x9 x10 x11 x12)) aK aCV [dt,aCH] [⟨(nT c0)⟩] (by kernel_rfl)
end Go.Ws

namespace Go.Ws
open Go.Proofs
set_option linter.unusedSimpArgs false
set_option linter.unusedVariables false
set_option maxRecDepth 1000000
set_option maxHeartbeats 4000000
noncomputable def aDH (x9:aL) (x10:aN) (x11:Ty6) (x12:a8):Ctx:=⟨Try.f38,[(.row [(.sl 2 (List.map aB x9)),(.sl 3 (List.map aA x10)),(.mp 1),(.ref 4 2 0 0 x12.length .virt)]),(.map (cO .i64 (fun y=>AV.agg (aF y)) x11) x11.length),(.arr 4 (List.map aC x12) 0 0 true)],false⟩
def aM6 (x13:Int × aL × Bool × Int × Int):Ans:=.call ⟨true,[]⟩ (.tup [(.agg [(.int .i64 x13.1),(.sl 2 (List.map aB x13.2.1)),(.bool x13.2.2.1),(.int .i64 x13.2.2.2.1)]),(.int .i64 x13.2.2.2.2)]) []
def aH8 (x15:aN):Ans:=.call ⟨true,[]⟩ (.sl 3 (List.map aA x15)) []
def aCP (x13:Int × aL × Bool × Int × aL × Int):Ans:=.call ⟨true,[]⟩ (.tup [(.agg [(.int .i64 x13.1),(.sl 2 (List.map aB x13.2.1)),(.bool x13.2.2.1),(.int .i64 x13.2.2.2.1)]),(.sl 2 (List.map aB x13.2.2.2.2.1)),(.int .i64 x13.2.2.2.2.2)]) []
def aN0 (x6:Int) (x11:Ty6) (x13:Int × aL × Bool × Int × aL × Int):Ans:=.ents (cO .i64 (fun y=>AV.agg (aF y)) (dU x11 x6 (x13.1,x13.2.1,x13.2.2.1,x13.2.2.2.1))) (dU x11 x6 (x13.1,x13.2.1,x13.2.2.1,x13.2.2.2.1)).length
def aNW (x14:aL × Int):Ans:=.call ⟨true,[]⟩ (.tup [(.sl 2 (List.map aB x14.1)),(.int .i64 x14.2)]) []
theorem aDW (k:Nat) (x1:Int) (x2:aL) (x3:Bool) (x4:Int) (x5:Int) (x6:Int) (x7:Int) (x8:Int) (x9:aL) (x10:aN) (x11:Ty6) (x12:a8) (r:aL × aN × Ty6 × Int) (h:l7 k x1 x2 x3 x4 x5 x6 x7 x8 x9 x10 x11 x12=some r):Tri Try.prog 38 [(.hp 0 0),(.agg [(.int .i64 x1),(.sl 2 (List.map aB x2)),(.bool x3),(.int .i64 x4)]),(.agg [(.int .i64 x5),(.int .i64 x6),(.int .u8 x7),(.int .i64 x8)])] [(.row [(.sl 2 (List.map aB x9)),(.sl 3 (List.map aA x10)),(.mp 1),(.ref 4 2 0 0 x12.length .virt)]),(.map (cO .i64 (fun y=>AV.agg (aF y)) x11) x11.length),(.arr 4 (List.map aC x12) 0 0 true)] (.int .i64 r.2.2.2) [(.row [(.sl 2 (List.map aB r.1)),(.sl 3 (List.map aA r.2.1)),(.mp 1),(.ref 4 2 0 0 x12.length .virt)]),(.map (cO .i64 (fun y=>AV.agg (aF y)) r.2.2.1) r.2.2.1.length),(.arr 4 (List.map aC x12) 0 0 true)]:=by
 unfold l7 at h
 by_cases c0:eqI x5 4=true
 · rw[if_pos c0] at h
   obtain⟨x13,e1,h⟩:=bsm h
   by_cases c2:eqI x13.2.2.2.2 0=true
   · rw[if_pos c2] at h
     obtain⟨x14,e3,h⟩:=bsm h
     by_cases c4:eqI x13.1 2=true
     · rw[if_pos c4] at h
       obtain⟨x15,e5,h⟩:=bsm h
       obtain rfl:=osi h
       exact Tri.of (x:=(aDH x9 x10 x11 x12)) aK uG [dt,(aM6 x13),df,.ents (cO .i64 (fun y=>AV.agg (aF y)) (dU x11 x6 (x13.1,x13.2.1,x13.2.2.1,x13.2.2.2.1))) (dU x11 x6 (x13.1,x13.2.1,x13.2.2.1,x13.2.2.2.1)).length,.call ⟨true,[[],[(0,2)]]⟩ (.tup [(.sl 2 (List.map aB x14.1)),(.int .i64 x14.2)]) [],df,df,df,df,dt,(aH8 x15),.norm 0 ⟨[(6,[])],[],false,[],[]⟩] [⟨(vY k x10 x6 _ e5)⟩,⟨c4⟩,⟨(nF c0)⟩,⟨(nF c0)⟩,⟨(nF c0)⟩,⟨(nF c0)⟩,⟨(qZ k x9 [] _ e3)⟩,⟨(aCX .i64 (fun y=>AV.agg (aF y)) x11 x6 (x13.1,x13.2.1,x13.2.2.1,x13.2.2.2.1))⟩,⟨(nF c2)⟩,⟨(aAT k x1 x2 x3 x4 (!eqI x8 0) _ e1)⟩,⟨c0⟩] (by kernel_rfl)
     rw[if_neg c4] at h;replace c4:=eqf c4
     obtain rfl:=osi h
     exact Tri.of (x:=(aDH x9 x10 x11 x12)) aK uG [dt,(aM6 x13),df,.ents (cO .i64 (fun y=>AV.agg (aF y)) (dU x11 x6 (x13.1,x13.2.1,x13.2.2.1,x13.2.2.2.1))) (dU x11 x6 (x13.1,x13.2.1,x13.2.2.1,x13.2.2.2.1)).length,.call ⟨true,[[],[(0,2)]]⟩ (.tup [(.sl 2 (List.map aB x14.1)),(.int .i64 x14.2)]) [],df,df,df,df,df,.norm 0 ⟨[(6,[])],[],false,[],[]⟩] [⟨c4⟩,⟨(nF c0)⟩,⟨(nF c0)⟩,⟨(nF c0)⟩,⟨(nF c0)⟩,⟨(qZ k x9 [] _ e3)⟩,⟨(aCX .i64 (fun y=>AV.agg (aF y)) x11 x6 (x13.1,x13.2.1,x13.2.2.1,x13.2.2.2.1))⟩,⟨(nF c2)⟩,⟨(aAT k x1 x2 x3 x4 (!eqI x8 0) _ e1)⟩,⟨c0⟩] (by kernel_rfl)
   rw[if_neg c2] at h;replace c2:=eqf c2
   obtain rfl:=osi h
   exact Tri.of (x:=(aDH x9 x10 x11 x12)) aK uG [dt,(aM6 x13),dt,.norm 0 ⟨[(6,[])],[],false,[],[]⟩] [⟨(nT c2)⟩,⟨(aAT k x1 x2 x3 x4 (!eqI x8 0) _ e1)⟩,⟨c0⟩] (by kernel_rfl)
 rw[if_neg c0] at h;replace c0:=eqf c0
 by_cases c1:eqI x5 5=true
 · rw[if_pos c1] at h
   obtain⟨x13,e2,h⟩:=bsm h
   by_cases c3:eqI x13.2.2.2.2.2 0=true
   · rw[if_pos c3] at h
     obtain⟨x14,e4,h⟩:=bsm h
     obtain⟨x15,e5,h⟩:=bsm h
     obtain rfl:=osi h
     exact Tri.of (x:=(aDH x9 x10 x11 x12)) aK uG [df,dt,(aCP x13),df,(aN0 x6 x11 x13),(aNW x14),dt,dt,dt,dt,dt,(aH8 x15),.norm 0 ⟨[(6,[])],[],false,[],[]⟩] [⟨(vY k x10 x6 _ e5)⟩,⟨rT⟩,⟨(nT c0)⟩,⟨(nT c0)⟩,⟨(nT c0)⟩,⟨(nT c0)⟩,⟨(qZ k x9 x13.2.2.2.2.1 _ e4)⟩,⟨(aCX .i64 (fun y=>AV.agg (aF y)) x11 x6 (x13.1,x13.2.1,x13.2.2.1,x13.2.2.2.1))⟩,⟨(nF c3)⟩,⟨(aC9 k x1 x2 x3 x4 _ e2)⟩,⟨c1⟩,⟨c0⟩] (by kernel_rfl)
   rw[if_neg c3] at h;replace c3:=eqf c3
   obtain rfl:=osi h
   exact Tri.of (x:=(aDH x9 x10 x11 x12)) aK uG [df,dt,(aCP x13),dt,.norm 0 ⟨[(6,[])],[],false,[],[]⟩] [⟨(nT c3)⟩,⟨(aC9 k x1 x2 x3 x4 _ e2)⟩,⟨c1⟩,⟨c0⟩] (by kernel_rfl)
 rw[if_neg c1] at h;replace c1:=eqf c1
 by_cases c2:eqI x8 1=true
 · rw[if_pos c2] at h
   obtain⟨x13,e3,h⟩:=bsm h
   by_cases c4:eqI x13.2.2.2.2.2 0=true
   · rw[if_pos c4] at h
     obtain⟨x14,e5,h⟩:=bsm h
     obtain⟨x15,e6,h⟩:=bsm h
     obtain rfl:=osi h
     exact Tri.of (x:=(aDH x9 x10 x11 x12)) aK uG [df,df,dt,dt,dt,dt,dt,(aCP x13),df,(aN0 x6 x11 x13),(aNW x14),dt,dt,dt,dt,dt,(aH8 x15),.norm 0 ⟨[(6,[])],[],false,[],[]⟩] [⟨(vY k x10 x6 _ e6)⟩,⟨rT⟩,⟨(nT c0)⟩,⟨(nT c0)⟩,⟨(nT c0)⟩,⟨(nT c0)⟩,⟨(qZ k x9 x13.2.2.2.2.1 _ e5)⟩,⟨(aCX .i64 (fun y=>AV.agg (aF y)) x11 x6 (x13.1,x13.2.1,x13.2.2.1,x13.2.2.2.1))⟩,⟨(nF c4)⟩,⟨(sQ k x1 x2 x3 x4 x8 _ e3)⟩,⟨rT⟩,⟨c2⟩,⟨c2⟩,⟨c2⟩,⟨c2⟩,⟨c1⟩,⟨c0⟩] (by kernel_rfl)
   rw[if_neg c4] at h;replace c4:=eqf c4
   obtain rfl:=osi h
   exact Tri.of (x:=(aDH x9 x10 x11 x12)) aK uG [df,df,dt,dt,dt,dt,dt,(aCP x13),dt,.norm 0 ⟨[(6,[])],[],false,[],[]⟩] [⟨(nT c4)⟩,⟨(sQ k x1 x2 x3 x4 x8 _ e3)⟩,⟨rT⟩,⟨c2⟩,⟨c2⟩,⟨c2⟩,⟨c2⟩,⟨c1⟩,⟨c0⟩] (by kernel_rfl)
 rw[if_neg c2] at h;replace c2:=eqf c2
 by_cases c3:eqI x8 2=true
 · rw[if_pos c3] at h
   obtain⟨x13,e4,h⟩:=bsm h
   by_cases c5:eqI x13.2.2.2.2.2 0=true
   · rw[if_pos c5] at h
     obtain⟨x14,e6,h⟩:=bsm h
     obtain⟨x15,e7,h⟩:=bsm h
     obtain rfl:=osi h
     exact Tri.of (x:=(aDH x9 x10 x11 x12)) aK uG [df,df,df,df,df,df,dt,(aCP x13),df,(aN0 x6 x11 x13),(aNW x14),dt,dt,dt,dt,dt,(aH8 x15),.norm 0 ⟨[(6,[])],[],false,[],[]⟩] [⟨(vY k x10 x6 _ e7)⟩,⟨rT⟩,⟨(nT c0)⟩,⟨(nT c0)⟩,⟨(nT c0)⟩,⟨(nT c0)⟩,⟨(qZ k x9 x13.2.2.2.2.1 _ e6)⟩,⟨(aCX .i64 (fun y=>AV.agg (aF y)) x11 x6 (x13.1,x13.2.1,x13.2.2.1,x13.2.2.2.1))⟩,⟨(nF c5)⟩,⟨(sQ k x1 x2 x3 x4 x8 _ e4)⟩,⟨c3⟩,⟨c2⟩,⟨c2⟩,⟨c2⟩,⟨c2⟩,⟨c1⟩,⟨c0⟩] (by kernel_rfl)
   rw[if_neg c5] at h;replace c5:=eqf c5
   obtain rfl:=osi h
   exact Tri.of (x:=(aDH x9 x10 x11 x12)) aK uG [df,df,df,df,df,df,dt,(aCP x13),dt,.norm 0 ⟨[(6,[])],[],false,[],[]⟩] [⟨(nT c5)⟩,⟨(sQ k x1 x2 x3 x4 x8 _ e4)⟩,⟨c3⟩,⟨c2⟩,⟨c2⟩,⟨c2⟩,⟨c2⟩,⟨c1⟩,⟨c0⟩] (by kernel_rfl)
 rw[if_neg c3] at h;replace c3:=eqf c3
 obtain rfl:=osi h
 exact Tri.of (x:=(aDH x9 x10 x11 x12)) aK uG [df,df,df,df,df,df,df,dt,.norm 0 ⟨[(6,[])],[],false,[],[]⟩] [⟨(nT (rfl:eqI 2 0=false))⟩,⟨c3⟩,⟨c2⟩,⟨c2⟩,⟨c2⟩,⟨c2⟩,⟨c1⟩,⟨c0⟩] (by kernel_rfl)
end Go.Ws

namespace Go.Ws
open Go.Proofs
set_option linter.unusedSimpArgs false
set_option linter.unusedVariables false
set_option maxRecDepth 1000000
set_option maxHeartbeats 4000000
noncomputable def X27_3 (x9:aL) (x10:aN) (x11:Ty6) (x12:a8):Ctx:=⟨Try.f27,[(.row [(.sl 2 (List.map aB x9)),(.sl 3 (List.map aA x10)),(.mp 1),(.ref 4 2 0 0 x12.length .virt)]),(.map (cO .i64 (fun y=>AV.agg (aF y)) x11) x11.length),(.arr 4 (List.map aC x12) 0 0 true)],false⟩
def aH9:Ans:=.norm 0 ⟨[(6,[]),(7,[])],[],false,[],[]⟩
def aSS (x9:aL) (x12:a8) (x13:aN × Ty6 × Int × Int):Ans:=.call ⟨true,[]⟩ (.tup [(.int .i64 x13.2.2.2),(.int .i64 x13.2.2.1)]) [(.row [(.sl 2 (List.map aB x9)),(.sl 3 (List.map aA x13.1)),(.mp 1),(.ref 4 2 0 0 x12.length .virt)]),(.map (cO .i64 (fun y=>AV.agg (aF y)) x13.2.1) x13.2.1.length),(.arr 4 (List.map aC x12) 0 0 true)]
theorem m6 (k:Nat) (x1:Int) (x2:aL) (x3:Bool) (x4:Int) (x5:Int) (x6:Int) (x7:Int) (x8:Int) (x9:aL) (x10:aN) (x11:Ty6) (x12:a8) (r:Int × Int × aN × Ty6 × aL) (h:jW k x1 x2 x3 x4 x5 x6 x7 x8 x9 x10 x11 x12=some r):Tri Try.prog 27 [(.hp 0 0),(.agg [(.int .i64 x1),(.sl 2 (List.map aB x2)),(.bool x3),(.int .i64 x4)]),(.agg [(.int .i64 x5),(.int .i64 x6),(.int .u8 x7),(.int .i64 x8)])] [(.row [(.sl 2 (List.map aB x9)),(.sl 3 (List.map aA x10)),(.mp 1),(.ref 4 2 0 0 x12.length .virt)]),(.map (cO .i64 (fun y=>AV.agg (aF y)) x11) x11.length),(.arr 4 (List.map aC x12) 0 0 true)] (.tup [(.int .i64 r.1),(.int .i64 r.2.1)]) [(.row [(.sl 2 (List.map aB r.2.2.2.2)),(.sl 3 (List.map aA r.2.2.1)),(.mp 1),(.ref 4 2 0 0 x12.length .virt)]),(.map (cO .i64 (fun y=>AV.agg (aF y)) r.2.2.2.1) r.2.2.2.1.length),(.arr 4 (List.map aC x12) 0 0 true)]:=by
 unfold jW at h
 by_cases c0:eqI x5 1=true
 · rw[if_pos c0] at h
   obtain rfl:=osi h
   exact Tri.of (x:=(X27_3 x9 x10 x11 x12)) aK aH6 [dt,.ents (cO .i64 (fun y=>AV.agg (aF y)) (dU x11 x6 (x1,x2,x3,x4))) (dU x11 x6 (x1,x2,x3,x4)).length,aH9] [⟨(aCX .i64 (fun y=>AV.agg (aF y)) x11 x6 (x1,x2,x3,x4))⟩,⟨c0⟩] (by kernel_rfl)
 rw[if_neg c0] at h;replace c0:=eqf c0
 by_cases c1:eqI x5 2=true
 · rw[if_pos c1] at h
   obtain⟨x13,e2,h⟩:=bsm h
   obtain rfl:=osi h
   exact Tri.of (x:=(X27_3 x9 x10 x11 x12)) aK aH6 [df,dt,dt,(aSS x9 x12 x13),aH9] [⟨(tQ k x1 x2 x3 x4 x5 x6 x7 x8 x9 x10 x11 x12 _ e2)⟩,⟨c1⟩,⟨c1⟩,⟨c0⟩] (by kernel_rfl)
 rw[if_neg c1] at h;replace c1:=eqf c1
 by_cases c2:eqI x5 3=true
 · rw[if_pos c2] at h
   obtain⟨x13,e3,h⟩:=bsm h
   obtain rfl:=osi h
   exact Tri.of (x:=(X27_3 x9 x10 x11 x12)) aK aH6 [df,df,dt,(aSS x9 x12 x13),aH9] [⟨(tQ k x1 x2 x3 x4 x5 x6 x7 x8 x9 x10 x11 x12 _ e3)⟩,⟨c2⟩,⟨c1⟩,⟨c0⟩] (by kernel_rfl)
 rw[if_neg c2] at h;replace c2:=eqf c2
 obtain⟨x13,e3,h⟩:=bsm h
 obtain rfl:=osi h
 exact Tri.of (x:=(X27_3 x9 x10 x11 x12)) aK aH6 [df,df,df,.call ⟨true,[]⟩ (.int .i64 x13.2.2.2) [(.row [(.sl 2 (List.map aB x13.1)),(.sl 3 (List.map aA x13.2.1)),(.mp 1),(.ref 4 2 0 0 x12.length .virt)]),(.map (cO .i64 (fun y=>AV.agg (aF y)) x13.2.2.1) x13.2.2.1.length),(.arr 4 (List.map aC x12) 0 0 true)],aH9] [⟨(aDW k x1 x2 x3 x4 x5 x6 x7 x8 x9 x10 x11 x12 _ e3)⟩,⟨c2⟩,⟨c1⟩,⟨c0⟩] (by kernel_rfl)
end Go.Ws

namespace Go.Ws
open Go.Proofs
set_option linter.unusedSimpArgs false
set_option linter.unusedVariables false
set_option maxRecDepth 1000000
set_option maxHeartbeats 4000000
noncomputable def aDB (x5:aL) (x6:aN) (x7:Ty6) (x8:a8):Ctx:=⟨Try.f14,[(.row [(.sl 2 (List.map aB x5)),(.sl 3 (List.map aA x6)),(.mp 1),(.ref 4 2 0 0 x8.length .virt)]),(.map (cO .i64 (fun y=>AV.agg (aF y)) x7) x7.length),(.arr 4 (List.map aC x8) 0 0 true)],false⟩
def uM (x5:aL) (x6:aN) (x7:Ty6) (x8:a8):Ans:=.call ⟨true,[]⟩ (.bool (!false)) [(.row [(.sl 2 (List.map aB x5)),(.sl 3 (List.map aA x6)),(.mp 1),(.ref 4 2 0 0 x8.length .virt)]),(.map (cO .i64 (fun y=>AV.agg (aF y)) x7) x7.length),(.arr 4 (List.map aC x8) 0 0 true)]
def uK:Ans:=.norm 0 ⟨[(4,[]),(5,[])],[],false,[],[none,none,some 1]⟩
def aM0 (x9:Int × aL × Bool × Int):Ans:=.opt (some (.agg [(.int .i64 x9.1),(.sl 2 (List.map aB x9.2.1)),(.bool x9.2.2.1),(.int .i64 x9.2.2.2)]))
def aST (x8:a8) (x10:Int × Int × aN × Ty6 × aL):Ans:=.call ⟨true,[]⟩ (.tup [(.int .i64 x10.1),(.int .i64 x10.2.1)]) [(.row [(.sl 2 (List.map aB x10.2.2.2.2)),(.sl 3 (List.map aA x10.2.2.1)),(.mp 1),(.ref 4 2 0 0 x8.length .virt)]),(.map (cO .i64 (fun y=>AV.agg (aF y)) x10.2.2.2.1) x10.2.2.2.1.length),(.arr 4 (List.map aC x8) 0 0 true)]
def aR9 (x8:a8) (x9:Int × Int × aN × Ty6 × aL):Ans:=.call ⟨true,[]⟩ (.tup [(.int .i64 x9.1),(.int .i64 x9.2.1)]) [(.row [(.sl 2 (List.map aB x9.2.2.2.2)),(.sl 3 (List.map aA x9.2.2.1)),(.mp 1),(.ref 4 2 0 0 x8.length .virt)]),(.map (cO .i64 (fun y=>AV.agg (aF y)) x9.2.2.2.1) x9.2.2.2.1.length),(.arr 4 (List.map aC x8) 0 0 true)]
theorem iE (k:Nat) (x1:Int) (x2:Int) (x3:Int) (x4:Int) (x5:aL) (x6:aN) (x7:Ty6) (x8:a8) (r:Int × Int × aL × aN × Ty6 × a8) (h:lN k x1 x2 x3 x4 x5 x6 x7 x8=some r):Tri Try.prog 14 [(.hp 0 0),(.agg [(.int .i64 x1),(.int .i64 x2),(.int .u8 x3),(.int .i64 x4)])] [(.row [(.sl 2 (List.map aB x5)),(.sl 3 (List.map aA x6)),(.mp 1),(.ref 4 2 0 0 x8.length .virt)]),(.map (cO .i64 (fun y=>AV.agg (aF y)) x7) x7.length),(.arr 4 (List.map aC x8) 0 0 true)] (.tup [(.int .i64 r.2.1),(.int .i64 r.1)]) [(.row [(.sl 2 (List.map aB r.2.2.1)),(.sl 3 (List.map aA r.2.2.2.1)),(.mp 1),(.ref 4 2 1 0 r.2.2.2.2.2.length .virt)]),(.map (cO .i64 (fun y=>AV.agg (aF y)) r.2.2.2.2.1) r.2.2.2.2.1.length),(.arr 4 (List.map aC r.2.2.2.2.2) 1 1 true)]:=by
 unfold lN at h
 by_cases c0:ltI x1 1=true
 · rw[if_pos c0] at h
   obtain rfl:=osi h
   exact Tri.of (x:=(aDB x5 x6 x7 x8)) aK uN [(uM x5 x6 x7 x8),df,dt,dt,dt,dt,dt,dt,dt,dt,dt,dt,dt,dt,dt,uK] [⟨rT⟩,⟨rT⟩,⟨rT⟩,⟨rT⟩,⟨rT⟩,⟨rT⟩,⟨rT⟩,⟨rT⟩,⟨rT⟩,⟨c0⟩,⟨c0⟩,⟨c0⟩,⟨c0⟩,⟨(nF (nT rfl))⟩,⟨(cE x5 x6 x7 x8)⟩] (by kernel_rfl)
 rw[if_neg c0] at h;replace c0:=eqf c0
 by_cases c1:ltI 6 x1=true
 · rw[if_pos c1] at h
   obtain rfl:=osi h
   exact Tri.of (x:=(aDB x5 x6 x7 x8)) aK uN [(uM x5 x6 x7 x8),df,df,df,df,df,dt,dt,dt,dt,dt,dt,dt,dt,dt,uK] [⟨rT⟩,⟨rT⟩,⟨rT⟩,⟨rT⟩,⟨rT⟩,⟨c1⟩,⟨c1⟩,⟨c1⟩,⟨c1⟩,⟨c0⟩,⟨c0⟩,⟨c0⟩,⟨c0⟩,⟨(nF (nT rfl))⟩,⟨(cE x5 x6 x7 x8)⟩] (by kernel_rfl)
 rw[if_neg c1] at h;replace c1:=eqf c1
 by_cases c2:ltI x2 0=true
 · rw[if_pos c2] at h
   obtain rfl:=osi h
   exact Tri.of (x:=(aDB x5 x6 x7 x8)) aK uN [(uM x5 x6 x7 x8),df,df,df,df,df,df,df,df,df,dt,dt,dt,dt,dt,uK] [⟨rT⟩,⟨c2⟩,⟨c2⟩,⟨c2⟩,⟨c2⟩,⟨c1⟩,⟨c1⟩,⟨c1⟩,⟨c1⟩,⟨c0⟩,⟨c0⟩,⟨c0⟩,⟨c0⟩,⟨(nF (nT rfl))⟩,⟨(cE x5 x6 x7 x8)⟩] (by kernel_rfl)
 rw[if_neg c2] at h;replace c2:=eqf c2
 by_cases c3:ltI x2 1000=true
 · rw[if_pos c3] at h
   by_cases c4:xD x7 x2=true
   · rw[if_pos c4] at h
     obtain⟨x9,e5,h⟩:=bsm h
     by_cases c6:eqB true (eqI x1 1)=true
     · rw[if_pos c6] at h
       obtain rfl:=osi h
       exact Tri.of (x:=(aDB x5 x6 x7 x8)) aK uN [(uM x5 x6 x7 x8),df,df,df,df,df,df,df,df,df,df,df,df,df,df,(aM0 x9),dt,dt,uK] [⟨rT⟩,⟨c6⟩,⟨(wC .i64 (fun y=>AV.agg (aF y)) e5)⟩,⟨(nF c3)⟩,⟨c2⟩,⟨c2⟩,⟨c2⟩,⟨c2⟩,⟨c1⟩,⟨c1⟩,⟨c1⟩,⟨c1⟩,⟨c0⟩,⟨c0⟩,⟨c0⟩,⟨c0⟩,⟨(nF (nT rfl))⟩,⟨(cE x5 x6 x7 x8)⟩] (by kernel_rfl)
     rw[if_neg c6] at h;replace c6:=eqf c6
     obtain⟨x10,e7,h⟩:=bsm h
     by_cases c8:eqI x10.2.1 0=true
     · rw[if_pos c8] at h
       by_cases c9:bJ (((x8++[(x1,x2,x3,x4)]).length)*32)=true
       · rw[if_pos c9] at h
         obtain rfl:=osi h
         exact Tri.of (x:=(aDB x5 x6 x7 x8)) aK uN [(uM x5 x6 x7 x8),df,df,df,df,df,df,df,df,df,df,df,df,df,df,(aM0 x9),df,(aST x8 x10),df,.rows (List.map aC [(x1,x2,x3,x4)]),.n ((x8++[(x1,x2,x3,x4)]).length),.n x8.length,dt,.rows (List.map aC (x8++[(x1,x2,x3,x4)])),uK] [⟨(gQ aC x8 [(x1,x2,x3,x4)])⟩,⟨(eX x8.length)⟩,⟨(aG aC x8)⟩,⟨c9⟩,⟨(by simp only[wl,List.length_map,List.map_nil,List.map_cons]<;>omega:x8.length+(List.map aC [(x1,x2,x3,x4)]).length=(x8++[(x1,x2,x3,x4)]).length)⟩,⟨(aS aC (l:=[(x1,x2,x3,x4)]) (n:=1) rfl)⟩,⟨(bB aC (Nat.le_refl 1):0+1≤(List.map aC [(x1,x2,x3,x4)]).length)⟩,⟨(nF c8)⟩,⟨(m6 k x9.1 x9.2.1 x9.2.2.1 x9.2.2.2 x1 x2 x3 x4 x5 x6 x7 x8 _ e7)⟩,⟨c6⟩,⟨(wC .i64 (fun y=>AV.agg (aF y)) e5)⟩,⟨(nF c3)⟩,⟨c2⟩,⟨c2⟩,⟨c2⟩,⟨c2⟩,⟨c1⟩,⟨c1⟩,⟨c1⟩,⟨c1⟩,⟨c0⟩,⟨c0⟩,⟨c0⟩,⟨c0⟩,⟨(nF (nT rfl))⟩,⟨(cE x5 x6 x7 x8)⟩] (by kernel_rfl)
       rw[if_neg c9] at h;replace c9:=eqf c9
       cases h
     rw[if_neg c8] at h;replace c8:=eqf c8
     obtain rfl:=osi h
     exact Tri.of (x:=(aDB x5 x6 x7 x8)) aK uN [(uM x5 x6 x7 x8),df,df,df,df,df,df,df,df,df,df,df,df,df,df,(aM0 x9),df,(aST x8 x10),dt,uK] [⟨(nT c8)⟩,⟨(m6 k x9.1 x9.2.1 x9.2.2.1 x9.2.2.2 x1 x2 x3 x4 x5 x6 x7 x8 _ e7)⟩,⟨c6⟩,⟨(wC .i64 (fun y=>AV.agg (aF y)) e5)⟩,⟨(nF c3)⟩,⟨c2⟩,⟨c2⟩,⟨c2⟩,⟨c2⟩,⟨c1⟩,⟨c1⟩,⟨c1⟩,⟨c1⟩,⟨c0⟩,⟨c0⟩,⟨c0⟩,⟨c0⟩,⟨(nF (nT rfl))⟩,⟨(cE x5 x6 x7 x8)⟩] (by kernel_rfl)
   rw[if_neg c4] at h;replace c4:=eqf c4
   by_cases c5:eqB false (eqI x1 1)=true
   · rw[if_pos c5] at h
     obtain rfl:=osi h
     exact Tri.of (x:=(aDB x5 x6 x7 x8)) aK uN [(uM x5 x6 x7 x8),df,df,df,df,df,df,df,df,df,df,df,df,df,df,.opt none,dt,df,uK] [⟨rF⟩,⟨c5⟩,⟨(wF .i64 (fun y=>AV.agg (aF y)) c4)⟩,⟨(nF c3)⟩,⟨c2⟩,⟨c2⟩,⟨c2⟩,⟨c2⟩,⟨c1⟩,⟨c1⟩,⟨c1⟩,⟨c1⟩,⟨c0⟩,⟨c0⟩,⟨c0⟩,⟨c0⟩,⟨(nF (nT rfl))⟩,⟨(cE x5 x6 x7 x8)⟩] (by kernel_rfl)
   rw[if_neg c5] at h;replace c5:=eqf c5
   obtain⟨x9,e6,h⟩:=bsm h
   by_cases c7:eqI x9.2.1 0=true
   · rw[if_pos c7] at h
     by_cases c8:bJ (((x8++[(x1,x2,x3,x4)]).length)*32)=true
     · rw[if_pos c8] at h
       obtain rfl:=osi h
       exact Tri.of (x:=(aDB x5 x6 x7 x8)) aK uN [(uM x5 x6 x7 x8),df,df,df,df,df,df,df,df,df,df,df,df,df,df,.opt none,df,(aR9 x8 x9),df,.rows (List.map aC [(x1,x2,x3,x4)]),.n ((x8++[(x1,x2,x3,x4)]).length),.n x8.length,dt,.rows (List.map aC (x8++[(x1,x2,x3,x4)])),uK] [⟨(gQ aC x8 [(x1,x2,x3,x4)])⟩,⟨(eX x8.length)⟩,⟨(aG aC x8)⟩,⟨c8⟩,⟨(by simp only[wl,List.length_map,List.map_nil,List.map_cons]<;>omega:x8.length+(List.map aC [(x1,x2,x3,x4)]).length=(x8++[(x1,x2,x3,x4)]).length)⟩,⟨(aS aC (l:=[(x1,x2,x3,x4)]) (n:=1) rfl)⟩,⟨(bB aC (Nat.le_refl 1):0+1≤(List.map aC [(x1,x2,x3,x4)]).length)⟩,⟨(nF c7)⟩,⟨(m6 k 0 [] false 0 x1 x2 x3 x4 x5 x6 x7 x8 _ e6)⟩,⟨c5⟩,⟨(wF .i64 (fun y=>AV.agg (aF y)) c4)⟩,⟨(nF c3)⟩,⟨c2⟩,⟨c2⟩,⟨c2⟩,⟨c2⟩,⟨c1⟩,⟨c1⟩,⟨c1⟩,⟨c1⟩,⟨c0⟩,⟨c0⟩,⟨c0⟩,⟨c0⟩,⟨(nF (nT rfl))⟩,⟨(cE x5 x6 x7 x8)⟩] (by kernel_rfl)
     rw[if_neg c8] at h;replace c8:=eqf c8
     cases h
   rw[if_neg c7] at h;replace c7:=eqf c7
   obtain rfl:=osi h
   exact Tri.of (x:=(aDB x5 x6 x7 x8)) aK uN [(uM x5 x6 x7 x8),df,df,df,df,df,df,df,df,df,df,df,df,df,df,.opt none,df,(aR9 x8 x9),dt,uK] [⟨(nT c7)⟩,⟨(m6 k 0 [] false 0 x1 x2 x3 x4 x5 x6 x7 x8 _ e6)⟩,⟨c5⟩,⟨(wF .i64 (fun y=>AV.agg (aF y)) c4)⟩,⟨(nF c3)⟩,⟨c2⟩,⟨c2⟩,⟨c2⟩,⟨c2⟩,⟨c1⟩,⟨c1⟩,⟨c1⟩,⟨c1⟩,⟨c0⟩,⟨c0⟩,⟨c0⟩,⟨c0⟩,⟨(nF (nT rfl))⟩,⟨(cE x5 x6 x7 x8)⟩] (by kernel_rfl)
 rw[if_neg c3] at h;replace c3:=eqf c3
 obtain rfl:=osi h
 exact Tri.of (x:=(aDB x5 x6 x7 x8)) aK uN [(uM x5 x6 x7 x8),df,df,df,df,df,df,df,df,df,df,df,df,df,dt,uK] [⟨(nT c3)⟩,⟨c2⟩,⟨c2⟩,⟨c2⟩,⟨c2⟩,⟨c1⟩,⟨c1⟩,⟨c1⟩,⟨c1⟩,⟨c0⟩,⟨c0⟩,⟨c0⟩,⟨c0⟩,⟨(nF (nT rfl))⟩,⟨(cE x5 x6 x7 x8)⟩] (by kernel_rfl)
end Go.Ws

namespace Go.Ws
open Go.Proofs
set_option linter.unusedSimpArgs false
set_option linter.unusedVariables false
set_option maxRecDepth 1000000
set_option maxHeartbeats 4000000
noncomputable def X16 (x2:aL) (x3:aN) (x4:Ty6) (x5:a8):Ctx:=⟨Try.f16,[(.row [(.sl 2 (List.map aB x2)),(.sl 3 (List.map aA x3)),(.mp 1),(.ref 4 2 0 0 x5.length .virt)]),(.map (cO .i64 (fun y=>AV.agg (aF y)) x4) x4.length),(.arr 4 (List.map aC x5) 0 0 true)],false⟩
def A16_0 (x2:aL) (x3:aN) (x4:Ty6) (x5:a8):Ans:=.call ⟨true,[]⟩ (.bool (!false)) [(.row [(.sl 2 (List.map aB x2)),(.sl 3 (List.map aA x3)),(.mp 1),(.ref 4 2 0 0 x5.length .virt)]),(.map (cO .i64 (fun y=>AV.agg (aF y)) x4) x4.length),(.arr 4 (List.map aC x5) 0 0 true)]
def A16_1:Ans:=.norm 0 ⟨[(4,[]),(5,[])],[⟨.tmp 4,[],none⟩,⟨.cell 3 1,[],none⟩],false,[],[]⟩
theorem oZ (k:Nat) (x1:Int) (x2:aL) (x3:aN) (x4:Ty6) (x5:a8) (r:Int × Bool × Int × aL × Bool) (h:lL k x1 x2 x3 x4 x5=some r):Tri Try.prog 16 [(.hp 0 0),(.int .i64 x1)] [(.row [(.sl 2 (List.map aB x2)),(.sl 3 (List.map aA x3)),(.mp 1),(.ref 4 2 0 0 x5.length .virt)]),(.map (cO .i64 (fun y=>AV.agg (aF y)) x4) x4.length),(.arr 4 (List.map aC x5) 0 0 true)] (.tup [(.agg [(.int .i64 r.1),(.ref 2 3 0 0 r.2.2.2.1.length .virt),(.bool r.2.1),(.int .i64 r.2.2.1)]),(.bool r.2.2.2.2)]) [(.row [(.sl 2 (List.map aB x2)),(.sl 3 (List.map aA x3)),(.mp 1),(.ref 4 2 0 0 x5.length .virt)]),(.map (cO .i64 (fun y=>AV.agg (aF y)) x4) x4.length),(.arr 4 (List.map aC x5) 0 0 true),(.arr 2 (List.map aB r.2.2.2.1) 0 0 false)]:=by
 unfold lL at h
 by_cases c0:xD x4 x1=true
 · rw[if_pos c0] at h
   obtain⟨x6,e1,h⟩:=bsm h
   obtain⟨x7,e2,h⟩:=bsm h
   obtain rfl:=osi h
   exact Tri.of (x:=(X16 x2 x3 x4 x5)) aK aH3 [(A16_0 x2 x3 x4 x5),df,.opt (some (.agg [(.int .i64 x6.1),(.sl 2 (List.map aB x6.2.1)),(.bool x6.2.2.1),(.int .i64 x6.2.2.2)])),.call ⟨true,[]⟩ (.ref 2 0 0 0 x6.2.1.length .virt) [(.arr 2 (List.map aB x6.2.1) 0 0 false)],A16_1] [⟨(fR k x6.2.1 _ e2)⟩,⟨(wC .i64 (fun y=>AV.agg (aF y)) e1)⟩,⟨(nF (nT rfl))⟩,⟨(cE x2 x3 x4 x5)⟩] (by kernel_rfl)
 rw[if_neg c0] at h;replace c0:=eqf c0
 obtain⟨x6,e1,h⟩:=bsm h
 obtain rfl:=osi h
 exact Tri.of (x:=(X16 x2 x3 x4 x5)) aK aH3 [(A16_0 x2 x3 x4 x5),df,.opt none,.call ⟨true,[]⟩ (.ref 2 0 0 0 0 .virt) [(.arr 2 (List.map aB []) 0 0 false)],A16_1] [⟨(fR k [] _ e1)⟩,⟨(wF .i64 (fun y=>AV.agg (aF y)) c0)⟩,⟨(nF (nT rfl))⟩,⟨(cE x2 x3 x4 x5)⟩] (by kernel_rfl)
end Go.Ws

namespace Go.Ws
open Go.Proofs
set_option linter.unusedSimpArgs false
set_option linter.unusedVariables false
set_option maxRecDepth 1000000
set_option maxHeartbeats 4000000
noncomputable def X20 (x2:aL) (x3:aN) (x4:Ty6) (x5:a8):Ctx:=⟨Try.f20,[(.row [(.sl 2 (List.map aB x2)),(.sl 3 (List.map aA x3)),(.mp 1),(.ref 4 2 0 0 x5.length .virt)]),(.map (cO .i64 (fun y=>AV.agg (aF y)) x4) x4.length),(.arr 4 (List.map aC x5) 0 0 true)],false⟩
theorem qF (k:Nat) (x1:Int) (x2:aL) (x3:aN) (x4:Ty6) (x5:a8) (r:Int) (h:mW k x1 x2 x3 x4 x5=some r):Tri Try.prog 20 [(.hp 0 0),(.int .u8 x1)] [(.row [(.sl 2 (List.map aB x2)),(.sl 3 (List.map aA x3)),(.mp 1),(.ref 4 2 0 0 x5.length .virt)]),(.map (cO .i64 (fun y=>AV.agg (aF y)) x4) x4.length),(.arr 4 (List.map aC x5) 0 0 true)] (.int .i64 r) [(.row [(.sl 2 (List.map aB x2)),(.sl 3 (List.map aA x3)),(.mp 1),(.ref 4 2 0 0 x5.length .virt)]),(.map (cO .i64 (fun y=>AV.agg (aF y)) x4) x4.length),(.arr 4 (List.map aC x5) 0 0 true)]:=by
 unfold mW at h
 obtain⟨x6,e0,h⟩:=bsm h
 obtain rfl:=osi h
 exact Tri.of (x:=(X20 x2 x3 x4 x5)) aK aRM [.call ⟨true,[]⟩ (.bool (!false)) [(.row [(.sl 2 (List.map aB x2)),(.sl 3 (List.map aA x3)),(.mp 1),(.ref 4 2 0 0 x5.length .virt)]),(.map (cO .i64 (fun y=>AV.agg (aF y)) x4) x4.length),(.arr 4 (List.map aC x5) 0 0 true)],df,.call ⟨true,[]⟩ (.int .i64 x6) [],.norm 0 ⟨[(4,[])],[],false,[],[]⟩] [⟨(yX k x2 x1 _ e0)⟩,⟨(nF (nT rfl))⟩,⟨(cE x2 x3 x4 x5)⟩] (by kernel_rfl)
end Go.Ws

namespace Go.Ws
open Go.Proofs
set_option linter.unusedSimpArgs false
set_option linter.unusedVariables false
set_option maxRecDepth 1000000
set_option maxHeartbeats 4000000
noncomputable def X32_1001:Ctx:=⟨Try.f32,[],false⟩
theorem zO (k:Nat) (x1:a8) (r:Unit) (h:i6 k x1=some r):Tri Try.prog 32 [(.inl 4 (List.map aC x1))] [] (.ref 4 0 0 0 x1.length .virt) [(.arr 4 (List.map aC x1) 0 0 false)]:=by
 unfold i6 at h
 by_cases c0:bJ (x1.length*32)=true
 · rw[if_pos c0] at h
   obtain rfl:=osi h
   exact Tri.of (x:=X32_1001) aK aRT [df,.n x1.length,.norm 0 ⟨[(2,[])],[⟨.tmp 2,[],some 4⟩],false,[],[]⟩,.n x1.length,.rows (List.map aC x1)] [⟨(bU aC (l:=x1) (n:=x1.length) rfl)⟩,⟨(rfl:x1.length=x1.length)⟩,⟨(zle x1.length)⟩,⟨c0⟩,⟨(aG aC x1)⟩,⟨rF⟩] (by kernel_rfl)
 rw[if_neg c0] at h;replace c0:=eqf c0
 cases h
end Go.Ws

namespace Go.Ws
open Go.Proofs
set_option linter.unusedSimpArgs false
set_option linter.unusedVariables false
set_option maxRecDepth 1000000
set_option maxHeartbeats 4000000
noncomputable def X32_1002:Ctx:=⟨Try.f32,[],false⟩
theorem z7:Tri Try.prog 32 [.nils] [] (.ref 4 0 0 0 0 .virt) [(.arr 4 (List.map aC []) 0 0 false)]:=by
 obtain⟨r,h⟩:∃r,pM=r:=⟨_,rfl⟩
 try rw[h]
 unfold pM at h
 obtain rfl:=h
 exact Tri.of (x:=X32_1002) aK aRT [dt,.norm 0 ⟨[(2,[])],[⟨.tmp 2,[],some 4⟩],false,[],[]⟩,.n 0,.rows (List.map aC [])] [⟨(bU aC (l:=[]) (n:=0) rfl)⟩,⟨(rfl:0=0)⟩,⟨(zle 0)⟩,⟨rT⟩] (by kernel_rfl)
end Go.Ws

namespace Go.Ws
open Go.Proofs
set_option linter.unusedSimpArgs false
set_option linter.unusedVariables false
set_option maxRecDepth 1000000
set_option maxHeartbeats 4000000
theorem wN (k:Nat) (x1:a8) (r:Unit) (h:mD k x1=some r):Tri Try.prog 32 [(.sl 4 (List.map aC x1))] [] (.ref 4 0 0 0 x1.length .virt) [(.arr 4 (List.map aC x1) 0 0 false)]:=by
 refine Tri.slOf (zO k x1 r h) fun h0=>?_
 have hx:x1=[]:=by simpa using h0
 subst hx
 exact z7
end Go.Ws

namespace Go.Ws
open Go.Proofs
set_option linter.unusedSimpArgs false
set_option linter.unusedVariables false
set_option maxRecDepth 1000000
set_option maxHeartbeats 4000000
noncomputable def X21 (x1:aL) (x2:aN) (x3:Ty6) (x4:a8):Ctx:=⟨Try.f21,[(.row [(.sl 2 (List.map aB x1)),(.sl 3 (List.map aA x2)),(.mp 1),(.ref 4 2 0 0 x4.length .virt)]),(.map (cO .i64 (fun y=>AV.agg (aF y)) x3) x3.length),(.arr 4 (List.map aC x4) 0 0 true)],false⟩
theorem aGK (k:Nat) (x1:aL) (x2:aN) (x3:Ty6) (x4:a8) (r:Unit) (h:oR k x1 x2 x3 x4=some r):Tri Try.prog 21 [(.hp 0 0)] [(.row [(.sl 2 (List.map aB x1)),(.sl 3 (List.map aA x2)),(.mp 1),(.ref 4 2 0 0 x4.length .virt)]),(.map (cO .i64 (fun y=>AV.agg (aF y)) x3) x3.length),(.arr 4 (List.map aC x4) 0 0 true)] (.ref 4 3 0 0 x4.length .virt) [(.row [(.sl 2 (List.map aB x1)),(.sl 3 (List.map aA x2)),(.mp 1),(.ref 4 2 0 0 x4.length .virt)]),(.map (cO .i64 (fun y=>AV.agg (aF y)) x3) x3.length),(.arr 4 (List.map aC x4) 0 0 true),(.arr 4 (List.map aC x4) 0 0 false)]:=by
 unfold oR at h
 obtain⟨x5,e0,h⟩:=bsm h
 obtain rfl:=osi h
 exact Tri.of (x:=(X21 x1 x2 x3 x4)) aK aR6 [.call ⟨true,[]⟩ (.bool (!false)) [(.row [(.sl 2 (List.map aB x1)),(.sl 3 (List.map aA x2)),(.mp 1),(.ref 4 2 0 0 x4.length .virt)]),(.map (cO .i64 (fun y=>AV.agg (aF y)) x3) x3.length),(.arr 4 (List.map aC x4) 0 0 true)],df,.call ⟨true,[]⟩ (.ref 4 0 0 0 x4.length .virt) [(.arr 4 (List.map aC x4) 0 0 false)],.rows (List.map aC x4),.norm 0 ⟨[(2,[])],[⟨.tmp 2,[],none⟩],false,[],[]⟩] [⟨(wN k x4 _ e0)⟩,⟨(aS aC (l:=x4) (n:=x4.length) rfl)⟩,⟨(bB aC (Nat.le_refl x4.length):0+x4.length≤(List.map aC x4).length)⟩,⟨(nF (nT rfl))⟩,⟨(cE x1 x2 x3 x4)⟩] (by kernel_rfl)
end Go.Ws

namespace Go.Ws
open Go.Proofs
set_option linter.unusedSimpArgs false
set_option linter.unusedVariables false
set_option maxRecDepth 1000000
set_option maxHeartbeats 4000000
noncomputable def X12:Ctx:=⟨Try.f12,[],true⟩
noncomputable def L12_0:Code:=at_ Try.f12 [1,1,1,0,1,4,5]
def S12_0 (fV:Int) (gJ:aL) (gK:aN) (fW:Ty6) (fX:a8):St:=⟨mkT 73 [(1,(.hp 0 0)),(27,(.ref 6 1 0 0 8 .full)),(28,(.int .i64 8)),(29,(.int .i64 fV))],[(.row [(.sl 2 (List.map aB gJ)),(.sl 3 (List.map aA gK)),(.mp 2),(.ref 4 3 0 0 fX.length .virt)]),(.arr 6 (List.map j6 [(1,1,0,0,0,0),(3,1,3,5,0,0),(1,2,0,0,0,0),(2,2,3,0,0,9),(4,1,0,1,0,0),(5,1,0,0,0,0),(2,2,3,0,5,0),(6,1,0,2,0,0)]) 0 0 true),(.map (cO .i64 (fun y=>AV.agg (aF y)) fW) fW.length),(.arr 4 (List.map aC fX) 0 0 true)]⟩
def aC1 (v12002_1:aL) (v12002_2:aN) (aPU:Ty6) (aPV:a8):St:=⟨mkT 73 [(1,(.hp 0 0))],[(.row [(.sl 2 (List.map aB v12002_1)),(.sl 3 (List.map aA v12002_2)),(.mp 1),(.ref 4 2 0 0 aPV.length .virt)]),(.map (cO .i64 (fun y=>AV.agg (aF y)) aPU) aPU.length),(.arr 4 (List.map aC aPV) 0 0 true)]⟩
def O12_0 (y:(Sum (aL × aN × Ty6 × a8) (Bool))):GX:=match y with
 | .inl y=>.st (.exit 0) (aC1 y.1 y.2.1 y.2.2.1 y.2.2.2)
 | .inr y=>.fin (.bool y) []
def A12_0 (eE:Int × Int × Int × Int × Int × Int):Ans:=.row [(.int .i64 eE.1),(.int .i64 eE.2.1),(.int .u8 eE.2.2.1),(.int .i64 eE.2.2.2.1),(.int .i64 eE.2.2.2.2.1),(.int .i64 eE.2.2.2.2.2)]
def A12_1 (d6:Int × Int × aL × aN × Ty6 × a8):Ans:=.call ⟨true,[]⟩ (.tup [(.int .i64 d6.2.1),(.int .i64 d6.1)]) [(.row [(.sl 2 (List.map aB d6.2.2.1)),(.sl 3 (List.map aA d6.2.2.2.1)),(.mp 1),(.ref 4 2 1 0 d6.2.2.2.2.2.length .virt)]),(.map (cO .i64 (fun y=>AV.agg (aF y)) d6.2.2.2.2.1) d6.2.2.2.2.1.length),(.arr 4 (List.map aC d6.2.2.2.2.2) 1 1 true)]
def aPK:Ans:=.call ⟨true,[]⟩ (.hp 0 0) [(.row [.nils,.nils,(.mp 1),.nils]),(.map (cO .i64 (fun y=>AV.agg (aF y)) ([]:Ty6)) ([]:Ty6).length)]
def aN4:Ans:=.norm 2 ⟨[(1,[]),(27,[]),(28,[]),(29,[])],[⟨.tmp 1,[(0,2),(1,3)],none⟩,⟨.tmp 27,[],none⟩,⟨.cell 0 2,[],none⟩,⟨.cell 0 3,[],some 4⟩],true,[],[]⟩
def A12_4 (x2:aL × aN × Ty6 × a8) (x3:Int × Bool × Int × aL × Bool):Ans:=.call ⟨true,[]⟩ (.tup [(.agg [(.int .i64 x3.1),(.ref 2 3 0 0 x3.2.2.2.1.length .virt),(.bool x3.2.1),(.int .i64 x3.2.2.1)]),(.bool x3.2.2.2.2)]) [(.row [(.sl 2 (List.map aB x2.1)),(.sl 3 (List.map aA x2.2.1)),(.mp 1),(.ref 4 2 0 0 x2.2.2.2.length .virt)]),(.map (cO .i64 (fun y=>AV.agg (aF y)) x2.2.2.1) x2.2.2.1.length),(.arr 4 (List.map aC x2.2.2.2) 0 0 true),(.arr 2 (List.map aB x3.2.2.2.1) 0 0 false)]
def A12_5 (x2:aL × aN × Ty6 × a8) (x4:Int):Ans:=.call ⟨true,[]⟩ (.int .i64 x4) [(.row [(.sl 2 (List.map aB x2.1)),(.sl 3 (List.map aA x2.2.1)),(.mp 1),(.ref 4 2 0 0 x2.2.2.2.length .virt)]),(.map (cO .i64 (fun y=>AV.agg (aF y)) x2.2.2.1) x2.2.2.1.length),(.arr 4 (List.map aC x2.2.2.2) 0 0 true)]
theorem kE (y:(Sum (aL × aN × Ty6 × a8) (Bool))):∀(k:Nat) (fV:Int) (gJ:aL) (gK:aN) (fW:Ty6) (fX:a8),iL k fV gJ gK fW fX=some y→LT Try.prog X12 L12_0 (S12_0 fV gJ gK fW fX) (O12_0 y)
 | 0,fV,gJ,gK,fW,fX,h=>by cases h
 | k+1,fV,gJ,gK,fW,fX,h=>by
  rw[iL] at h
  by_cases cL0:ltI fV 8=true
  · rw[if_pos cL0] at h
    by_cases cL1:inI fV 8=true
    · rw[if_pos cL1] at h
      obtain⟨eE,eL2,h⟩:=bsm h
      obtain⟨d6,eL3,h⟩:=bsm h
      by_cases cL4:eqI d6.2.1 eE.2.2.2.2.1=true
      · rw[if_pos cL4] at h
        by_cases cL5:eqI d6.1 eE.2.2.2.2.2=true
        · rw[if_pos cL5] at h
          exact LT.next aK (hs:=⟨[(1,[]),(27,[]),(28,[]),(29,[])],[⟨.tmp 1,[],none⟩,⟨.tmp 27,[],none⟩,⟨.cell 0 2,[],none⟩,⟨.cell 0 3,[],some 4⟩],true,[],[]⟩) (es:=none) [dt,(A12_0 eE),(A12_1 d6),df,df,df,df,df,df,.n d6.2.2.2.2.2.length,.rows (List.map aC d6.2.2.2.2.2)] [⟨(rfl:(List.map aC d6.2.2.2.2.2)=(List.map aC d6.2.2.2.2.2))⟩,⟨(rfl:d6.2.2.2.2.2.length=d6.2.2.2.2.2.length)⟩,⟨(zle d6.2.2.2.2.2.length)⟩,⟨(nF cL5)⟩,⟨(nF cL4)⟩,⟨(nF cL4)⟩,⟨(nF cL4)⟩,⟨(nF cL4)⟩,⟨(nF cL4)⟩,⟨(iE k eE.1 eE.2.1 eE.2.2.1 eE.2.2.2.1 gJ gK fW fX _ eL3)⟩,⟨(aI (e:=j6) eL2 6 0 6 (by decide))⟩,⟨cL1⟩,⟨cL0⟩] (by kernel_rfl) (kE y k (aO .i64 fV 1) d6.2.2.1 d6.2.2.2.1 d6.2.2.2.2.1 d6.2.2.2.2.2 h)
        rw[if_neg cL5] at h;replace cL5:=eqf cL5
        obtain rfl:=osi h
        show LT _ _ _ _ (.fin (.bool false) [])
        exact LT.done aK (hs:=⟨[],[],false,[],[]⟩) (es:=none) [dt,(A12_0 eE),(A12_1 d6),df,df,df,df,df,dt] [⟨(nT cL5)⟩,⟨(nF cL4)⟩,⟨(nF cL4)⟩,⟨(nF cL4)⟩,⟨(nF cL4)⟩,⟨(nF cL4)⟩,⟨(iE k eE.1 eE.2.1 eE.2.2.1 eE.2.2.2.1 gJ gK fW fX _ eL3)⟩,⟨(aI (e:=j6) eL2 6 0 6 (by decide))⟩,⟨cL1⟩,⟨cL0⟩] (by kernel_rfl) (fun s h=>by cases h)
      rw[if_neg cL4] at h;replace cL4:=eqf cL4
      obtain rfl:=osi h
      show LT _ _ _ _ (.fin (.bool false) [])
      exact LT.done aK (hs:=⟨[],[],false,[],[]⟩) (es:=none) [dt,(A12_0 eE),(A12_1 d6),dt,dt,dt,dt,dt,dt] [⟨rT⟩,⟨(nT cL4)⟩,⟨(nT cL4)⟩,⟨(nT cL4)⟩,⟨(nT cL4)⟩,⟨(nT cL4)⟩,⟨(iE k eE.1 eE.2.1 eE.2.2.1 eE.2.2.2.1 gJ gK fW fX _ eL3)⟩,⟨(aI (e:=j6) eL2 6 0 6 (by decide))⟩,⟨cL1⟩,⟨cL0⟩] (by kernel_rfl) (fun s h=>by cases h)
    rw[if_neg cL1] at h;replace cL1:=eqf cL1
    cases h
  rw[if_neg cL0] at h;replace cL0:=eqf cL0
  obtain rfl:=osi h
  show LT _ _ _ _ (.st (.exit 0) (aC1 gJ gK fW fX))
  exact LT.done aK (hs:=⟨[],[],false,[],[]⟩) (es:=(some ⟨[(1,[])],[⟨.tmp 1,[],none⟩,⟨.cell 0 2,[],none⟩,⟨.cell 0 3,[],none⟩],true,[],[]⟩)) [df] [⟨cL0⟩] (by kernel_rfl) (fun s h=>by cases h)
theorem wQ (k:Nat) (r:Bool) (h:sB k=some r):Tri Try.prog 12 [] [] (.bool r) []:=by
 unfold sB at h
 obtain⟨x1,e0,h⟩:=bsm h
 cases x1 with
 | inl x2 =>
  simp only[Sum.elim_inl] at h
  obtain⟨x3,e2,h⟩:=bsm h
  obtain⟨x4,e3,h⟩:=bsm h
  by_cases c4:eqI x4 0=true
  · rw[if_pos c4] at h
    by_cases c5:x3.2.2.2.2=true
    · rw[if_pos c5] at h
      by_cases c6:eqI x3.1 3=true
      · rw[if_pos c6] at h
        obtain⟨x5,e7,h⟩:=bsm h
        obtain rfl:=osi h
        exact Tri.of (x:=X12) aK aE9 [aPK,df,aN4,.n 0,.rows (List.map aC []),.out (.st .normal (aC1 x2.1 x2.2.1 x2.2.2.1 x2.2.2.2)),(A12_4 x2 x3),(A12_5 x2 x4),dt,dt,dt,dt,dt,dt,dt,dt,.call ⟨true,[]⟩ (.ref 4 3 0 0 x2.2.2.2.length .virt) [(.row [(.sl 2 (List.map aB x2.1)),(.sl 3 (List.map aA x2.2.1)),(.mp 1),(.ref 4 2 0 0 x2.2.2.2.length .virt)]),(.map (cO .i64 (fun y=>AV.agg (aF y)) x2.2.2.1) x2.2.2.1.length),(.arr 4 (List.map aC x2.2.2.2) 0 0 true),(.arr 4 (List.map aC x2.2.2.2) 0 0 false)],dt,dt,dt] [⟨c6⟩,⟨c6⟩,⟨c6⟩,⟨(aGK k x2.1 x2.2.1 x2.2.2.1 x2.2.2.2 _ e7)⟩,⟨c6⟩,⟨c6⟩,⟨c5⟩,⟨c5⟩,⟨c5⟩,⟨c5⟩,⟨c4⟩,⟨c4⟩,⟨(qF k 3 x2.1 x2.2.1 x2.2.2.1 x2.2.2.2 _ e3)⟩,⟨(oZ k 1 x2.1 x2.2.1 x2.2.2.1 x2.2.2.2 _ e2)⟩,⟨(LT.block (kE _ k 0 [] [] ([]:Ty6) [] e0))⟩,⟨(bU aC (l:=[]) (n:=0) rfl)⟩,⟨(rfl:0=0)⟩,⟨(zle 0)⟩,⟨rF⟩,⟨(pJ)⟩] (by kernel_rfl)
      rw[if_neg c6] at h;replace c6:=eqf c6
      obtain rfl:=osi h
      exact Tri.of (x:=X12) aK aE9 [aPK,df,aN4,.n 0,.rows (List.map aC []),.out (.st .normal (aC1 x2.1 x2.2.1 x2.2.2.1 x2.2.2.2)),(A12_4 x2 x3),(A12_5 x2 x4),dt,dt,dt,dt,dt,dt,df,df,df,df,df] [⟨c6⟩,⟨c6⟩,⟨c6⟩,⟨c6⟩,⟨c6⟩,⟨c5⟩,⟨c5⟩,⟨c5⟩,⟨c5⟩,⟨c4⟩,⟨c4⟩,⟨(qF k 3 x2.1 x2.2.1 x2.2.2.1 x2.2.2.2 _ e3)⟩,⟨(oZ k 1 x2.1 x2.2.1 x2.2.2.1 x2.2.2.2 _ e2)⟩,⟨(LT.block (kE _ k 0 [] [] ([]:Ty6) [] e0))⟩,⟨(bU aC (l:=[]) (n:=0) rfl)⟩,⟨(rfl:0=0)⟩,⟨(zle 0)⟩,⟨rF⟩,⟨(pJ)⟩] (by kernel_rfl)
    rw[if_neg c5] at h;replace c5:=eqf c5
    obtain rfl:=osi h
    exact Tri.of (x:=X12) aK aE9 [aPK,df,aN4,.n 0,.rows (List.map aC []),.out (.st .normal (aC1 x2.1 x2.2.1 x2.2.2.1 x2.2.2.2)),(A12_4 x2 x3),(A12_5 x2 x4),dt,dt,df,df,df,df,df,df,df,df,df] [⟨rF⟩,⟨rF⟩,⟨rF⟩,⟨rF⟩,⟨rF⟩,⟨c5⟩,⟨c5⟩,⟨c5⟩,⟨c5⟩,⟨c4⟩,⟨c4⟩,⟨(qF k 3 x2.1 x2.2.1 x2.2.2.1 x2.2.2.2 _ e3)⟩,⟨(oZ k 1 x2.1 x2.2.1 x2.2.2.1 x2.2.2.2 _ e2)⟩,⟨(LT.block (kE _ k 0 [] [] ([]:Ty6) [] e0))⟩,⟨(bU aC (l:=[]) (n:=0) rfl)⟩,⟨(rfl:0=0)⟩,⟨(zle 0)⟩,⟨rF⟩,⟨(pJ)⟩] (by kernel_rfl)
  rw[if_neg c4] at h;replace c4:=eqf c4
  obtain rfl:=osi h
  exact Tri.of (x:=X12) aK aE9 [aPK,df,aN4,.n 0,.rows (List.map aC []),.out (.st .normal (aC1 x2.1 x2.2.1 x2.2.2.1 x2.2.2.2)),(A12_4 x2 x3),(A12_5 x2 x4),df,df,df,df,df,df,df,df,df,df,df] [⟨rF⟩,⟨rF⟩,⟨rF⟩,⟨rF⟩,⟨rF⟩,⟨rF⟩,⟨rF⟩,⟨rF⟩,⟨rF⟩,⟨c4⟩,⟨c4⟩,⟨(qF k 3 x2.1 x2.2.1 x2.2.2.1 x2.2.2.2 _ e3)⟩,⟨(oZ k 1 x2.1 x2.2.1 x2.2.2.1 x2.2.2.2 _ e2)⟩,⟨(LT.block (kE _ k 0 [] [] ([]:Ty6) [] e0))⟩,⟨(bU aC (l:=[]) (n:=0) rfl)⟩,⟨(rfl:0=0)⟩,⟨(zle 0)⟩,⟨rF⟩,⟨(pJ)⟩] (by kernel_rfl)
 | inr x2 =>
  simp only[Sum.elim_inr] at h
  obtain rfl:=osi h
  exact Tri.of (x:=X12) aK aE9 [aPK,df,aN4,.n 0,.rows (List.map aC []),.out (.fin (.bool x2) [])] [⟨(LT.blockFin (id:=0) (kE _ k 0 [] [] ([]:Ty6) [] e0))⟩,⟨(bU aC (l:=[]) (n:=0) rfl)⟩,⟨(rfl:0=0)⟩,⟨(zle 0)⟩,⟨rF⟩,⟨(pJ)⟩] (by kernel_rfl)
end Go.Ws

namespace Go.Ws
open Go.Proofs
set_option linter.unusedSimpArgs false
set_option linter.unusedVariables false
set_option maxRecDepth 1000000
set_option maxHeartbeats 4000000
noncomputable def X26_4 (x1:aL) (x2:aN) (x3:Ty6) (x4:a8):Ctx:=⟨Try.f26,[(.row [(.sl 2 (List.map aB x1)),(.sl 3 (List.map aA x2)),(.mp 1),(.ref 4 2 1 0 x4.length .virt)]),(.map (cO .i64 (fun y=>AV.agg (aF y)) x3) x3.length),(.arr 4 (List.map aC x4) 1 1 true)],false⟩
theorem m7 (x1:aL) (x2:aN) (x3:Ty6) (x4:a8):Tri Try.prog 26 [(.hp 0 0)] [(.row [(.sl 2 (List.map aB x1)),(.sl 3 (List.map aA x2)),(.mp 1),(.ref 4 2 1 0 x4.length .virt)]),(.map (cO .i64 (fun y=>AV.agg (aF y)) x3) x3.length),(.arr 4 (List.map aC x4) 1 1 true)] (.bool (!false)) [(.row [(.sl 2 (List.map aB x1)),(.sl 3 (List.map aA x2)),(.mp 1),(.ref 4 2 1 0 x4.length .virt)]),(.map (cO .i64 (fun y=>AV.agg (aF y)) x3) x3.length),(.arr 4 (List.map aC x4) 1 1 true)]:=by
 obtain⟨r,h⟩:∃r,tZ x1 x2 x3 x4=r:=⟨_,rfl⟩
 try rw[h]
 unfold tZ at h
 obtain rfl:=h
 exact Tri.of (x:=(X26_4 x1 x2 x3 x4)) aK aQ6 [dt,dt,dt,dt,dt,dt,.norm 0 ⟨[(2,[])],[],false,[],[]⟩] [⟨(nT rfl)⟩,⟨(nT rfl)⟩,⟨(nT rfl)⟩,⟨(nT rfl)⟩,⟨(nT rfl)⟩,⟨(nT rfl)⟩] (by kernel_rfl)
end Go.Ws

namespace Go.Ws
open Go.Proofs
set_option linter.unusedSimpArgs false
set_option linter.unusedVariables false
set_option maxRecDepth 1000000
set_option maxHeartbeats 4000000
noncomputable def X16_2 (x2:aL) (x3:aN) (x4:Ty6) (x5:a8):Ctx:=⟨Try.f16,[(.row [(.sl 2 (List.map aB x2)),(.sl 3 (List.map aA x3)),(.mp 1),(.ref 4 2 1 0 x5.length .virt)]),(.map (cO .i64 (fun y=>AV.agg (aF y)) x4) x4.length),(.arr 4 (List.map aC x5) 1 1 true)],false⟩
def aRX (x2:aL) (x3:aN) (x4:Ty6) (x5:a8):Ans:=.call ⟨true,[]⟩ (.bool (!false)) [(.row [(.sl 2 (List.map aB x2)),(.sl 3 (List.map aA x3)),(.mp 1),(.ref 4 2 1 0 x5.length .virt)]),(.map (cO .i64 (fun y=>AV.agg (aF y)) x4) x4.length),(.arr 4 (List.map aC x5) 1 1 true)]
def aRU:Ans:=.norm 0 ⟨[(4,[]),(5,[])],[⟨.tmp 4,[],none⟩,⟨.cell 3 1,[],none⟩],false,[],[]⟩
theorem f6 (k:Nat) (x1:Int) (x2:aL) (x3:aN) (x4:Ty6) (x5:a8) (r:Int × Bool × Int × aL × Bool) (h:jY k x1 x2 x3 x4 x5=some r):Tri Try.prog 16 [(.hp 0 0),(.int .i64 x1)] [(.row [(.sl 2 (List.map aB x2)),(.sl 3 (List.map aA x3)),(.mp 1),(.ref 4 2 1 0 x5.length .virt)]),(.map (cO .i64 (fun y=>AV.agg (aF y)) x4) x4.length),(.arr 4 (List.map aC x5) 1 1 true)] (.tup [(.agg [(.int .i64 r.1),(.ref 2 3 0 0 r.2.2.2.1.length .virt),(.bool r.2.1),(.int .i64 r.2.2.1)]),(.bool r.2.2.2.2)]) [(.row [(.sl 2 (List.map aB x2)),(.sl 3 (List.map aA x3)),(.mp 1),(.ref 4 2 1 0 x5.length .virt)]),(.map (cO .i64 (fun y=>AV.agg (aF y)) x4) x4.length),(.arr 4 (List.map aC x5) 1 1 true),(.arr 2 (List.map aB r.2.2.2.1) 0 0 false)]:=by
 unfold jY at h
 by_cases c0:xD x4 x1=true
 · rw[if_pos c0] at h
   obtain⟨x6,e1,h⟩:=bsm h
   obtain⟨x7,e2,h⟩:=bsm h
   obtain rfl:=osi h
   exact Tri.of (x:=(X16_2 x2 x3 x4 x5)) aK aH3 [(aRX x2 x3 x4 x5),df,.opt (some (.agg [(.int .i64 x6.1),(.sl 2 (List.map aB x6.2.1)),(.bool x6.2.2.1),(.int .i64 x6.2.2.2)])),.call ⟨true,[]⟩ (.ref 2 0 0 0 x6.2.1.length .virt) [(.arr 2 (List.map aB x6.2.1) 0 0 false)],aRU] [⟨(fR k x6.2.1 _ e2)⟩,⟨(wC .i64 (fun y=>AV.agg (aF y)) e1)⟩,⟨(nF (nT rfl))⟩,⟨(m7 x2 x3 x4 x5)⟩] (by kernel_rfl)
 rw[if_neg c0] at h;replace c0:=eqf c0
 obtain⟨x6,e1,h⟩:=bsm h
 obtain rfl:=osi h
 exact Tri.of (x:=(X16_2 x2 x3 x4 x5)) aK aH3 [(aRX x2 x3 x4 x5),df,.opt none,.call ⟨true,[]⟩ (.ref 2 0 0 0 0 .virt) [(.arr 2 (List.map aB []) 0 0 false)],aRU] [⟨(fR k [] _ e1)⟩,⟨(wF .i64 (fun y=>AV.agg (aF y)) c0)⟩,⟨(nF (nT rfl))⟩,⟨(m7 x2 x3 x4 x5)⟩] (by kernel_rfl)
end Go.Ws

namespace Go.Ws
open Go.Proofs
set_option linter.unusedSimpArgs false
set_option linter.unusedVariables false
set_option maxRecDepth 1000000
set_option maxHeartbeats 4000000
noncomputable def X21_2 (x1:aL) (x2:aN) (x3:Ty6) (x4:a8):Ctx:=⟨Try.f21,[(.row [(.sl 2 (List.map aB x1)),(.sl 3 (List.map aA x2)),(.mp 1),(.ref 4 2 1 0 x4.length .virt)]),(.map (cO .i64 (fun y=>AV.agg (aF y)) x3) x3.length),(.arr 4 (List.map aC x4) 1 1 true)],false⟩
theorem lQ (k:Nat) (x1:aL) (x2:aN) (x3:Ty6) (x4:a8) (r:Unit) (h:l8 k x1 x2 x3 x4=some r):Tri Try.prog 21 [(.hp 0 0)] [(.row [(.sl 2 (List.map aB x1)),(.sl 3 (List.map aA x2)),(.mp 1),(.ref 4 2 1 0 x4.length .virt)]),(.map (cO .i64 (fun y=>AV.agg (aF y)) x3) x3.length),(.arr 4 (List.map aC x4) 1 1 true)] (.ref 4 3 0 0 x4.length .virt) [(.row [(.sl 2 (List.map aB x1)),(.sl 3 (List.map aA x2)),(.mp 1),(.ref 4 2 1 0 x4.length .virt)]),(.map (cO .i64 (fun y=>AV.agg (aF y)) x3) x3.length),(.arr 4 (List.map aC x4) 1 1 true),(.arr 4 (List.map aC x4) 0 0 false)]:=by
 unfold l8 at h
 obtain⟨x5,e0,h⟩:=bsm h
 obtain rfl:=osi h
 exact Tri.of (x:=(X21_2 x1 x2 x3 x4)) aK aR6 [.call ⟨true,[]⟩ (.bool (!false)) [(.row [(.sl 2 (List.map aB x1)),(.sl 3 (List.map aA x2)),(.mp 1),(.ref 4 2 1 0 x4.length .virt)]),(.map (cO .i64 (fun y=>AV.agg (aF y)) x3) x3.length),(.arr 4 (List.map aC x4) 1 1 true)],df,.call ⟨true,[]⟩ (.ref 4 0 0 0 x4.length .virt) [(.arr 4 (List.map aC x4) 0 0 false)],.rows (List.map aC x4),.norm 0 ⟨[(2,[])],[⟨.tmp 2,[],none⟩],false,[],[]⟩] [⟨(wN k x4 _ e0)⟩,⟨(aS aC (l:=x4) (n:=x4.length) rfl)⟩,⟨(bB aC (Nat.le_refl x4.length):0+x4.length≤(List.map aC x4).length)⟩,⟨(nF (nT rfl))⟩,⟨(m7 x1 x2 x3 x4)⟩] (by kernel_rfl)
end Go.Ws

namespace Go.Ws
open Go.Proofs
set_option linter.unusedSimpArgs false
set_option linter.unusedVariables false
set_option maxRecDepth 1000000
set_option maxHeartbeats 4000000
noncomputable def X20_1 (x2:aL) (x3:aN) (x4:Ty6) (x5:a8):Ctx:=⟨Try.f20,[(.row [(.sl 2 (List.map aB x2)),(.sl 3 (List.map aA x3)),(.mp 1),(.ref 4 2 1 0 x5.length .virt)]),(.map (cO .i64 (fun y=>AV.agg (aF y)) x4) x4.length),(.arr 4 (List.map aC x5) 1 1 true)],false⟩
theorem wX (k:Nat) (x1:Int) (x2:aL) (x3:aN) (x4:Ty6) (x5:a8) (r:Int) (h:mA k x1 x2 x3 x4 x5=some r):Tri Try.prog 20 [(.hp 0 0),(.int .u8 x1)] [(.row [(.sl 2 (List.map aB x2)),(.sl 3 (List.map aA x3)),(.mp 1),(.ref 4 2 1 0 x5.length .virt)]),(.map (cO .i64 (fun y=>AV.agg (aF y)) x4) x4.length),(.arr 4 (List.map aC x5) 1 1 true)] (.int .i64 r) [(.row [(.sl 2 (List.map aB x2)),(.sl 3 (List.map aA x3)),(.mp 1),(.ref 4 2 1 0 x5.length .virt)]),(.map (cO .i64 (fun y=>AV.agg (aF y)) x4) x4.length),(.arr 4 (List.map aC x5) 1 1 true)]:=by
 unfold mA at h
 obtain⟨x6,e0,h⟩:=bsm h
 obtain rfl:=osi h
 exact Tri.of (x:=(X20_1 x2 x3 x4 x5)) aK aRM [.call ⟨true,[]⟩ (.bool (!false)) [(.row [(.sl 2 (List.map aB x2)),(.sl 3 (List.map aA x3)),(.mp 1),(.ref 4 2 1 0 x5.length .virt)]),(.map (cO .i64 (fun y=>AV.agg (aF y)) x4) x4.length),(.arr 4 (List.map aC x5) 1 1 true)],df,.call ⟨true,[]⟩ (.int .i64 x6) [],.norm 0 ⟨[(4,[])],[],false,[],[]⟩] [⟨(yX k x2 x1 _ e0)⟩,⟨(nF (nT rfl))⟩,⟨(m7 x2 x3 x4 x5)⟩] (by kernel_rfl)
end Go.Ws

namespace Go.Ws
open Go.Proofs
set_option linter.unusedSimpArgs false
set_option linter.unusedVariables false
set_option maxRecDepth 1000000
set_option maxHeartbeats 4000000
noncomputable def aHC (x5:aL) (x6:aN) (x7:Ty6) (x8:a8):Ctx:=⟨Try.f18,[(.row [(.sl 2 (List.map aB x5)),(.sl 3 (List.map aA x6)),(.mp 1),(.ref 4 2 1 0 x8.length .virt)]),(.map (cO .i64 (fun y=>AV.agg (aF y)) x7) x7.length),(.arr 4 (List.map aC x8) 1 1 true)],false⟩
noncomputable def L18_1_2:Code:=at_ Try.f18 [1,1,1,1,1,0,1,4,5]
def S18_1_2 (x3:Ty7) (x5:aL) (x6:aN) (x7:Ty6) (x8:a8) (eO:Int):St:=⟨mkT 72 [(0,(.hp 0 0)),(49,(.sl 5 (List.map aD x3))),(50,(.int .i64 (nI x3.length))),(51,(.int .i64 eO))],[(.row [(.sl 2 (List.map aB x5)),(.sl 3 (List.map aA x6)),(.mp 1),(.ref 4 2 1 0 x8.length .virt)]),(.map (cO .i64 (fun y=>AV.agg (aF y)) x7) x7.length),(.arr 4 (List.map aC x8) 1 1 true)]⟩
def aGY (x5:aL) (x6:aN) (x7:Ty6) (x8:a8):St:=⟨mkT 72 [],[(.row [(.sl 2 (List.map aB x5)),(.sl 3 (List.map aA x6)),(.mp 1),(.ref 4 2 1 0 x8.length .virt)]),(.map (cO .i64 (fun y=>AV.agg (aF y)) x7) x7.length),(.arr 4 (List.map aC x8) 1 1 true)]⟩
def O18_1_2 (x3:Ty7) (x5:aL) (x6:aN) (x7:Ty6) (x8:a8) (y:lZ):GX:=match y with
 | .inl y=>.st (.exit 4) (aGY x5 x6 x7 x8)
 | .inr y=>.fin (.bool y) [(.row [(.sl 2 (List.map aB x5)),(.sl 3 (List.map aA x6)),(.mp 1),(.ref 4 2 1 0 x8.length .virt)]),(.map (cO .i64 (fun y=>AV.agg (aF y)) x7) x7.length),(.arr 4 (List.map aC x8) 1 1 true)]
noncomputable def L18_1_1:Code:=at_ Try.f18 [1,1,1,1,0,1,4,5]
def S18_1_1 (x1:aL) (x2:aN) (x3:Ty7) (x4:a8) (x5:aL) (x6:aN) (x7:Ty6) (x8:a8) (dR:Int):St:=⟨mkT 72 [(0,(.hp 0 0)),(3,(.hp 3 0)),(36,(.int .u8 dR))],[(.row [(.sl 2 (List.map aB x5)),(.sl 3 (List.map aA x6)),(.mp 1),(.ref 4 2 1 0 x8.length .virt)]),(.map (cO .i64 (fun y=>AV.agg (aF y)) x7) x7.length),(.arr 4 (List.map aC x8) 1 1 true),(.row [(.sl 2 (List.map aB x1)),(.sl 3 (List.map aA x2)),(.sl 5 (List.map aD x3)),(.sl 4 (List.map aC x4))])]⟩
def aCL (x1:aL) (x2:aN) (x3:Ty7) (x4:a8) (x5:aL) (x6:aN) (x7:Ty6) (x8:a8):St:=⟨mkT 72 [(0,(.hp 0 0)),(3,(.hp 3 0))],[(.row [(.sl 2 (List.map aB x5)),(.sl 3 (List.map aA x6)),(.mp 1),(.ref 4 2 1 0 x8.length .virt)]),(.map (cO .i64 (fun y=>AV.agg (aF y)) x7) x7.length),(.arr 4 (List.map aC x8) 1 1 true),(.row [(.sl 2 (List.map aB x1)),(.sl 3 (List.map aA x2)),(.sl 5 (List.map aD x3)),(.sl 4 (List.map aC x4))])]⟩
def O18_1_1 (x1:aL) (x2:aN) (x3:Ty7) (x4:a8) (x5:aL) (x6:aN) (x7:Ty6) (x8:a8) (y:lZ):GX:=match y with
 | .inl y=>.st (.exit 2) (aCL x1 x2 x3 x4 x5 x6 x7 x8)
 | .inr y=>.fin (.bool y) [(.row [(.sl 2 (List.map aB x5)),(.sl 3 (List.map aA x6)),(.mp 1),(.ref 4 2 1 0 x8.length .virt)]),(.map (cO .i64 (fun y=>AV.agg (aF y)) x7) x7.length),(.arr 4 (List.map aC x8) 1 1 true)]
noncomputable def L18_1_0:Code:=at_ Try.f18 [1,1,1,0,1,4,5]
def S18_1_0 (x1:aL) (x2:aN) (x3:Ty7) (x4:a8) (x5:aL) (x6:aN) (x7:Ty6) (x8:a8) (dS:Int):St:=⟨mkT 72 [(0,(.hp 0 0)),(3,(.hp 3 0)),(5,(.ref 4 4 0 0 x8.length .virt)),(21,(.int .i64 (nI x8.length))),(22,(.int .i64 dS))],[(.row [(.sl 2 (List.map aB x5)),(.sl 3 (List.map aA x6)),(.mp 1),(.ref 4 2 1 0 x8.length .virt)]),(.map (cO .i64 (fun y=>AV.agg (aF y)) x7) x7.length),(.arr 4 (List.map aC x8) 1 1 true),(.row [(.sl 2 (List.map aB x1)),(.sl 3 (List.map aA x2)),(.sl 5 (List.map aD x3)),(.sl 4 (List.map aC x4))]),(.arr 4 (List.map aC x8) 0 0 true)]⟩
def zU (x1:aL) (x2:aN) (x3:Ty7) (x4:a8) (x5:aL) (x6:aN) (x7:Ty6) (x8:a8):St:=⟨mkT 72 [(0,(.hp 0 0)),(3,(.hp 3 0))],[(.row [(.sl 2 (List.map aB x5)),(.sl 3 (List.map aA x6)),(.mp 1),(.ref 4 2 1 0 x8.length .virt)]),(.map (cO .i64 (fun y=>AV.agg (aF y)) x7) x7.length),(.arr 4 (List.map aC x8) 1 1 true),(.row [(.sl 2 (List.map aB x1)),(.sl 3 (List.map aA x2)),(.sl 5 (List.map aD x3)),(.sl 4 (List.map aC x4))])]⟩
def O18_1_0 (x1:aL) (x2:aN) (x3:Ty7) (x4:a8) (x5:aL) (x6:aN) (x7:Ty6) (x8:a8) (y:lZ):GX:=match y with
 | .inl y=>.st (.exit 0) (zU x1 x2 x3 x4 x5 x6 x7 x8)
 | .inr y=>.fin (.bool y) [(.row [(.sl 2 (List.map aB x5)),(.sl 3 (List.map aA x6)),(.mp 1),(.ref 4 2 1 0 x8.length .virt)]),(.map (cO .i64 (fun y=>AV.agg (aF y)) x7) x7.length),(.arr 4 (List.map aC x8) 1 1 true)]
def aNL (eF:Int × Int × aL × Bool × Int):Ans:=.row [(.int .i64 eF.1),(.int .i64 eF.2.1),(.sl 2 (List.map aB eF.2.2.1)),(.bool eF.2.2.2.1),(.int .i64 eF.2.2.2.2)]
def aN1 (x5:aL) (x6:aN) (x7:Ty6) (x8:a8) (b8:Int × Bool × Int × aL × Bool):Ans:=.call ⟨true,[]⟩ (.tup [(.agg [(.int .i64 b8.1),(.ref 2 3 0 0 b8.2.2.2.1.length .virt),(.bool b8.2.1),(.int .i64 b8.2.2.1)]),(.bool b8.2.2.2.2)]) [(.row [(.sl 2 (List.map aB x5)),(.sl 3 (List.map aA x6)),(.mp 1),(.ref 4 2 1 0 x8.length .virt)]),(.map (cO .i64 (fun y=>AV.agg (aF y)) x7) x7.length),(.arr 4 (List.map aC x8) 1 1 true),(.arr 2 (List.map aB b8.2.2.2.1) 0 0 false)]
def aFL (eP:Int × Int × Int × Int):Ans:=.row [(.int .i64 eP.1),(.int .i64 eP.2.1),(.int .u8 eP.2.2.1),(.int .i64 eP.2.2.2)]
def aEA (eQ:Int × Int × Int × Int):Ans:=.row [(.int .i64 eQ.1),(.int .i64 eQ.2.1),(.int .u8 eQ.2.2.1),(.int .i64 eQ.2.2.2)]
def aE1 (x5:aL) (x6:aN) (x7:Ty6) (x8:a8):Ans:=.call ⟨true,[]⟩ (.ref 4 3 0 0 x8.length .virt) [(.row [(.sl 2 (List.map aB x5)),(.sl 3 (List.map aA x6)),(.mp 1),(.ref 4 2 1 0 x8.length .virt)]),(.map (cO .i64 (fun y=>AV.agg (aF y)) x7) x7.length),(.arr 4 (List.map aC x8) 1 1 true),(.arr 4 (List.map aC x8) 0 0 false)]
def aH5:Ans:=.norm 2 ⟨[(0,[]),(3,[]),(5,[]),(21,[]),(22,[])],[⟨.tmp 3,[],none⟩,⟨.tmp 5,[],none⟩],true,[],[]⟩
def aNK:Ans:=.norm 8 ⟨[(0,[]),(3,[]),(36,[])],[⟨.tmp 3,[],none⟩],true,[],[]⟩
theorem rL (x3:Ty7) (x5:aL) (x6:aN) (x7:Ty6) (x8:a8) (y:lZ):∀(k:Nat) (eO:Int),g6 k x3 x5 x6 x7 x8 eO=some y→LT Try.prog (aHC x5 x6 x7 x8) L18_1_2 (S18_1_2 x3 x5 x6 x7 x8 eO) (O18_1_2 x3 x5 x6 x7 x8 y)
 | 0,eO,h=>by cases h
 | k+1,eO,h=>by
  rw[g6] at h
  by_cases cL0:ltI eO (nI x3.length)=true
  · rw[if_pos cL0] at h
    by_cases cL1:inI eO x3.length=true
    · rw[if_pos cL1] at h
      obtain⟨eF,eL2,h⟩:=bsm h
      obtain⟨b8,eL3,h⟩:=bsm h
      by_cases cL4:b8.2.2.2.2=true
      · rw[if_pos cL4] at h
        obtain⟨aAD,eL5,h⟩:=bsm h
        by_cases cL6:aAD=true
        · rw[if_pos cL6] at h
          exact LT.next aK (hs:=⟨[(0,[]),(49,[]),(50,[]),(51,[])],[],true,[],[]⟩) (es:=none) [dt,.n x3.length,(aNL eF),(aN1 x5 x6 x7 x8 b8),df,df,df,df,.call ⟨true,[]⟩ (.bool aAD) [],.rows (List.map aB b8.2.2.2.1),df,df,df] [⟨(nF cL6)⟩,⟨(nF cL4)⟩,⟨(nF cL4)⟩,⟨(aDE k b8.1 b8.2.2.2.1 b8.2.1 b8.2.2.1 eF.2.1 eF.2.2.1 eF.2.2.2.1 eF.2.2.2.2 _ eL5)⟩,⟨(aS aB (l:=b8.2.2.2.1) (n:=b8.2.2.2.1.length) rfl)⟩,⟨(bB aB (Nat.le_refl b8.2.2.2.1.length):0+b8.2.2.2.1.length≤(List.map aB b8.2.2.2.1).length)⟩,⟨(nF cL4)⟩,⟨(nF cL4)⟩,⟨(nF cL4)⟩,⟨(nF cL4)⟩,⟨(f6 k eF.1 x5 x6 x7 x8 _ eL3)⟩,⟨(aI (e:=aD) eL2 5 0 5 (by decide))⟩,⟨cL1⟩,⟨(aG aD x3)⟩,⟨cL0⟩] (by kernel_rfl) (rL x3 x5 x6 x7 x8 y k (aO .i64 eO 1) h)
        rw[if_neg cL6] at h;replace cL6:=eqf cL6
        obtain rfl:=osi h
        show LT _ _ _ _ (.fin (.bool false) [(.row [(.sl 2 (List.map aB x5)),(.sl 3 (List.map aA x6)),(.mp 1),(.ref 4 2 1 0 x8.length .virt)]),(.map (cO .i64 (fun y=>AV.agg (aF y)) x7) x7.length),(.arr 4 (List.map aC x8) 1 1 true)])
        exact LT.done aK (hs:=⟨[],[],false,[],[]⟩) (es:=none) [dt,.n x3.length,(aNL eF),(aN1 x5 x6 x7 x8 b8),df,df,df,df,.call ⟨true,[]⟩ (.bool aAD) [],.rows (List.map aB b8.2.2.2.1),df,df,dt,.norm 0 ⟨[(4,[])],[],false,[],[]⟩] [⟨(nT cL6)⟩,⟨(nF cL4)⟩,⟨(nF cL4)⟩,⟨(aDE k b8.1 b8.2.2.2.1 b8.2.1 b8.2.2.1 eF.2.1 eF.2.2.1 eF.2.2.2.1 eF.2.2.2.2 _ eL5)⟩,⟨(aS aB (l:=b8.2.2.2.1) (n:=b8.2.2.2.1.length) rfl)⟩,⟨(bB aB (Nat.le_refl b8.2.2.2.1.length):0+b8.2.2.2.1.length≤(List.map aB b8.2.2.2.1).length)⟩,⟨(nF cL4)⟩,⟨(nF cL4)⟩,⟨(nF cL4)⟩,⟨(nF cL4)⟩,⟨(f6 k eF.1 x5 x6 x7 x8 _ eL3)⟩,⟨(aI (e:=aD) eL2 5 0 5 (by decide))⟩,⟨cL1⟩,⟨(aG aD x3)⟩,⟨cL0⟩] (by kernel_rfl) (fun s h=>by cases h)
      rw[if_neg cL4] at h;replace cL4:=eqf cL4
      obtain rfl:=osi h
      show LT _ _ _ _ (.fin (.bool false) [(.row [(.sl 2 (List.map aB x5)),(.sl 3 (List.map aA x6)),(.mp 1),(.ref 4 2 1 0 x8.length .virt)]),(.map (cO .i64 (fun y=>AV.agg (aF y)) x7) x7.length),(.arr 4 (List.map aC x8) 1 1 true)])
      exact LT.done aK (hs:=⟨[],[],false,[],[]⟩) (es:=none) [dt,.n x3.length,(aNL eF),(aN1 x5 x6 x7 x8 b8),dt,dt,dt,dt,dt,dt,dt,.norm 0 ⟨[(4,[])],[],false,[],[]⟩] [⟨rT⟩,⟨(nT cL4)⟩,⟨(nT cL4)⟩,⟨(nT cL4)⟩,⟨(nT cL4)⟩,⟨(nT cL4)⟩,⟨(nT cL4)⟩,⟨(f6 k eF.1 x5 x6 x7 x8 _ eL3)⟩,⟨(aI (e:=aD) eL2 5 0 5 (by decide))⟩,⟨cL1⟩,⟨(aG aD x3)⟩,⟨cL0⟩] (by kernel_rfl) (fun s h=>by cases h)
    rw[if_neg cL1] at h;replace cL1:=eqf cL1
    cases h
  rw[if_neg cL0] at h;replace cL0:=eqf cL0
  obtain rfl:=osi h
  show LT _ _ _ _ (.st (.exit 4) (aGY x5 x6 x7 x8))
  exact LT.done aK (hs:=⟨[],[],false,[],[]⟩) (es:=(some ⟨[],[],true,[],[]⟩)) [df] [⟨cL0⟩] (by kernel_rfl) (fun s h=>by cases h)
theorem n8 (x1:aL) (x2:aN) (x3:Ty7) (x4:a8) (x5:aL) (x6:aN) (x7:Ty6) (x8:a8) (y:lZ):∀(k:Nat) (dR:Int),g9 k x1 x2 x3 x4 x5 x6 x7 x8 dR=some y→LT Try.prog (aHC x5 x6 x7 x8) L18_1_1 (S18_1_1 x1 x2 x3 x4 x5 x6 x7 x8 dR) (O18_1_1 x1 x2 x3 x4 x5 x6 x7 x8 y)
 | 0,dR,h=>by cases h
 | k+1,dR,h=>by
  rw[g9] at h
  by_cases cL0:ltI dR 66=true
  · rw[if_pos cL0] at h
    obtain⟨aAE,eL1,h⟩:=bsm h
    obtain⟨aAF,eL2,h⟩:=bsm h
    by_cases cL3:eqI aAE aAF=true
    · rw[if_pos cL3] at h
      exact LT.next aK (hs:=⟨[(0,[]),(3,[]),(36,[])],[⟨.tmp 3,[],none⟩],true,[],[]⟩) (es:=none) [dt,.call ⟨true,[]⟩ (.int .i64 aAE) [(.row [(.sl 2 (List.map aB x5)),(.sl 3 (List.map aA x6)),(.mp 1),(.ref 4 2 1 0 x8.length .virt)]),(.map (cO .i64 (fun y=>AV.agg (aF y)) x7) x7.length),(.arr 4 (List.map aC x8) 1 1 true)],.call ⟨true,[]⟩ (.int .i64 aAF) [],df] [⟨(nF cL3)⟩,⟨(aAM k x1 dR _ eL2)⟩,⟨(wX k dR x5 x6 x7 x8 _ eL1)⟩,⟨cL0⟩] (by kernel_rfl) (n8 x1 x2 x3 x4 x5 x6 x7 x8 y k (aO .u8 dR 1) h)
    rw[if_neg cL3] at h;replace cL3:=eqf cL3
    obtain rfl:=osi h
    show LT _ _ _ _ (.fin (.bool false) [(.row [(.sl 2 (List.map aB x5)),(.sl 3 (List.map aA x6)),(.mp 1),(.ref 4 2 1 0 x8.length .virt)]),(.map (cO .i64 (fun y=>AV.agg (aF y)) x7) x7.length),(.arr 4 (List.map aC x8) 1 1 true)])
    exact LT.done aK (hs:=⟨[],[],false,[],[]⟩) (es:=none) [dt,.call ⟨true,[]⟩ (.int .i64 aAE) [(.row [(.sl 2 (List.map aB x5)),(.sl 3 (List.map aA x6)),(.mp 1),(.ref 4 2 1 0 x8.length .virt)]),(.map (cO .i64 (fun y=>AV.agg (aF y)) x7) x7.length),(.arr 4 (List.map aC x8) 1 1 true)],.call ⟨true,[]⟩ (.int .i64 aAF) [],dt,.norm 0 ⟨[(4,[])],[],false,[],[]⟩] [⟨(nT cL3)⟩,⟨(aAM k x1 dR _ eL2)⟩,⟨(wX k dR x5 x6 x7 x8 _ eL1)⟩,⟨cL0⟩] (by kernel_rfl) (fun s h=>by cases h)
  rw[if_neg cL0] at h;replace cL0:=eqf cL0
  obtain rfl:=osi h
  show LT _ _ _ _ (.st (.exit 2) (aCL x1 x2 x3 x4 x5 x6 x7 x8))
  exact LT.done aK (hs:=⟨[],[],false,[],[]⟩) (es:=(some ⟨[(0,[]),(3,[])],[⟨.tmp 3,[],none⟩],true,[],[]⟩)) [df] [⟨cL0⟩] (by kernel_rfl) (fun s h=>by cases h)
theorem lS (x1:aL) (x2:aN) (x3:Ty7) (x4:a8) (x5:aL) (x6:aN) (x7:Ty6) (x8:a8) (y:lZ):∀(k:Nat) (dS:Int),hH k x1 x2 x3 x4 x5 x6 x7 x8 dS=some y→LT Try.prog (aHC x5 x6 x7 x8) L18_1_0 (S18_1_0 x1 x2 x3 x4 x5 x6 x7 x8 dS) (O18_1_0 x1 x2 x3 x4 x5 x6 x7 x8 y)
 | 0,dS,h=>by cases h
 | k+1,dS,h=>by
  rw[hH] at h
  by_cases cL0:ltI dS (nI x8.length)=true
  · rw[if_pos cL0] at h
    by_cases cL1:inI dS x8.length=true
    · rw[if_pos cL1] at h
      obtain⟨eP,eL2,h⟩:=bsm h
      by_cases cL3:inI dS x4.length=true
      · rw[if_pos cL3] at h
        obtain⟨eQ,eL4,h⟩:=bsm h
        by_cases cL5:eqI eP.1 eQ.1=true
        · rw[if_pos cL5] at h
          by_cases cL6:eqI eP.2.1 eQ.2.1=true
          · rw[if_pos cL6] at h
            by_cases cL7:eqI eP.2.2.1 eQ.2.2.1=true
            · rw[if_pos cL7] at h
              by_cases cL8:eqI eP.2.2.2 eQ.2.2.2=true
              · rw[if_pos cL8] at h
                exact LT.next aK (hs:=⟨[(0,[]),(3,[]),(5,[]),(21,[]),(22,[])],[⟨.tmp 3,[],none⟩,⟨.tmp 5,[],none⟩],true,[],[]⟩) (es:=none) [dt,(aFL eP),.n x4.length,(aEA eQ),df] [⟨(nF (aT cL5 (aT cL6 (aT cL7 cL8))))⟩,⟨(aI (e:=aC) eL4 4 0 4 (by decide))⟩,⟨cL3⟩,⟨(aG aC x4)⟩,⟨(aI (e:=aC) eL2 4 0 4 (by decide))⟩,⟨cL1⟩,⟨cL0⟩] (by kernel_rfl) (lS x1 x2 x3 x4 x5 x6 x7 x8 y k (aO .i64 dS 1) h)
              rw[if_neg cL8] at h;replace cL8:=eqf cL8
              obtain rfl:=osi h
              show LT _ _ _ _ (.fin (.bool false) [(.row [(.sl 2 (List.map aB x5)),(.sl 3 (List.map aA x6)),(.mp 1),(.ref 4 2 1 0 x8.length .virt)]),(.map (cO .i64 (fun y=>AV.agg (aF y)) x7) x7.length),(.arr 4 (List.map aC x8) 1 1 true)])
              exact LT.done aK (hs:=⟨[],[],false,[],[]⟩) (es:=none) [dt,(aFL eP),.n x4.length,(aEA eQ),dt,.norm 0 ⟨[(4,[])],[],false,[],[]⟩] [⟨(nT (aF2 cL5 (aF2 cL6 (aF2 cL7 cL8))))⟩,⟨(aI (e:=aC) eL4 4 0 4 (by decide))⟩,⟨cL3⟩,⟨(aG aC x4)⟩,⟨(aI (e:=aC) eL2 4 0 4 (by decide))⟩,⟨cL1⟩,⟨cL0⟩] (by kernel_rfl) (fun s h=>by cases h)
            rw[if_neg cL7] at h;replace cL7:=eqf cL7
            obtain rfl:=osi h
            show LT _ _ _ _ (.fin (.bool false) [(.row [(.sl 2 (List.map aB x5)),(.sl 3 (List.map aA x6)),(.mp 1),(.ref 4 2 1 0 x8.length .virt)]),(.map (cO .i64 (fun y=>AV.agg (aF y)) x7) x7.length),(.arr 4 (List.map aC x8) 1 1 true)])
            exact LT.done aK (hs:=⟨[],[],false,[],[]⟩) (es:=none) [dt,(aFL eP),.n x4.length,(aEA eQ),dt,.norm 0 ⟨[(4,[])],[],false,[],[]⟩] [⟨(nT (aF2 cL5 (aF2 cL6 (aF1 (b:=eqI eP.2.2.2 eQ.2.2.2) cL7))))⟩,⟨(aI (e:=aC) eL4 4 0 4 (by decide))⟩,⟨cL3⟩,⟨(aG aC x4)⟩,⟨(aI (e:=aC) eL2 4 0 4 (by decide))⟩,⟨cL1⟩,⟨cL0⟩] (by kernel_rfl) (fun s h=>by cases h)
          rw[if_neg cL6] at h;replace cL6:=eqf cL6
          obtain rfl:=osi h
          show LT _ _ _ _ (.fin (.bool false) [(.row [(.sl 2 (List.map aB x5)),(.sl 3 (List.map aA x6)),(.mp 1),(.ref 4 2 1 0 x8.length .virt)]),(.map (cO .i64 (fun y=>AV.agg (aF y)) x7) x7.length),(.arr 4 (List.map aC x8) 1 1 true)])
          exact LT.done aK (hs:=⟨[],[],false,[],[]⟩) (es:=none) [dt,(aFL eP),.n x4.length,(aEA eQ),dt,.norm 0 ⟨[(4,[])],[],false,[],[]⟩] [⟨(nT (aF2 cL5 (aF1 (b:=(eqI eP.2.2.1 eQ.2.2.1 && eqI eP.2.2.2 eQ.2.2.2)) cL6)))⟩,⟨(aI (e:=aC) eL4 4 0 4 (by decide))⟩,⟨cL3⟩,⟨(aG aC x4)⟩,⟨(aI (e:=aC) eL2 4 0 4 (by decide))⟩,⟨cL1⟩,⟨cL0⟩] (by kernel_rfl) (fun s h=>by cases h)
        rw[if_neg cL5] at h;replace cL5:=eqf cL5
        obtain rfl:=osi h
        show LT _ _ _ _ (.fin (.bool false) [(.row [(.sl 2 (List.map aB x5)),(.sl 3 (List.map aA x6)),(.mp 1),(.ref 4 2 1 0 x8.length .virt)]),(.map (cO .i64 (fun y=>AV.agg (aF y)) x7) x7.length),(.arr 4 (List.map aC x8) 1 1 true)])
        exact LT.done aK (hs:=⟨[],[],false,[],[]⟩) (es:=none) [dt,(aFL eP),.n x4.length,(aEA eQ),dt,.norm 0 ⟨[(4,[])],[],false,[],[]⟩] [⟨(nT (aF1 (b:=(eqI eP.2.1 eQ.2.1 && (eqI eP.2.2.1 eQ.2.2.1 && eqI eP.2.2.2 eQ.2.2.2))) cL5))⟩,⟨(aI (e:=aC) eL4 4 0 4 (by decide))⟩,⟨cL3⟩,⟨(aG aC x4)⟩,⟨(aI (e:=aC) eL2 4 0 4 (by decide))⟩,⟨cL1⟩,⟨cL0⟩] (by kernel_rfl) (fun s h=>by cases h)
      rw[if_neg cL3] at h;replace cL3:=eqf cL3
      cases h
    rw[if_neg cL1] at h;replace cL1:=eqf cL1
    cases h
  rw[if_neg cL0] at h;replace cL0:=eqf cL0
  obtain rfl:=osi h
  show LT _ _ _ _ (.st (.exit 0) (zU x1 x2 x3 x4 x5 x6 x7 x8))
  exact LT.done aK (hs:=⟨[],[],false,[],[]⟩) (es:=(some ⟨[(0,[]),(3,[])],[⟨.tmp 3,[],none⟩],true,[],[]⟩)) [df] [⟨cL0⟩] (by kernel_rfl) (fun s h=>by cases h)
theorem aBE (k:Nat) (x1:aL) (x2:aN) (x3:Ty7) (x4:a8) (x5:aL) (x6:aN) (x7:Ty6) (x8:a8) (r:Bool) (h:qA k x1 x2 x3 x4 x5 x6 x7 x8=some r):Tri Try.prog 18 [(.hp 0 0),(.agg [(.sl 2 (List.map aB x1)),(.sl 3 (List.map aA x2)),(.sl 5 (List.map aD x3)),(.sl 4 (List.map aC x4))])] [(.row [(.sl 2 (List.map aB x5)),(.sl 3 (List.map aA x6)),(.mp 1),(.ref 4 2 1 0 x8.length .virt)]),(.map (cO .i64 (fun y=>AV.agg (aF y)) x7) x7.length),(.arr 4 (List.map aC x8) 1 1 true)] (.bool r) [(.row [(.sl 2 (List.map aB x5)),(.sl 3 (List.map aA x6)),(.mp 1),(.ref 4 2 1 0 x8.length .virt)]),(.map (cO .i64 (fun y=>AV.agg (aF y)) x7) x7.length),(.arr 4 (List.map aC x8) 1 1 true)]:=by
 unfold qA at h
 obtain⟨x9,e0,h⟩:=bsm h
 by_cases c1:eqI (nI x8.length) (nI x4.length)=true
 · rw[if_pos c1] at h
   obtain⟨x10,e2,h⟩:=bsm h
   cases x10 with
   | inl x11 =>
    simp only[Sum.elim_inl] at h
    obtain⟨x12,e4,h⟩:=bsm h
    cases x12 with
    | inl x13 =>
     simp only[Sum.elim_inl] at h
     obtain⟨x14,e6,h⟩:=bsm h
     cases x14 with
     | inl x15 =>
      simp only[Sum.elim_inl] at h
      obtain rfl:=osi h
      exact Tri.of (x:=(aHC x5 x6 x7 x8)) aK aFY [(aE1 x5 x6 x7 x8),.n x4.length,df,aH5,.out (.st .normal (zU x1 x2 x3 x4 x5 x6 x7 x8)),aNK,.out (.st .normal (aCL x1 x2 x3 x4 x5 x6 x7 x8)),.n x3.length,.norm 14 ⟨[(0,[]),(49,[]),(50,[]),(51,[])],[],true,[],[]⟩,.out (.st .normal (aGY x5 x6 x7 x8)),.norm 0 ⟨[(4,[])],[],false,[],[]⟩] [⟨(LT.block (rL x3 x5 x6 x7 x8 _ k 0 e6))⟩,⟨(aG aD x3)⟩,⟨(LT.block (n8 x1 x2 x3 x4 x5 x6 x7 x8 _ k 0 e4))⟩,⟨(LT.block (lS x1 x2 x3 x4 x5 x6 x7 x8 _ k 0 e2))⟩,⟨(nF c1)⟩,⟨(aG aC x4)⟩,⟨(lQ k x5 x6 x7 x8 _ e0)⟩] (by kernel_rfl)
     | inr x15 =>
      simp only[Sum.elim_inr] at h
      obtain rfl:=osi h
      exact Tri.of (x:=(aHC x5 x6 x7 x8)) aK aFY [(aE1 x5 x6 x7 x8),.n x4.length,df,aH5,.out (.st .normal (zU x1 x2 x3 x4 x5 x6 x7 x8)),aNK,.out (.st .normal (aCL x1 x2 x3 x4 x5 x6 x7 x8)),.n x3.length,.norm 14 ⟨[(0,[]),(49,[]),(50,[]),(51,[])],[],true,[],[]⟩,.out (.fin (.bool x15) [(.row [(.sl 2 (List.map aB x5)),(.sl 3 (List.map aA x6)),(.mp 1),(.ref 4 2 1 0 x8.length .virt)]),(.map (cO .i64 (fun y=>AV.agg (aF y)) x7) x7.length),(.arr 4 (List.map aC x8) 1 1 true)])] [⟨(LT.blockFin (id:=4) (rL x3 x5 x6 x7 x8 _ k 0 e6))⟩,⟨(aG aD x3)⟩,⟨(LT.block (n8 x1 x2 x3 x4 x5 x6 x7 x8 _ k 0 e4))⟩,⟨(LT.block (lS x1 x2 x3 x4 x5 x6 x7 x8 _ k 0 e2))⟩,⟨(nF c1)⟩,⟨(aG aC x4)⟩,⟨(lQ k x5 x6 x7 x8 _ e0)⟩] (by kernel_rfl)
    | inr x13 =>
     simp only[Sum.elim_inr] at h
     obtain rfl:=osi h
     exact Tri.of (x:=(aHC x5 x6 x7 x8)) aK aFY [(aE1 x5 x6 x7 x8),.n x4.length,df,aH5,.out (.st .normal (zU x1 x2 x3 x4 x5 x6 x7 x8)),aNK,.out (.fin (.bool x13) [(.row [(.sl 2 (List.map aB x5)),(.sl 3 (List.map aA x6)),(.mp 1),(.ref 4 2 1 0 x8.length .virt)]),(.map (cO .i64 (fun y=>AV.agg (aF y)) x7) x7.length),(.arr 4 (List.map aC x8) 1 1 true)])] [⟨(LT.blockFin (id:=2) (n8 x1 x2 x3 x4 x5 x6 x7 x8 _ k 0 e4))⟩,⟨(LT.block (lS x1 x2 x3 x4 x5 x6 x7 x8 _ k 0 e2))⟩,⟨(nF c1)⟩,⟨(aG aC x4)⟩,⟨(lQ k x5 x6 x7 x8 _ e0)⟩] (by kernel_rfl)
   | inr x11 =>
    simp only[Sum.elim_inr] at h
    obtain rfl:=osi h
    exact Tri.of (x:=(aHC x5 x6 x7 x8)) aK aFY [(aE1 x5 x6 x7 x8),.n x4.length,df,aH5,.out (.fin (.bool x11) [(.row [(.sl 2 (List.map aB x5)),(.sl 3 (List.map aA x6)),(.mp 1),(.ref 4 2 1 0 x8.length .virt)]),(.map (cO .i64 (fun y=>AV.agg (aF y)) x7) x7.length),(.arr 4 (List.map aC x8) 1 1 true)])] [⟨(LT.blockFin (id:=0) (lS x1 x2 x3 x4 x5 x6 x7 x8 _ k 0 e2))⟩,⟨(nF c1)⟩,⟨(aG aC x4)⟩,⟨(lQ k x5 x6 x7 x8 _ e0)⟩] (by kernel_rfl)
 rw[if_neg c1] at h;replace c1:=eqf c1
 obtain rfl:=osi h
 exact Tri.of (x:=(aHC x5 x6 x7 x8)) aK aFY [(aE1 x5 x6 x7 x8),.n x4.length,dt,.norm 0 ⟨[(4,[])],[],false,[],[]⟩] [⟨(nT c1)⟩,⟨(aG aC x4)⟩,⟨(lQ k x5 x6 x7 x8 _ e0)⟩] (by kernel_rfl)
end Go.Ws

namespace Go.Ws
open Go.Proofs
set_option linter.unusedSimpArgs false
set_option linter.unusedVariables false
set_option maxRecDepth 1000000
set_option maxHeartbeats 4000000
noncomputable def X3:Ctx:=⟨Try.f3,[],true⟩
noncomputable def L3_0:Code:=at_ Try.f3 [1,1,1,1,1,0,1,4,5]
def S3_0 (x1:a8) (eU:Int) (gS:aL) (gT:aN) (gU:aL) (gV:aN) (gW:Ty7) (gX:a8) (gL:Ty6) (gM:a8):St:=⟨mkT 84 [(0,(.sl 4 (List.map aC x1))),(3,(.hp 0 0)),(4,(.hp 1 0)),(5,(.int .i64 eU))],[(.row [(.sl 2 (List.map aB gS)),(.sl 3 (List.map aA gT)),(.mp 2),(.ref 4 3 0 0 gM.length .virt)]),(.row [(.sl 2 (List.map aB gU)),(.sl 3 (List.map aA gV)),(.sl 5 (List.map aD gW)),(.sl 4 (List.map aC gX))]),(.map (cO .i64 (fun y=>AV.agg (aF y)) gL) gL.length),(.arr 4 (List.map aC gM) 0 0 true)]⟩
def aMN:St:=⟨mkT 84 [],[]⟩
def O3_0 (x1:a8) (y:lZ):GX:=match y with
 | .inl y=>.st (.exit 0) (aMN)
 | .inr y=>.fin (.bool y) []
def A3_0 (aW:Int × Int × Int × Int):Ans:=.row [(.int .i64 aW.1),(.int .i64 aW.2.1),(.int .u8 aW.2.2.1),(.int .i64 aW.2.2.2)]
def A3_1 (aR:Int × Int × aL × aN × Ty6 × a8):Ans:=.call ⟨true,[]⟩ (.tup [(.int .i64 aR.2.1),(.int .i64 aR.1)]) [(.row [(.sl 2 (List.map aB aR.2.2.1)),(.sl 3 (List.map aA aR.2.2.2.1)),(.mp 1),(.ref 4 2 1 0 aR.2.2.2.2.2.length .virt)]),(.map (cO .i64 (fun y=>AV.agg (aF y)) aR.2.2.2.2.1) aR.2.2.2.2.1.length),(.arr 4 (List.map aC aR.2.2.2.2.2) 1 1 true)]
def A3_2 (bD:aL × aN × Ty7 × a8 × Int × Int):Ans:=.call ⟨true,[]⟩ (.tup [(.agg [(.sl 2 (List.map aB bD.1)),(.sl 3 (List.map aA bD.2.1)),(.sl 5 (List.map aD bD.2.2.1)),(.sl 4 (List.map aC bD.2.2.2.1))]),(.int .i64 bD.2.2.2.2.1),(.int .i64 bD.2.2.2.2.2)]) []
def A3_3 (aR:Int × Int × aL × aN × Ty6 × a8) (mR:Int × Bool × Int × aL × Bool):Ans:=.call ⟨true,[]⟩ (.tup [(.agg [(.int .i64 mR.1),(.ref 2 3 0 0 mR.2.2.2.1.length .virt),(.bool mR.2.1),(.int .i64 mR.2.2.1)]),(.bool mR.2.2.2.2)]) [(.row [(.sl 2 (List.map aB aR.2.2.1)),(.sl 3 (List.map aA aR.2.2.2.1)),(.mp 1),(.ref 4 2 1 0 aR.2.2.2.2.2.length .virt)]),(.map (cO .i64 (fun y=>AV.agg (aF y)) aR.2.2.2.2.1) aR.2.2.2.2.1.length),(.arr 4 (List.map aC aR.2.2.2.2.2) 1 1 true),(.arr 2 (List.map aB mR.2.2.2.1) 0 0 false)]
def A3_4 (aR:Int × Int × aL × aN × Ty6 × a8) (v5:Bool):Ans:=.call ⟨true,[]⟩ (.bool v5) [(.row [(.sl 2 (List.map aB aR.2.2.1)),(.sl 3 (List.map aA aR.2.2.2.1)),(.mp 1),(.ref 4 2 1 0 aR.2.2.2.2.2.length .virt)]),(.map (cO .i64 (fun y=>AV.agg (aF y)) aR.2.2.2.2.1) aR.2.2.2.2.1.length),(.arr 4 (List.map aC aR.2.2.2.2.2) 1 1 true)]
def A3_5:Ans:=.call ⟨true,[]⟩ (.hp 0 0) [(.row [.nils,.nils,(.mp 1),.nils]),(.map (cO .i64 (fun y=>AV.agg (aF y)) ([]:Ty6)) ([]:Ty6).length)]
def A3_6:Ans:=.norm 2 ⟨[(0,[]),(3,[]),(4,[]),(5,[])],[⟨.tmp 3,[(0,2),(1,3)],none⟩,⟨.tmp 4,[(0,2),(1,3),(2,5),(3,4)],none⟩,⟨.cell 0 2,[],none⟩,⟨.cell 0 3,[],some 4⟩],true,[],[]⟩
theorem pG (x1:a8) (y:lZ):∀(k:Nat) (eU:Int) (gS:aL) (gT:aN) (gU:aL) (gV:aN) (gW:Ty7) (gX:a8) (gL:Ty6) (gM:a8),d9 k x1 eU gS gT gU gV gW gX gL gM=some y→LT Try.prog X3 L3_0 (S3_0 x1 eU gS gT gU gV gW gX gL gM) (O3_0 x1 y)
 | 0,eU,gS,gT,gU,gV,gW,gX,gL,gM,h=>by cases h
 | k+1,eU,gS,gT,gU,gV,gW,gX,gL,gM,h=>by
  rw[d9] at h
  by_cases cL0:ltI eU (nI x1.length)=true
  · rw[if_pos cL0] at h
    by_cases cL1:ltI eU 120=true
    · rw[if_pos cL1] at h
      by_cases cL2:inI eU x1.length=true
      · rw[if_pos cL2] at h
        obtain⟨aW,eL3,h⟩:=bsm h
        obtain⟨aR,eL4,h⟩:=bsm h
        obtain⟨bD,eL5,h⟩:=bsm h
        obtain⟨mR,eL6,h⟩:=bsm h
        by_cases cL7:eqI aR.2.1 bD.2.2.2.2.1=true
        · rw[if_pos cL7] at h
          by_cases cL8:eqI aR.1 bD.2.2.2.2.2=true
          · rw[if_pos cL8] at h
            obtain⟨yR,eL9,h⟩:=bsm h
            by_cases cL10:eqB mR.2.2.2.2 (!ltI yR 0)=true
            · rw[if_pos cL10] at h
              obtain⟨v5,eL11,h⟩:=bsm h
              by_cases cL12:v5=true
              · rw[if_pos cL12] at h
                exact LT.next aK (hs:=⟨[(0,[]),(3,[]),(4,[]),(5,[])],[⟨.tmp 3,[],none⟩,⟨.tmp 4,[],none⟩,⟨.cell 0 2,[],none⟩,⟨.cell 0 3,[],some 4⟩],true,[],[]⟩) (es:=none) [.n x1.length,dt,dt,dt,dt,.n x1.length,(A3_0 aW),(A3_1 aR),.n x1.length,(A3_0 aW),(A3_2 bD),.n x1.length,.row [(.int .i64 aW.2.1)],(A3_3 aR mR),df,df,df,df,df,df,df,df,df,.n x1.length,df,df,.row [(.int .i64 aW.2.1)],df,.call ⟨true,[]⟩ (.int .i64 yR) [],df,df,df,df,df,df,(A3_4 aR v5),df,df,df,.n aR.2.2.2.2.2.length,.rows (List.map aC aR.2.2.2.2.2)] [⟨(rfl:(List.map aC aR.2.2.2.2.2)=(List.map aC aR.2.2.2.2.2))⟩,⟨(rfl:aR.2.2.2.2.2.length=aR.2.2.2.2.2.length)⟩,⟨(zle aR.2.2.2.2.2.length)⟩,⟨(nF cL12)⟩,⟨(nF cL10)⟩,⟨(nF cL10)⟩,⟨(aBE k bD.1 bD.2.1 bD.2.2.1 bD.2.2.2.1 aR.2.2.1 aR.2.2.2.1 aR.2.2.2.2.1 aR.2.2.2.2.2 _ eL11)⟩,⟨(nF cL10)⟩,⟨(nF cL10)⟩,⟨(nF cL10)⟩,⟨(nF cL8)⟩,⟨(nF cL8)⟩,⟨(nF cL8)⟩,⟨(lB k bD.1 bD.2.1 bD.2.2.1 bD.2.2.2.1 aW.2.1 _ eL9)⟩,⟨(nF cL8)⟩,⟨(aI (e:=aC) eL3 4 1 1 (by decide))⟩,⟨(nF cL8)⟩,⟨(nF cL8)⟩,⟨cL2⟩,⟨(aG aC x1)⟩,⟨(nF cL8)⟩,⟨(nF cL8)⟩,⟨(nF cL8)⟩,⟨(nF cL8)⟩,⟨(nF cL8)⟩,⟨(nF cL7)⟩,⟨(nF cL7)⟩,⟨(nF cL7)⟩,⟨(nF cL7)⟩,⟨(f6 k aW.2.1 aR.2.2.1 aR.2.2.2.1 aR.2.2.2.2.1 aR.2.2.2.2.2 _ eL6)⟩,⟨(aI (e:=aC) eL3 4 1 1 (by decide))⟩,⟨cL2⟩,⟨(aG aC x1)⟩,⟨(vD k gU gV gW gX aW.1 aW.2.1 aW.2.2.1 aW.2.2.2 _ eL5)⟩,⟨(aI (e:=aC) eL3 4 0 4 (by decide))⟩,⟨cL2⟩,⟨(aG aC x1)⟩,⟨(iE k aW.1 aW.2.1 aW.2.2.1 aW.2.2.2 gS gT gL gM _ eL4)⟩,⟨(aI (e:=aC) eL3 4 0 4 (by decide))⟩,⟨cL2⟩,⟨(aG aC x1)⟩,⟨cL1⟩,⟨cL0⟩,⟨cL0⟩,⟨cL0⟩,⟨(aG aC x1)⟩] (by kernel_rfl) (pG x1 y k (aO .i64 eU 1) aR.2.2.1 aR.2.2.2.1 bD.1 bD.2.1 bD.2.2.1 bD.2.2.2.1 aR.2.2.2.2.1 aR.2.2.2.2.2 h)
              rw[if_neg cL12] at h;replace cL12:=eqf cL12
              obtain rfl:=osi h
              show LT _ _ _ _ (.fin (.bool false) [])
              exact LT.done aK (hs:=⟨[],[],false,[],[]⟩) (es:=none) [.n x1.length,dt,dt,dt,dt,.n x1.length,(A3_0 aW),(A3_1 aR),.n x1.length,(A3_0 aW),(A3_2 bD),.n x1.length,.row [(.int .i64 aW.2.1)],(A3_3 aR mR),df,df,df,df,df,df,df,df,df,.n x1.length,df,df,.row [(.int .i64 aW.2.1)],df,.call ⟨true,[]⟩ (.int .i64 yR) [],df,df,df,df,df,df,(A3_4 aR v5),df,df,dt] [⟨(nT cL12)⟩,⟨(nF cL10)⟩,⟨(nF cL10)⟩,⟨(aBE k bD.1 bD.2.1 bD.2.2.1 bD.2.2.2.1 aR.2.2.1 aR.2.2.2.1 aR.2.2.2.2.1 aR.2.2.2.2.2 _ eL11)⟩,⟨(nF cL10)⟩,⟨(nF cL10)⟩,⟨(nF cL10)⟩,⟨(nF cL8)⟩,⟨(nF cL8)⟩,⟨(nF cL8)⟩,⟨(lB k bD.1 bD.2.1 bD.2.2.1 bD.2.2.2.1 aW.2.1 _ eL9)⟩,⟨(nF cL8)⟩,⟨(aI (e:=aC) eL3 4 1 1 (by decide))⟩,⟨(nF cL8)⟩,⟨(nF cL8)⟩,⟨cL2⟩,⟨(aG aC x1)⟩,⟨(nF cL8)⟩,⟨(nF cL8)⟩,⟨(nF cL8)⟩,⟨(nF cL8)⟩,⟨(nF cL8)⟩,⟨(nF cL7)⟩,⟨(nF cL7)⟩,⟨(nF cL7)⟩,⟨(nF cL7)⟩,⟨(f6 k aW.2.1 aR.2.2.1 aR.2.2.2.1 aR.2.2.2.2.1 aR.2.2.2.2.2 _ eL6)⟩,⟨(aI (e:=aC) eL3 4 1 1 (by decide))⟩,⟨cL2⟩,⟨(aG aC x1)⟩,⟨(vD k gU gV gW gX aW.1 aW.2.1 aW.2.2.1 aW.2.2.2 _ eL5)⟩,⟨(aI (e:=aC) eL3 4 0 4 (by decide))⟩,⟨cL2⟩,⟨(aG aC x1)⟩,⟨(iE k aW.1 aW.2.1 aW.2.2.1 aW.2.2.2 gS gT gL gM _ eL4)⟩,⟨(aI (e:=aC) eL3 4 0 4 (by decide))⟩,⟨cL2⟩,⟨(aG aC x1)⟩,⟨cL1⟩,⟨cL0⟩,⟨cL0⟩,⟨cL0⟩,⟨(aG aC x1)⟩] (by kernel_rfl) (fun s h=>by cases h)
            rw[if_neg cL10] at h;replace cL10:=eqf cL10
            obtain rfl:=osi h
            show LT _ _ _ _ (.fin (.bool false) [])
            exact LT.done aK (hs:=⟨[],[],false,[],[]⟩) (es:=none) [.n x1.length,dt,dt,dt,dt,.n x1.length,(A3_0 aW),(A3_1 aR),.n x1.length,(A3_0 aW),(A3_2 bD),.n x1.length,.row [(.int .i64 aW.2.1)],(A3_3 aR mR),df,df,df,df,df,df,df,df,df,.n x1.length,df,df,.row [(.int .i64 aW.2.1)],df,.call ⟨true,[]⟩ (.int .i64 yR) [],df,df,df,dt,dt,dt,dt,dt,dt] [⟨rT⟩,⟨(nT cL10)⟩,⟨(nT cL10)⟩,⟨(nT cL10)⟩,⟨(nT cL10)⟩,⟨(nT cL10)⟩,⟨(nF cL8)⟩,⟨(nF cL8)⟩,⟨(nF cL8)⟩,⟨(lB k bD.1 bD.2.1 bD.2.2.1 bD.2.2.2.1 aW.2.1 _ eL9)⟩,⟨(nF cL8)⟩,⟨(aI (e:=aC) eL3 4 1 1 (by decide))⟩,⟨(nF cL8)⟩,⟨(nF cL8)⟩,⟨cL2⟩,⟨(aG aC x1)⟩,⟨(nF cL8)⟩,⟨(nF cL8)⟩,⟨(nF cL8)⟩,⟨(nF cL8)⟩,⟨(nF cL8)⟩,⟨(nF cL7)⟩,⟨(nF cL7)⟩,⟨(nF cL7)⟩,⟨(nF cL7)⟩,⟨(f6 k aW.2.1 aR.2.2.1 aR.2.2.2.1 aR.2.2.2.2.1 aR.2.2.2.2.2 _ eL6)⟩,⟨(aI (e:=aC) eL3 4 1 1 (by decide))⟩,⟨cL2⟩,⟨(aG aC x1)⟩,⟨(vD k gU gV gW gX aW.1 aW.2.1 aW.2.2.1 aW.2.2.2 _ eL5)⟩,⟨(aI (e:=aC) eL3 4 0 4 (by decide))⟩,⟨cL2⟩,⟨(aG aC x1)⟩,⟨(iE k aW.1 aW.2.1 aW.2.2.1 aW.2.2.2 gS gT gL gM _ eL4)⟩,⟨(aI (e:=aC) eL3 4 0 4 (by decide))⟩,⟨cL2⟩,⟨(aG aC x1)⟩,⟨cL1⟩,⟨cL0⟩,⟨cL0⟩,⟨cL0⟩,⟨(aG aC x1)⟩] (by kernel_rfl) (fun s h=>by cases h)
          rw[if_neg cL8] at h;replace cL8:=eqf cL8
          obtain rfl:=osi h
          show LT _ _ _ _ (.fin (.bool false) [])
          exact LT.done aK (hs:=⟨[],[],false,[],[]⟩) (es:=none) [.n x1.length,dt,dt,dt,dt,.n x1.length,(A3_0 aW),(A3_1 aR),.n x1.length,(A3_0 aW),(A3_2 bD),.n x1.length,.row [(.int .i64 aW.2.1)],(A3_3 aR mR),df,df,df,df,dt,dt,dt,dt,dt,dt,dt,dt,dt,dt,dt,dt,dt,dt,dt,dt,dt] [⟨rT⟩,⟨rT⟩,⟨rT⟩,⟨rT⟩,⟨rT⟩,⟨rT⟩,⟨(nT cL8)⟩,⟨(nT cL8)⟩,⟨(nT cL8)⟩,⟨(nT cL8)⟩,⟨(nT cL8)⟩,⟨(nT cL8)⟩,⟨(nT cL8)⟩,⟨(nT cL8)⟩,⟨(nT cL8)⟩,⟨(nT cL8)⟩,⟨(nT cL8)⟩,⟨(nF cL7)⟩,⟨(nF cL7)⟩,⟨(nF cL7)⟩,⟨(nF cL7)⟩,⟨(f6 k aW.2.1 aR.2.2.1 aR.2.2.2.1 aR.2.2.2.2.1 aR.2.2.2.2.2 _ eL6)⟩,⟨(aI (e:=aC) eL3 4 1 1 (by decide))⟩,⟨cL2⟩,⟨(aG aC x1)⟩,⟨(vD k gU gV gW gX aW.1 aW.2.1 aW.2.2.1 aW.2.2.2 _ eL5)⟩,⟨(aI (e:=aC) eL3 4 0 4 (by decide))⟩,⟨cL2⟩,⟨(aG aC x1)⟩,⟨(iE k aW.1 aW.2.1 aW.2.2.1 aW.2.2.2 gS gT gL gM _ eL4)⟩,⟨(aI (e:=aC) eL3 4 0 4 (by decide))⟩,⟨cL2⟩,⟨(aG aC x1)⟩,⟨cL1⟩,⟨cL0⟩,⟨cL0⟩,⟨cL0⟩,⟨(aG aC x1)⟩] (by kernel_rfl) (fun s h=>by cases h)
        rw[if_neg cL7] at h;replace cL7:=eqf cL7
        obtain rfl:=osi h
        show LT _ _ _ _ (.fin (.bool false) [])
        exact LT.done aK (hs:=⟨[],[],false,[],[]⟩) (es:=none) [.n x1.length,dt,dt,dt,dt,.n x1.length,(A3_0 aW),(A3_1 aR),.n x1.length,(A3_0 aW),(A3_2 bD),.n x1.length,.row [(.int .i64 aW.2.1)],(A3_3 aR mR),dt,dt,dt,dt,dt,dt,dt,dt,dt,dt,dt,dt,dt,dt,dt,dt,dt,dt,dt,dt,dt] [⟨rT⟩,⟨rT⟩,⟨rT⟩,⟨rT⟩,⟨rT⟩,⟨rT⟩,⟨rT⟩,⟨rT⟩,⟨rT⟩,⟨rT⟩,⟨rT⟩,⟨rT⟩,⟨rT⟩,⟨rT⟩,⟨rT⟩,⟨rT⟩,⟨rT⟩,⟨(nT cL7)⟩,⟨(nT cL7)⟩,⟨(nT cL7)⟩,⟨(nT cL7)⟩,⟨(f6 k aW.2.1 aR.2.2.1 aR.2.2.2.1 aR.2.2.2.2.1 aR.2.2.2.2.2 _ eL6)⟩,⟨(aI (e:=aC) eL3 4 1 1 (by decide))⟩,⟨cL2⟩,⟨(aG aC x1)⟩,⟨(vD k gU gV gW gX aW.1 aW.2.1 aW.2.2.1 aW.2.2.2 _ eL5)⟩,⟨(aI (e:=aC) eL3 4 0 4 (by decide))⟩,⟨cL2⟩,⟨(aG aC x1)⟩,⟨(iE k aW.1 aW.2.1 aW.2.2.1 aW.2.2.2 gS gT gL gM _ eL4)⟩,⟨(aI (e:=aC) eL3 4 0 4 (by decide))⟩,⟨cL2⟩,⟨(aG aC x1)⟩,⟨cL1⟩,⟨cL0⟩,⟨cL0⟩,⟨cL0⟩,⟨(aG aC x1)⟩] (by kernel_rfl) (fun s h=>by cases h)
      rw[if_neg cL2] at h;replace cL2:=eqf cL2
      cases h
    rw[if_neg cL1] at h;replace cL1:=eqf cL1
    obtain rfl:=osi h
    show LT _ _ _ _ (.st (.exit 0) (aMN))
    exact LT.done aK (hs:=⟨[],[],false,[],[]⟩) (es:=(some ⟨[],[],true,[],[]⟩)) [.n x1.length,dt,dt,dt,df] [⟨cL1⟩,⟨cL0⟩,⟨cL0⟩,⟨cL0⟩,⟨(aG aC x1)⟩] (by kernel_rfl) (fun s h=>by cases h)
  rw[if_neg cL0] at h;replace cL0:=eqf cL0
  obtain rfl:=osi h
  show LT _ _ _ _ (.st (.exit 0) (aMN))
  exact LT.done aK (hs:=⟨[],[],false,[],[]⟩) (es:=(some ⟨[],[],true,[],[]⟩)) [.n x1.length,df,df,df,df] [⟨rF⟩,⟨cL0⟩,⟨cL0⟩,⟨cL0⟩,⟨(aG aC x1)⟩] (by kernel_rfl) (fun s h=>by cases h)
theorem aFN (k:Nat) (x1:a8) (r:Bool) (h:o7 k x1=some r):Tri Try.prog 3 [(.sl 4 (List.map aC x1))] [] (.bool r) []:=by
 unfold o7 at h
 obtain⟨x2,e0,h⟩:=bsm h
 by_cases c1:x2=true
 · rw[if_pos c1] at h
   obtain⟨x3,e2,h⟩:=bsm h
   cases x3 with
   | inl x4 =>
    simp only[Sum.elim_inl] at h
    obtain rfl:=osi h
    exact Tri.of (x:=X3) aK aQ0 [.call ⟨true,[]⟩ (.bool x2) [],df,A3_5,df,A3_6,.n 0,.rows (List.map aC []),.out (.st .normal (aMN))] [⟨(LT.block (pG x1 _ k 0 [] [] [] [] [] [] ([]:Ty6) [] e2))⟩,⟨(bU aC (l:=[]) (n:=0) rfl)⟩,⟨(rfl:0=0)⟩,⟨(zle 0)⟩,⟨rF⟩,⟨(pJ)⟩,⟨(nF c1)⟩,⟨(wQ k _ e0)⟩] (by kernel_rfl)
   | inr x4 =>
    simp only[Sum.elim_inr] at h
    obtain rfl:=osi h
    exact Tri.of (x:=X3) aK aQ0 [.call ⟨true,[]⟩ (.bool x2) [],df,A3_5,df,A3_6,.n 0,.rows (List.map aC []),.out (.fin (.bool x4) [])] [⟨(LT.blockFin (id:=0) (pG x1 _ k 0 [] [] [] [] [] [] ([]:Ty6) [] e2))⟩,⟨(bU aC (l:=[]) (n:=0) rfl)⟩,⟨(rfl:0=0)⟩,⟨(zle 0)⟩,⟨rF⟩,⟨(pJ)⟩,⟨(nF c1)⟩,⟨(wQ k _ e0)⟩] (by kernel_rfl)
 rw[if_neg c1] at h;replace c1:=eqf c1
 obtain rfl:=osi h
 exact Tri.of (x:=X3) aK aQ0 [.call ⟨true,[]⟩ (.bool x2) [],dt] [⟨(nT c1)⟩,⟨(wQ k _ e0)⟩] (by kernel_rfl)
end Go.Ws
