/-
  Walks, merged.
  Conditions: none.
-/
import Derived.Test.YtojldadifhneeaaZPre
import Derived.Test.YtojldadifhneeaaZPure
import Derived.Test.YtojldadifhneeaaZWGSiteReplays0
set_option linter.unusedVariables false
set_option linter.unusedSimpArgs false
namespace Go.Ws
open Go.Proofs
set_option linter.unusedSimpArgs false
set_option linter.unusedVariables false
set_option maxRecDepth 1000000
set_option maxHeartbeats 4000000
noncomputable def X54:Ctx:=⟨Try.f54,[],true⟩
theorem aE7 (k:Nat) (x1:Int) (x2:aL) (x3:Bool) (x4:Int) (x5:Int) (x6:Int) (r:Int × aL × Bool × Int × Int) (h:wS k x1 x2 x3 x4 x5 x6=some r):Tri Try.prog 54 [(.agg [(.int .i64 x1),(.sl 2 (List.map aC x2)),(.bool x3),(.int .i64 x4)]),(.agg [(.int .u8 x5),(.int .i64 x6)])] [] (.tup [(.agg [(.int .i64 r.1),(.sl 2 (List.map aC r.2.1)),(.bool r.2.2.1),(.int .i64 r.2.2.2.1)]),(.int .i64 r.2.2.2.2)]) []:=by
 unfold wS at h
 obtain⟨x7,e0,h⟩:=bsm h
 by_cases c1:x7=true
 · rw[if_pos c1] at h
   by_cases c2:ltI x5 64=true
   · rw[if_pos c2] at h
     by_cases c3:eqI x1 0=true
     · rw[if_pos c3] at h
       by_cases c4:ltI (nI x2.length) 50=true
       · rw[if_pos c4] at h
         by_cases c5:bB (x2.length*16)=true
         · rw[if_pos c5] at h
           by_cases c6:bB (((x2++[(x5,x6)]).length)*16)=true
           · rw[if_pos c6] at h
             obtain rfl:=osi h
             exact Tri.of (x:=X54) aK aFL [.call ⟨true,[]⟩ (.bool x7) [],df,df,df,df,df,df,.n x2.length,df,.n x2.length,.rows (List.map aC [(x5,x6)]),.n ((x2++[(x5,x6)]).length),.n x2.length,dt,.rows (List.map aC (x2++[(x5,x6)])),.rows (List.map aC (x2++[(x5,x6)]))] [⟨(aQ aC (l:=(x2++[(x5,x6)])) (n:=((x2++[(x5,x6)]).length)) rfl)⟩,⟨(a9 aC (Nat.le_refl ((x2++[(x5,x6)]).length)):0+(x2++[(x5,x6)]).length≤(List.map aC (x2++[(x5,x6)])).length)⟩,⟨(f5 aC x2 [(x5,x6)])⟩,⟨(dZ x2.length)⟩,⟨(aG aC x2)⟩,⟨c6⟩,⟨(by simp only[wl,List.length_map,List.map_nil,List.map_cons]<;>omega:x2.length+(List.map aC [(x5,x6)]).length=(x2++[(x5,x6)]).length)⟩,⟨(aQ aC (l:=[(x5,x6)]) (n:=1) rfl)⟩,⟨(a9 aC (Nat.le_refl 1):0+1≤(List.map aC [(x5,x6)]).length)⟩,⟨c5⟩,⟨(aG aC x2)⟩,⟨(nF c4)⟩,⟨(aG aC x2)⟩,⟨(nF c3)⟩,⟨(nF c2)⟩,⟨(nF c1)⟩,⟨(nF c1)⟩,⟨(nF c1)⟩,⟨(nF c1)⟩,⟨(bN k x1 x2 x3 x4 _ e0)⟩] (by kernel_rfl)
           rw[if_neg c6] at h;replace c6:=eqf c6
           cases h
         rw[if_neg c5] at h;replace c5:=eqf c5
         cases h
       rw[if_neg c4] at h;replace c4:=eqf c4
       obtain rfl:=osi h
       exact Tri.of (x:=X54) aK aFL [.call ⟨true,[]⟩ (.bool x7) [],df,df,df,df,df,df,.n x2.length,dt] [⟨(nT c4)⟩,⟨(aG aC x2)⟩,⟨(nF c3)⟩,⟨(nF c2)⟩,⟨(nF c1)⟩,⟨(nF c1)⟩,⟨(nF c1)⟩,⟨(nF c1)⟩,⟨(bN k x1 x2 x3 x4 _ e0)⟩] (by kernel_rfl)
     rw[if_neg c3] at h;replace c3:=eqf c3
     obtain rfl:=osi h
     exact Tri.of (x:=X54) aK aFL [.call ⟨true,[]⟩ (.bool x7) [],df,df,df,df,df,dt] [⟨(nT c3)⟩,⟨(nF c2)⟩,⟨(nF c1)⟩,⟨(nF c1)⟩,⟨(nF c1)⟩,⟨(nF c1)⟩,⟨(bN k x1 x2 x3 x4 _ e0)⟩] (by kernel_rfl)
   rw[if_neg c2] at h;replace c2:=eqf c2
   obtain rfl:=osi h
   exact Tri.of (x:=X54) aK aFL [.call ⟨true,[]⟩ (.bool x7) [],df,df,df,df,dt] [⟨(nT c2)⟩,⟨(nF c1)⟩,⟨(nF c1)⟩,⟨(nF c1)⟩,⟨(nF c1)⟩,⟨(bN k x1 x2 x3 x4 _ e0)⟩] (by kernel_rfl)
 rw[if_neg c1] at h;replace c1:=eqf c1
 obtain rfl:=osi h
 exact Tri.of (x:=X54) aK aFL [.call ⟨true,[]⟩ (.bool x7) [],dt,dt,dt,dt,dt] [⟨rT⟩,⟨(nT c1)⟩,⟨(nT c1)⟩,⟨(nT c1)⟩,⟨(nT c1)⟩,⟨(bN k x1 x2 x3 x4 _ e0)⟩] (by kernel_rfl)
end Go.Ws

namespace Go.Ws
open Go.Proofs
set_option linter.unusedSimpArgs false
set_option linter.unusedVariables false
set_option maxRecDepth 1000000
set_option maxHeartbeats 4000000
noncomputable def X56:Ctx:=⟨Try.f56,[],true⟩
theorem zB (k:Nat) (x1:Int) (x2:aL) (x3:Bool) (x4:Int) (x5:Bool) (r:Int × aL × Bool × Int × Int) (h:uK k x1 x2 x3 x4 x5=some r):Tri Try.prog 56 [(.agg [(.int .i64 x1),(.sl 2 (List.map aC x2)),(.bool x3),(.int .i64 x4)]),(.bool x5)] [] (.tup [(.agg [(.int .i64 r.1),(.sl 2 (List.map aC r.2.1)),(.bool r.2.2.1),(.int .i64 r.2.2.2.1)]),(.int .i64 r.2.2.2.2)]) []:=by
 unfold uK at h
 obtain⟨x6,e0,h⟩:=bsm h
 by_cases c1:x6=true
 · rw[if_pos c1] at h
   by_cases c2:eqI x1 0=true
   · rw[if_pos c2] at h
     by_cases c3:x5=true
     · rw[if_pos c3] at h
       obtain rfl:=osi h
       exact Tri.of (x:=X56) aK aIH [.call ⟨true,[]⟩ (.bool x6) [],df,df,dt] [⟨c3⟩,⟨(nF c2)⟩,⟨(nF c1)⟩,⟨(bN k x1 x2 x3 x4 _ e0)⟩] (by kernel_rfl)
     rw[if_neg c3] at h;replace c3:=eqf c3
     obtain rfl:=osi h
     exact Tri.of (x:=X56) aK aIH [.call ⟨true,[]⟩ (.bool x6) [],df,df,df] [⟨c3⟩,⟨(nF c2)⟩,⟨(nF c1)⟩,⟨(bN k x1 x2 x3 x4 _ e0)⟩] (by kernel_rfl)
   rw[if_neg c2] at h;replace c2:=eqf c2
   obtain rfl:=osi h
   exact Tri.of (x:=X56) aK aIH [.call ⟨true,[]⟩ (.bool x6) [],df,dt] [⟨(nT c2)⟩,⟨(nF c1)⟩,⟨(bN k x1 x2 x3 x4 _ e0)⟩] (by kernel_rfl)
 rw[if_neg c1] at h;replace c1:=eqf c1
 obtain rfl:=osi h
 exact Tri.of (x:=X56) aK aIH [.call ⟨true,[]⟩ (.bool x6) [],dt] [⟨(nT c1)⟩,⟨(bN k x1 x2 x3 x4 _ e0)⟩] (by kernel_rfl)
end Go.Ws

namespace Go.Ws
open Go.Proofs
set_option linter.unusedSimpArgs false
set_option linter.unusedVariables false
set_option maxRecDepth 1000000
set_option maxHeartbeats 4000000
noncomputable def X58:Ctx:=⟨Try.f58,[],true⟩
def A58_0:Ans:=.norm 0 ⟨[(2,[]),(3,[(0,2)]),(4,[])],[⟨.tmp 2,[],none⟩],false,[],[]⟩
theorem aCN (k:Nat) (x1:Int) (x2:aL) (x3:Bool) (x4:Int) (r:Int × aL × Bool × Int × aL × Int) (h:sN k x1 x2 x3 x4=some r):Tri Try.prog 58 [(.agg [(.int .i64 x1),(.sl 2 (List.map aC x2)),(.bool x3),(.int .i64 x4)])] [] (.tup [(.agg [(.int .i64 r.1),(.sl 2 (List.map aC r.2.1)),(.bool r.2.2.1),(.int .i64 r.2.2.2.1)]),(.sl 2 (List.map aC r.2.2.2.2.1)),(.int .i64 r.2.2.2.2.2)]) []:=by
 unfold sN at h
 obtain⟨x5,e0,h⟩:=bsm h
 by_cases c1:x5=true
 · rw[if_pos c1] at h
   by_cases c2:eqI x1 1=true
   · rw[if_pos c2] at h
     by_cases c3:x3=true
     · rw[if_pos c3] at h
       obtain rfl:=osi h
       exact Tri.of (x:=X58) aK aIQ [.call ⟨true,[]⟩ (.bool x5) [],df,df,dt,A58_0] [⟨c3⟩,⟨(nF c2)⟩,⟨(nF c1)⟩,⟨(bN k x1 x2 x3 x4 _ e0)⟩] (by kernel_rfl)
     rw[if_neg c3] at h;replace c3:=eqf c3
     obtain rfl:=osi h
     exact Tri.of (x:=X58) aK aIQ [.call ⟨true,[]⟩ (.bool x5) [],df,df,df] [⟨c3⟩,⟨(nF c2)⟩,⟨(nF c1)⟩,⟨(bN k x1 x2 x3 x4 _ e0)⟩] (by kernel_rfl)
   rw[if_neg c2] at h;replace c2:=eqf c2
   obtain rfl:=osi h
   exact Tri.of (x:=X58) aK aIQ [.call ⟨true,[]⟩ (.bool x5) [],df,dt,A58_0] [⟨(nT c2)⟩,⟨(nF c1)⟩,⟨(bN k x1 x2 x3 x4 _ e0)⟩] (by kernel_rfl)
 rw[if_neg c1] at h;replace c1:=eqf c1
 obtain rfl:=osi h
 exact Tri.of (x:=X58) aK aIQ [.call ⟨true,[]⟩ (.bool x5) [],dt,A58_0] [⟨(nT c1)⟩,⟨(bN k x1 x2 x3 x4 _ e0)⟩] (by kernel_rfl)
end Go.Ws

namespace Go.Ws
open Go.Proofs
set_option linter.unusedSimpArgs false
set_option linter.unusedVariables false
set_option maxRecDepth 1000000
set_option maxHeartbeats 4000000
noncomputable def X83:Ctx:=⟨Try.f83,[],true⟩
noncomputable def L83_0:Code:=at_ Try.f83 [1,1,0,1,4,5]
def S83_0 (x1:aL) (d8:Int) (bW:aL):St:=⟨mkT 28 [(0,(.sl 2 (List.map aC x1))),(3,(.ref 2 0 0 0 bW.length .virt)),(4,(.int .i64 d8))],[(.arr 2 (List.map aC bW) 0 0 false)]⟩
def aM4 (aQO:aL):St:=⟨mkT 28 [(3,(.ref 2 0 0 0 aQO.length .virt))],[(.arr 2 (List.map aC aQO) 0 0 false)]⟩
def O83_0 (x1:aL) (y:(aL)):GX:=.st (.exit 0) (aM4 y)
theorem uA (x1:aL) (y:(aL)):∀(k:Nat) (d8:Int) (bW:aL),dS k x1 d8 bW=some y→LT Try.prog X83 L83_0 (S83_0 x1 d8 bW) (O83_0 x1 y)
 | 0,d8,bW,h=>by cases h
 | k+1,d8,bW,h=>by
  rw[dS] at h
  by_cases cL0:ltI d8 0=true
  · rw[if_pos cL0] at h
    obtain rfl:=osi h
    show LT _ _ _ _ (.st (.exit 0) (aM4 bW))
    exact LT.done aK (hs:=⟨[],[],false,[],[]⟩) (es:=(some ⟨[(3,[])],[⟨.tmp 3,[],none⟩],false,[],[]⟩)) [df] [⟨(nF cL0)⟩] (by kernel_rfl) (fun s h=>by cases h)
  rw[if_neg cL0] at h;replace cL0:=eqf cL0
  by_cases cL1:inI d8 x1.length=true
  · rw[if_pos cL1] at h
    obtain⟨bX,eL2,h⟩:=bsm h
    by_cases cL3:bB (((bW++[(bX.1,sB .i64 bX.2)]).length)*16)=true
    · rw[if_pos cL3] at h
      exact LT.next aK (hs:=⟨[(0,[]),(3,[]),(4,[])],[⟨.tmp 3,[],some 2⟩],false,[],[]⟩) (es:=none) [dt,.n x1.length,.row [(.int .u8 bX.1)],.n x1.length,.row [(.int .i64 bX.2)],.rows (List.map aC [(bX.1,sB .i64 bX.2)]),.n ((bW++[(bX.1,sB .i64 bX.2)]).length),.n bW.length,dt,.rows (List.map aC (bW++[(bX.1,sB .i64 bX.2)])),.n ((bW++[(bX.1,sB .i64 bX.2)]).length),.rows (List.map aC (bW++[(bX.1,sB .i64 bX.2)]))] [⟨(bL aC (l:=(bW++[(bX.1,sB .i64 bX.2)])) (n:=((bW++[(bX.1,sB .i64 bX.2)]).length)) rfl)⟩,⟨(rfl:(bW++[(bX.1,sB .i64 bX.2)]).length=(bW++[(bX.1,sB .i64 bX.2)]).length)⟩,⟨(zle ((bW++[(bX.1,sB .i64 bX.2)]).length))⟩,⟨(f5 aC bW [(bX.1,sB .i64 bX.2)])⟩,⟨(dZ bW.length)⟩,⟨(aG aC bW)⟩,⟨cL3⟩,⟨(by simp only[wl,List.length_map,List.map_nil,List.map_cons]<;>omega:bW.length+(List.map aC [(bX.1,sB .i64 bX.2)]).length=(bW++[(bX.1,sB .i64 bX.2)]).length)⟩,⟨(aQ aC (l:=[(bX.1,sB .i64 bX.2)]) (n:=1) rfl)⟩,⟨(a9 aC (Nat.le_refl 1):0+1≤(List.map aC [(bX.1,sB .i64 bX.2)]).length)⟩,⟨(aI (e:=aC) eL2 2 1 1 (by decide))⟩,⟨cL1⟩,⟨(aG aC x1)⟩,⟨(aI (e:=aC) eL2 2 0 1 (by decide))⟩,⟨cL1⟩,⟨(aG aC x1)⟩,⟨(nT cL0)⟩] (by kernel_rfl) (uA x1 y k (pN .i64 d8 1) (bW++[(bX.1,sB .i64 bX.2)]) h)
    rw[if_neg cL3] at h;replace cL3:=eqf cL3
    cases h
  rw[if_neg cL1] at h;replace cL1:=eqf cL1
  cases h
theorem xR (k:Nat) (x1:aL) (r:aL) (h:kW k x1=some r):Tri Try.prog 83 [(.sl 2 (List.map aC x1))] [] (.sl 2 (List.map aC r)) []:=by
 unfold kW at h
 obtain⟨x3,e0,h⟩:=bsm h
 obtain rfl:=osi h
 exact Tri.of (x:=X83) aK facts83 [.n x1.length,.norm 2 ⟨[(0,[]),(3,[]),(4,[])],[⟨.tmp 3,[],some 2⟩],false,[],[]⟩,.n 0,.rows (List.map aC []),.out (.st .normal (aM4 x3)),.rows (List.map aC x3)] [⟨(aQ aC (l:=x3) (n:=x3.length) rfl)⟩,⟨(a9 aC (Nat.le_refl x3.length):0+x3.length≤(List.map aC x3).length)⟩,⟨(LT.block (uA x1 _ k (pN .i64 (nI x1.length) 1) [] e0))⟩,⟨(bL aC (l:=[]) (n:=0) rfl)⟩,⟨(rfl:0=0)⟩,⟨(zle 0)⟩,⟨(aG aC x1)⟩] (by kernel_rfl)
end Go.Ws

namespace Go.Ws
open Go.Proofs
set_option linter.unusedSimpArgs false
set_option linter.unusedVariables false
set_option maxRecDepth 1000000
set_option maxHeartbeats 4000000
noncomputable def X59:Ctx:=⟨Try.f59,[],true⟩
def aE2:Ans:=.norm 0 ⟨[(4,[]),(5,[(0,2)]),(6,[])],[⟨.tmp 4,[],none⟩],false,[],[]⟩
theorem mI (k:Nat) (x1:Int) (x2:aL) (x3:Bool) (x4:Int) (x5:Int) (r:Int × aL × Bool × Int × aL × Int) (h:m6 k x1 x2 x3 x4 x5=some r):Tri Try.prog 59 [(.agg [(.int .i64 x1),(.sl 2 (List.map aC x2)),(.bool x3),(.int .i64 x4)]),(.int .i64 x5)] [] (.tup [(.agg [(.int .i64 r.1),(.sl 2 (List.map aC r.2.1)),(.bool r.2.2.1),(.int .i64 r.2.2.2.1)]),(.sl 2 (List.map aC r.2.2.2.2.1)),(.int .i64 r.2.2.2.2.2)]) []:=by
 unfold m6 at h
 obtain⟨x6,e0,h⟩:=bsm h
 by_cases c1:x6=true
 · rw[if_pos c1] at h
   by_cases c2:eqI x5 1=true
   · rw[if_pos c2] at h
     by_cases c3:eqI x1 3=true
     · rw[if_pos c3] at h
       by_cases c4:eqI x4 x5=true
       · rw[if_pos c4] at h
         obtain rfl:=osi h
         exact Tri.of (x:=X59) aK rW [.call ⟨true,[]⟩ (.bool x6) [],df,df,df,df,df,df,df,df,df,dt,dt,dt,dt,dt,dt,aE2] [⟨c4⟩,⟨c3⟩,⟨c3⟩,⟨c3⟩,⟨c3⟩,⟨c3⟩,⟨rF⟩,⟨(nF c1)⟩,⟨(nF c2)⟩,⟨(nF c1)⟩,⟨(nF c2)⟩,⟨(nF c2)⟩,⟨(nF c1)⟩,⟨(nF c1)⟩,⟨(nF c1)⟩,⟨(bN k x1 x2 x3 x4 _ e0)⟩] (by kernel_rfl)
       rw[if_neg c4] at h;replace c4:=eqf c4
       obtain rfl:=osi h
       exact Tri.of (x:=X59) aK rW [.call ⟨true,[]⟩ (.bool x6) [],df,df,df,df,df,df,df,df,df,dt,dt,dt,dt,dt,df,dt,dt,aE2] [⟨c3⟩,⟨c3⟩,⟨c4⟩,⟨c3⟩,⟨c3⟩,⟨c3⟩,⟨c3⟩,⟨c3⟩,⟨rF⟩,⟨(nF c1)⟩,⟨(nF c2)⟩,⟨(nF c1)⟩,⟨(nF c2)⟩,⟨(nF c2)⟩,⟨(nF c1)⟩,⟨(nF c1)⟩,⟨(nF c1)⟩,⟨(bN k x1 x2 x3 x4 _ e0)⟩] (by kernel_rfl)
     rw[if_neg c3] at h;replace c3:=eqf c3
     by_cases c4:eqI x1 1=true
     · rw[if_pos c4] at h
       by_cases c5:x3=true
       · rw[if_pos c5] at h
         by_cases c6:eqI x5 2=true
         · rw[if_pos c6] at h
           obtain⟨x7,e7,h⟩:=bsm h
           obtain rfl:=osi h
           exact Tri.of (x:=X59) aK rW [.call ⟨true,[]⟩ (.bool x6) [],df,df,df,df,df,df,df,df,df,df,df,df,df,df,df,df,dt,dt,dt,dt,df,dt,dt,dt,dt,df,dt,dt,dt,dt,.call ⟨true,[]⟩ (.sl 2 (List.map aC x7)) []] [⟨(xR k x2 _ e7)⟩,⟨c5⟩,⟨c6⟩,⟨c6⟩,⟨c6⟩,⟨(nF c5)⟩,⟨c2⟩,⟨c2⟩,⟨c2⟩,⟨c2⟩,⟨(nF c4)⟩,⟨c2⟩,⟨c2⟩,⟨c2⟩,⟨c2⟩,⟨c3⟩,⟨rF⟩,⟨c3⟩,⟨c3⟩,⟨c3⟩,⟨c3⟩,⟨c3⟩,⟨rF⟩,⟨(nF c1)⟩,⟨(nF c2)⟩,⟨(nF c1)⟩,⟨(nF c2)⟩,⟨(nF c2)⟩,⟨(nF c1)⟩,⟨(nF c1)⟩,⟨(nF c1)⟩,⟨(bN k x1 x2 x3 x4 _ e0)⟩] (by kernel_rfl)
         rw[if_neg c6] at h;replace c6:=eqf c6
         obtain rfl:=osi h
         exact Tri.of (x:=X59) aK rW [.call ⟨true,[]⟩ (.bool x6) [],df,df,df,df,df,df,df,df,df,df,df,df,df,df,df,df,dt,dt,dt,dt,df,dt,dt,dt,dt,df,df,df,df,df,aE2] [⟨rF⟩,⟨c6⟩,⟨c6⟩,⟨c6⟩,⟨(nF c5)⟩,⟨c2⟩,⟨c2⟩,⟨c2⟩,⟨c2⟩,⟨(nF c4)⟩,⟨c2⟩,⟨c2⟩,⟨c2⟩,⟨c2⟩,⟨c3⟩,⟨rF⟩,⟨c3⟩,⟨c3⟩,⟨c3⟩,⟨c3⟩,⟨c3⟩,⟨rF⟩,⟨(nF c1)⟩,⟨(nF c2)⟩,⟨(nF c1)⟩,⟨(nF c2)⟩,⟨(nF c2)⟩,⟨(nF c1)⟩,⟨(nF c1)⟩,⟨(nF c1)⟩,⟨(bN k x1 x2 x3 x4 _ e0)⟩] (by kernel_rfl)
       rw[if_neg c5] at h;replace c5:=eqf c5
       obtain rfl:=osi h
       exact Tri.of (x:=X59) aK rW [.call ⟨true,[]⟩ (.bool x6) [],df,df,df,df,df,df,df,df,df,df,df,df,df,df,df,df,dt,dt,dt,dt,df,dt,dt,dt,dt,dt] [⟨(nT c5)⟩,⟨c2⟩,⟨c2⟩,⟨c2⟩,⟨c2⟩,⟨(nF c4)⟩,⟨c2⟩,⟨c2⟩,⟨c2⟩,⟨c2⟩,⟨c3⟩,⟨rF⟩,⟨c3⟩,⟨c3⟩,⟨c3⟩,⟨c3⟩,⟨c3⟩,⟨rF⟩,⟨(nF c1)⟩,⟨(nF c2)⟩,⟨(nF c1)⟩,⟨(nF c2)⟩,⟨(nF c2)⟩,⟨(nF c1)⟩,⟨(nF c1)⟩,⟨(nF c1)⟩,⟨(bN k x1 x2 x3 x4 _ e0)⟩] (by kernel_rfl)
     rw[if_neg c4] at h;replace c4:=eqf c4
     obtain rfl:=osi h
     exact Tri.of (x:=X59) aK rW [.call ⟨true,[]⟩ (.bool x6) [],df,df,df,df,df,df,df,df,df,df,df,df,df,df,df,df,dt,dt,dt,dt,dt,aE2] [⟨(nT c4)⟩,⟨c2⟩,⟨c2⟩,⟨c2⟩,⟨c2⟩,⟨c3⟩,⟨rF⟩,⟨c3⟩,⟨c3⟩,⟨c3⟩,⟨c3⟩,⟨c3⟩,⟨rF⟩,⟨(nF c1)⟩,⟨(nF c2)⟩,⟨(nF c1)⟩,⟨(nF c2)⟩,⟨(nF c2)⟩,⟨(nF c1)⟩,⟨(nF c1)⟩,⟨(nF c1)⟩,⟨(bN k x1 x2 x3 x4 _ e0)⟩] (by kernel_rfl)
   rw[if_neg c2] at h;replace c2:=eqf c2
   by_cases c3:eqI x5 2=true
   · rw[if_pos c3] at h
     by_cases c4:eqI x1 3=true
     · rw[if_pos c4] at h
       by_cases c5:eqI x4 x5=true
       · rw[if_pos c5] at h
         obtain rfl:=osi h
         exact Tri.of (x:=X59) aK rW [.call ⟨true,[]⟩ (.bool x6) [],df,df,df,dt,dt,df,dt,df,df,dt,dt,dt,dt,dt,dt,aE2] [⟨c5⟩,⟨c4⟩,⟨c4⟩,⟨c4⟩,⟨c4⟩,⟨c4⟩,⟨(nF c3)⟩,⟨(nF c1)⟩,⟨(nT c2)⟩,⟨(nF c1)⟩,⟨(nT c2)⟩,⟨(nT c2)⟩,⟨(nF c1)⟩,⟨(nF c1)⟩,⟨(nF c1)⟩,⟨(bN k x1 x2 x3 x4 _ e0)⟩] (by kernel_rfl)
       rw[if_neg c5] at h;replace c5:=eqf c5
       obtain rfl:=osi h
       exact Tri.of (x:=X59) aK rW [.call ⟨true,[]⟩ (.bool x6) [],df,df,df,dt,dt,df,dt,df,df,dt,dt,dt,dt,dt,df,dt,dt,aE2] [⟨c4⟩,⟨c4⟩,⟨c5⟩,⟨c4⟩,⟨c4⟩,⟨c4⟩,⟨c4⟩,⟨c4⟩,⟨(nF c3)⟩,⟨(nF c1)⟩,⟨(nT c2)⟩,⟨(nF c1)⟩,⟨(nT c2)⟩,⟨(nT c2)⟩,⟨(nF c1)⟩,⟨(nF c1)⟩,⟨(nF c1)⟩,⟨(bN k x1 x2 x3 x4 _ e0)⟩] (by kernel_rfl)
     rw[if_neg c4] at h;replace c4:=eqf c4
     by_cases c5:x3=true
     · rw[if_pos c5] at h
       obtain⟨x7,e6,h⟩:=bsm h
       obtain rfl:=osi h
       exact Tri.of (x:=X59) aK rW [.call ⟨true,[]⟩ (.bool x6) [],df,df,df,dt,dt,df,dt,df,df,df,df,df,df,df,df,df,df,df,df,df,df,df,df,df,df,df,dt,dt,dt,dt,.call ⟨true,[]⟩ (.sl 2 (List.map aC x7)) []] [⟨(xR k x2 _ e6)⟩,⟨c5⟩,⟨c3⟩,⟨c3⟩,⟨c3⟩,⟨rF⟩,⟨c2⟩,⟨c2⟩,⟨c2⟩,⟨c2⟩,⟨rF⟩,⟨c2⟩,⟨c2⟩,⟨c2⟩,⟨c2⟩,⟨c4⟩,⟨rF⟩,⟨c4⟩,⟨c4⟩,⟨c4⟩,⟨c4⟩,⟨c4⟩,⟨(nF c3)⟩,⟨(nF c1)⟩,⟨(nT c2)⟩,⟨(nF c1)⟩,⟨(nT c2)⟩,⟨(nT c2)⟩,⟨(nF c1)⟩,⟨(nF c1)⟩,⟨(nF c1)⟩,⟨(bN k x1 x2 x3 x4 _ e0)⟩] (by kernel_rfl)
     rw[if_neg c5] at h;replace c5:=eqf c5
     obtain rfl:=osi h
     exact Tri.of (x:=X59) aK rW [.call ⟨true,[]⟩ (.bool x6) [],df,df,df,dt,dt,df,dt,df,df,df,df,df,df,df,df,df,df,df,df,df,df,df,df,df,df,df,dt,dt,dt,df,aE2] [⟨c5⟩,⟨c3⟩,⟨c3⟩,⟨c3⟩,⟨rF⟩,⟨c2⟩,⟨c2⟩,⟨c2⟩,⟨c2⟩,⟨rF⟩,⟨c2⟩,⟨c2⟩,⟨c2⟩,⟨c2⟩,⟨c4⟩,⟨rF⟩,⟨c4⟩,⟨c4⟩,⟨c4⟩,⟨c4⟩,⟨c4⟩,⟨(nF c3)⟩,⟨(nF c1)⟩,⟨(nT c2)⟩,⟨(nF c1)⟩,⟨(nT c2)⟩,⟨(nT c2)⟩,⟨(nF c1)⟩,⟨(nF c1)⟩,⟨(nF c1)⟩,⟨(bN k x1 x2 x3 x4 _ e0)⟩] (by kernel_rfl)
   rw[if_neg c3] at h;replace c3:=eqf c3
   obtain rfl:=osi h
   exact Tri.of (x:=X59) aK rW [.call ⟨true,[]⟩ (.bool x6) [],df,df,df,dt,dt,df,dt,df,dt,aE2] [⟨(nT c3)⟩,⟨(nF c1)⟩,⟨(nT c2)⟩,⟨(nF c1)⟩,⟨(nT c2)⟩,⟨(nT c2)⟩,⟨(nF c1)⟩,⟨(nF c1)⟩,⟨(nF c1)⟩,⟨(bN k x1 x2 x3 x4 _ e0)⟩] (by kernel_rfl)
 rw[if_neg c1] at h;replace c1:=eqf c1
 obtain rfl:=osi h
 exact Tri.of (x:=X59) aK rW [.call ⟨true,[]⟩ (.bool x6) [],dt,dt,dt,dt,dt,dt,aE2] [⟨rT⟩,⟨(nT c1)⟩,⟨(nT c1)⟩,⟨(nT c1)⟩,⟨(nT c1)⟩,⟨(nT c1)⟩,⟨(bN k x1 x2 x3 x4 _ e0)⟩] (by kernel_rfl)
end Go.Ws

namespace Go.Ws
open Go.Proofs
set_option linter.unusedSimpArgs false
set_option linter.unusedVariables false
set_option maxRecDepth 1000000
set_option maxHeartbeats 4000000
noncomputable def X36:Ctx:=⟨Try.f36,[],true⟩
noncomputable def L36_0:Code:=at_ Try.f36 [1,1,0,1,4,5]
def S36_0 (x1:aL) (x2:Int) (eP:Int) (dK:Int):St:=⟨mkT 28 [(0,(.sl 2 (List.map aC x1))),(1,(.int .u8 x2)),(5,(.int .i64 eP)),(6,(.int .i64 dK))],[]⟩
def aMC (v36002_1:Int):St:=⟨mkT 28 [(5,(.int .i64 v36002_1))],[]⟩
def O36_0 (x1:aL) (x2:Int) (y:(Int)):GX:=.st (.exit 0) (aMC y)
theorem v4 (x1:aL) (x2:Int) (y:(Int)):∀(k:Nat) (eP:Int) (dK:Int),iB k x1 x2 eP dK=some y→LT Try.prog X36 L36_0 (S36_0 x1 x2 eP dK) (O36_0 x1 x2 y)
 | 0,eP,dK,h=>by cases h
 | k+1,eP,dK,h=>by
  rw[iB] at h
  by_cases cL0:ltI dK (nI x1.length)=true
  · rw[if_pos cL0] at h
    by_cases cL1:inI dK x1.length=true
    · rw[if_pos cL1] at h
      obtain⟨qF,eL2,h⟩:=bsm h
      by_cases cL3:eqI qF.1 x2=true
      · rw[if_pos cL3] at h
        exact LT.next aK (hs:=⟨[(0,[]),(1,[]),(5,[]),(6,[])],[],false,[],[]⟩) (es:=none) [.n x1.length,dt,.n x1.length,.row [(.int .u8 qF.1)],dt,.n x1.length,.row [(.int .i64 qF.2)]] [⟨(aI (e:=aC) eL2 2 1 1 (by decide))⟩,⟨cL1⟩,⟨(aG aC x1)⟩,⟨cL3⟩,⟨(aI (e:=aC) eL2 2 0 1 (by decide))⟩,⟨cL1⟩,⟨(aG aC x1)⟩,⟨cL0⟩,⟨(aG aC x1)⟩] (by kernel_rfl) (v4 x1 x2 y k (aO .i64 eP qF.2) (aO .i64 dK 1) h)
      rw[if_neg cL3] at h;replace cL3:=eqf cL3
      exact LT.next aK (hs:=⟨[(0,[]),(1,[]),(5,[]),(6,[])],[],false,[],[]⟩) (es:=none) [.n x1.length,dt,.n x1.length,.row [(.int .u8 qF.1)],df] [⟨cL3⟩,⟨(aI (e:=aC) eL2 2 0 1 (by decide))⟩,⟨cL1⟩,⟨(aG aC x1)⟩,⟨cL0⟩,⟨(aG aC x1)⟩] (by kernel_rfl) (v4 x1 x2 y k eP (aO .i64 dK 1) h)
    rw[if_neg cL1] at h;replace cL1:=eqf cL1
    cases h
  rw[if_neg cL0] at h;replace cL0:=eqf cL0
  obtain rfl:=osi h
  show LT _ _ _ _ (.st (.exit 0) (aMC eP))
  exact LT.done aK (hs:=⟨[],[],false,[],[]⟩) (es:=(some ⟨[(5,[])],[],false,[],[]⟩)) [.n x1.length,df] [⟨cL0⟩,⟨(aG aC x1)⟩] (by kernel_rfl) (fun s h=>by cases h)
theorem aF4 (k:Nat) (x1:aL) (x2:Int) (r:Int) (h:wU k x1 x2=some r):Tri Try.prog 36 [(.sl 2 (List.map aC x1)),(.int .u8 x2)] [] (.int .i64 r) []:=by
 unfold wU at h
 obtain⟨x4,e0,h⟩:=bsm h
 obtain rfl:=osi h
 exact Tri.of (x:=X36) aK facts36 [.norm 2 ⟨[(0,[]),(1,[]),(5,[]),(6,[])],[],false,[],[]⟩,.out (.st .normal (aMC x4))] [⟨(LT.block (v4 x1 x2 _ k 0 0 e0))⟩] (by kernel_rfl)
end Go.Ws

namespace Go.Ws
open Go.Proofs
set_option linter.unusedSimpArgs false
set_option linter.unusedVariables false
set_option maxRecDepth 1000000
set_option maxHeartbeats 4000000
noncomputable def X24:Ctx:=⟨Try.f24,[],true⟩
noncomputable def L24_0:Code:=at_ Try.f24 [1,1,0,1,4,5]
def S24_0 (x1:aL) (bH:Int) (bE:aL):St:=⟨mkT 24 [(0,(.sl 2 (List.map aC x1))),(3,(.ref 2 0 0 0 bE.length .virt)),(4,(.int .i64 bH))],[(.arr 2 (List.map aC bE) 0 0 false)]⟩
def aMD (aQM:aL):St:=⟨mkT 24 [(3,(.ref 2 0 0 0 aQM.length .virt))],[(.arr 2 (List.map aC aQM) 0 0 false)]⟩
def O24_0 (x1:aL) (y:(aL)):GX:=.st (.exit 0) (aMD y)
theorem xG (x1:aL) (y:(aL)):∀(k:Nat) (bH:Int) (bE:aL),i8 k x1 bH bE=some y→LT Try.prog X24 L24_0 (S24_0 x1 bH bE) (O24_0 x1 y)
 | 0,bH,bE,h=>by cases h
 | k+1,bH,bE,h=>by
  rw[i8] at h
  by_cases cL0:ltI bH 64=true
  · rw[if_pos cL0] at h
    obtain⟨fG,eL1,h⟩:=bsm h
    by_cases cL2:eqI fG 0=true
    · rw[if_pos cL2] at h
      exact LT.next aK (hs:=⟨[(0,[]),(3,[]),(4,[])],[⟨.tmp 3,[],some 2⟩],false,[],[]⟩) (es:=none) [dt,.call ⟨true,[]⟩ (.int .i64 fG) [],df,.n bE.length,.rows (List.map aC bE)] [⟨(bL aC (l:=bE) (n:=bE.length) rfl)⟩,⟨(rfl:bE.length=bE.length)⟩,⟨(zle bE.length)⟩,⟨(nF cL2)⟩,⟨(aF4 k x1 (conv .u8 bH) _ eL1)⟩,⟨cL0⟩] (by kernel_rfl) (xG x1 y k (aO .i64 bH 1) bE h)
    rw[if_neg cL2] at h;replace cL2:=eqf cL2
    by_cases cL3:bB (((bE++[(conv .u8 bH,fG)]).length)*16)=true
    · rw[if_pos cL3] at h
      exact LT.next aK (hs:=⟨[(0,[]),(3,[]),(4,[])],[⟨.tmp 3,[],some 2⟩],false,[],[]⟩) (es:=none) [dt,.call ⟨true,[]⟩ (.int .i64 fG) [],dt,.rows (List.map aC [(conv .u8 bH,fG)]),.n ((bE++[(conv .u8 bH,fG)]).length),.n bE.length,dt,.rows (List.map aC (bE++[(conv .u8 bH,fG)])),.n ((bE++[(conv .u8 bH,fG)]).length),.rows (List.map aC (bE++[(conv .u8 bH,fG)]))] [⟨(bL aC (l:=(bE++[(conv .u8 bH,fG)])) (n:=((bE++[(conv .u8 bH,fG)]).length)) rfl)⟩,⟨(rfl:(bE++[(conv .u8 bH,fG)]).length=(bE++[(conv .u8 bH,fG)]).length)⟩,⟨(zle ((bE++[(conv .u8 bH,fG)]).length))⟩,⟨(f5 aC bE [(conv .u8 bH,fG)])⟩,⟨(dZ bE.length)⟩,⟨(aG aC bE)⟩,⟨cL3⟩,⟨(by simp only[wl,List.length_map,List.map_nil,List.map_cons]<;>omega:bE.length+(List.map aC [(conv .u8 bH,fG)]).length=(bE++[(conv .u8 bH,fG)]).length)⟩,⟨(aQ aC (l:=[(conv .u8 bH,fG)]) (n:=1) rfl)⟩,⟨(a9 aC (Nat.le_refl 1):0+1≤(List.map aC [(conv .u8 bH,fG)]).length)⟩,⟨(nT cL2)⟩,⟨(aF4 k x1 (conv .u8 bH) _ eL1)⟩,⟨cL0⟩] (by kernel_rfl) (xG x1 y k (aO .i64 bH 1) (bE++[(conv .u8 bH,fG)]) h)
    rw[if_neg cL3] at h;replace cL3:=eqf cL3
    cases h
  rw[if_neg cL0] at h;replace cL0:=eqf cL0
  obtain rfl:=osi h
  show LT _ _ _ _ (.st (.exit 0) (aMD bE))
  exact LT.done aK (hs:=⟨[],[],false,[],[]⟩) (es:=(some ⟨[(3,[])],[⟨.tmp 3,[],none⟩],false,[],[]⟩)) [df] [⟨cL0⟩] (by kernel_rfl) (fun s h=>by cases h)
theorem aQB (k:Nat) (x1:aL) (r:aL) (h:aAP k x1=some r):Tri Try.prog 24 [(.sl 2 (List.map aC x1))] [] (.sl 2 (List.map aC r)) []:=by
 unfold aAP at h
 obtain⟨x3,e0,h⟩:=bsm h
 obtain rfl:=osi h
 exact Tri.of (x:=X24) aK facts24 [.norm 2 ⟨[(0,[]),(3,[]),(4,[])],[⟨.tmp 3,[],some 2⟩],false,[],[]⟩,.n 0,.rows (List.map aC []),.out (.st .normal (aMD x3)),.rows (List.map aC x3)] [⟨(aQ aC (l:=x3) (n:=x3.length) rfl)⟩,⟨(a9 aC (Nat.le_refl x3.length):0+x3.length≤(List.map aC x3).length)⟩,⟨(LT.block (xG x1 _ k 0 [] e0))⟩,⟨(bL aC (l:=[]) (n:=0) rfl)⟩,⟨(rfl:0=0)⟩,⟨(zle 0)⟩] (by kernel_rfl)
end Go.Ws

namespace Go.Ws
open Go.Proofs
set_option linter.unusedSimpArgs false
set_option linter.unusedVariables false
set_option maxRecDepth 1000000
set_option maxHeartbeats 4000000
noncomputable def X25:Ctx:=⟨Try.f25,[],true⟩
noncomputable def L25_0:Code:=at_ Try.f25 [1,0,1,4,5]
def S25_0 (x1:aL) (x2:Int) (d9:Int):St:=⟨mkT 24 [(0,(.sl 2 (List.map aC x1))),(1,(.int .u8 x2)),(5,(.int .i64 d9))],[]⟩
def aOH:St:=⟨mkT 24 [],[]⟩
def O25_0 (x1:aL) (x2:Int) (y:(Sum (Unit) (Int))):GX:=match y with
 | .inl y=>.st (.exit 0) (aOH)
 | .inr y=>.fin (.int .i64 y) []
theorem v5 (x1:aL) (x2:Int) (y:(Sum (Unit) (Int))):∀(k:Nat) (d9:Int),iU k x1 x2 d9=some y→LT Try.prog X25 L25_0 (S25_0 x1 x2 d9) (O25_0 x1 x2 y)
 | 0,d9,h=>by cases h
 | k+1,d9,h=>by
  rw[iU] at h
  by_cases cL0:ltI d9 (nI x1.length)=true
  · rw[if_pos cL0] at h
    by_cases cL1:inI d9 x1.length=true
    · rw[if_pos cL1] at h
      obtain⟨qG,eL2,h⟩:=bsm h
      by_cases cL3:eqI qG.1 x2=true
      · rw[if_pos cL3] at h
        obtain rfl:=osi h
        show LT _ _ _ _ (.fin (.int .i64 qG.2) [])
        exact LT.done aK (hs:=⟨[],[],false,[],[]⟩) (es:=none) [.n x1.length,dt,.n x1.length,.row [(.int .u8 qG.1)],dt,.n x1.length,.row [(.int .i64 qG.2)]] [⟨(aI (e:=aC) eL2 2 1 1 (by decide))⟩,⟨cL1⟩,⟨(aG aC x1)⟩,⟨cL3⟩,⟨(aI (e:=aC) eL2 2 0 1 (by decide))⟩,⟨cL1⟩,⟨(aG aC x1)⟩,⟨cL0⟩,⟨(aG aC x1)⟩] (by kernel_rfl) (fun s h=>by cases h)
      rw[if_neg cL3] at h;replace cL3:=eqf cL3
      exact LT.next aK (hs:=⟨[(0,[]),(1,[]),(5,[])],[],false,[],[]⟩) (es:=none) [.n x1.length,dt,.n x1.length,.row [(.int .u8 qG.1)],df] [⟨cL3⟩,⟨(aI (e:=aC) eL2 2 0 1 (by decide))⟩,⟨cL1⟩,⟨(aG aC x1)⟩,⟨cL0⟩,⟨(aG aC x1)⟩] (by kernel_rfl) (v5 x1 x2 y k (aO .i64 d9 1) h)
    rw[if_neg cL1] at h;replace cL1:=eqf cL1
    cases h
  rw[if_neg cL0] at h;replace cL0:=eqf cL0
  obtain rfl:=osi h
  show LT _ _ _ _ (.st (.exit 0) (aOH))
  exact LT.done aK (hs:=⟨[],[],false,[],[]⟩) (es:=(some ⟨[],[],false,[],[]⟩)) [.n x1.length,df] [⟨cL0⟩,⟨(aG aC x1)⟩] (by kernel_rfl) (fun s h=>by cases h)
theorem aA6 (k:Nat) (x1:aL) (x2:Int) (r:Int) (h:uU k x1 x2=some r):Tri Try.prog 25 [(.sl 2 (List.map aC x1)),(.int .u8 x2)] [] (.int .i64 r) []:=by
 unfold uU at h
 obtain⟨x3,e0,h⟩:=bsm h
 cases x3 with
 | inl x4 =>
  simp only[Sum.elim_inl] at h
  obtain rfl:=osi h
  exact Tri.of (x:=X25) aK aRT [.norm 2 ⟨[(0,[]),(1,[]),(5,[])],[],false,[],[]⟩,.out (.st .normal (aOH))] [⟨(LT.block (v5 x1 x2 _ k 0 e0))⟩] (by kernel_rfl)
 | inr x4 =>
  simp only[Sum.elim_inr] at h
  obtain rfl:=osi h
  exact Tri.of (x:=X25) aK aRT [.norm 2 ⟨[(0,[]),(1,[]),(5,[])],[],false,[],[]⟩,.out (.fin (.int .i64 x4) [])] [⟨(LT.blockFin (id:=0) (v5 x1 x2 _ k 0 e0))⟩] (by kernel_rfl)
end Go.Ws

namespace Go.Ws
open Go.Proofs
set_option linter.unusedSimpArgs false
set_option linter.unusedVariables false
set_option maxRecDepth 1000000
set_option maxHeartbeats 4000000
noncomputable def X41:Ctx:=⟨Try.f41,[],true⟩
noncomputable def L41_0:Code:=at_ Try.f41 [1,1,0,1,4,5]
def S41_0 (x1:aL) (x2:aL) (cY:Int):St:=⟨mkT 26 [(0,(.sl 2 (List.map aC x1))),(1,(.sl 2 (List.map aC x2))),(5,(.int .i64 cY))],[]⟩
def aMW:St:=⟨mkT 26 [],[]⟩
def O41_0 (x1:aL) (x2:aL) (y:pO):GX:=match y with
 | .inl y=>.st (.exit 0) (aMW)
 | .inr y=>.fin (.bool y) []
theorem r6 (x1:aL) (x2:aL) (y:pO):∀(k:Nat) (cY:Int),fO k x1 x2 cY=some y→LT Try.prog X41 L41_0 (S41_0 x1 x2 cY) (O41_0 x1 x2 y)
 | 0,cY,h=>by cases h
 | k+1,cY,h=>by
  rw[fO] at h
  by_cases cL0:ltI cY (nI x1.length)=true
  · rw[if_pos cL0] at h
    by_cases cL1:inI cY x1.length=true
    · rw[if_pos cL1] at h
      obtain⟨mB,eL2,h⟩:=bsm h
      by_cases cL3:inI cY x2.length=true
      · rw[if_pos cL3] at h
        obtain⟨mC,eL4,h⟩:=bsm h
        by_cases cL5:eqI mB.1 mC.1=true
        · rw[if_pos cL5] at h
          by_cases cL6:eqI mB.2 mC.2=true
          · rw[if_pos cL6] at h
            exact LT.next aK (hs:=⟨[(0,[]),(1,[]),(5,[])],[],false,[],[]⟩) (es:=none) [.n x1.length,dt,.n x1.length,.row [(.int .u8 mB.1),(.int .i64 mB.2)],.n x2.length,.row [(.int .u8 mC.1),(.int .i64 mC.2)],df] [⟨(nF (aT cL5 cL6))⟩,⟨(aI (e:=aC) eL4 2 0 2 (by decide))⟩,⟨cL3⟩,⟨(aG aC x2)⟩,⟨(aI (e:=aC) eL2 2 0 2 (by decide))⟩,⟨cL1⟩,⟨(aG aC x1)⟩,⟨cL0⟩,⟨(aG aC x1)⟩] (by kernel_rfl) (r6 x1 x2 y k (aO .i64 cY 1) h)
          rw[if_neg cL6] at h;replace cL6:=eqf cL6
          obtain rfl:=osi h
          show LT _ _ _ _ (.fin (.bool false) [])
          exact LT.done aK (hs:=⟨[],[],false,[],[]⟩) (es:=none) [.n x1.length,dt,.n x1.length,.row [(.int .u8 mB.1),(.int .i64 mB.2)],.n x2.length,.row [(.int .u8 mC.1),(.int .i64 mC.2)],dt] [⟨(nT (aF2 cL5 cL6))⟩,⟨(aI (e:=aC) eL4 2 0 2 (by decide))⟩,⟨cL3⟩,⟨(aG aC x2)⟩,⟨(aI (e:=aC) eL2 2 0 2 (by decide))⟩,⟨cL1⟩,⟨(aG aC x1)⟩,⟨cL0⟩,⟨(aG aC x1)⟩] (by kernel_rfl) (fun s h=>by cases h)
        rw[if_neg cL5] at h;replace cL5:=eqf cL5
        obtain rfl:=osi h
        show LT _ _ _ _ (.fin (.bool false) [])
        exact LT.done aK (hs:=⟨[],[],false,[],[]⟩) (es:=none) [.n x1.length,dt,.n x1.length,.row [(.int .u8 mB.1),(.int .i64 mB.2)],.n x2.length,.row [(.int .u8 mC.1),(.int .i64 mC.2)],dt] [⟨(nT (aF1 (b:=eqI mB.2 mC.2) cL5))⟩,⟨(aI (e:=aC) eL4 2 0 2 (by decide))⟩,⟨cL3⟩,⟨(aG aC x2)⟩,⟨(aI (e:=aC) eL2 2 0 2 (by decide))⟩,⟨cL1⟩,⟨(aG aC x1)⟩,⟨cL0⟩,⟨(aG aC x1)⟩] (by kernel_rfl) (fun s h=>by cases h)
      rw[if_neg cL3] at h;replace cL3:=eqf cL3
      cases h
    rw[if_neg cL1] at h;replace cL1:=eqf cL1
    cases h
  rw[if_neg cL0] at h;replace cL0:=eqf cL0
  obtain rfl:=osi h
  show LT _ _ _ _ (.st (.exit 0) (aMW))
  exact LT.done aK (hs:=⟨[],[],false,[],[]⟩) (es:=(some ⟨[],[],false,[],[]⟩)) [.n x1.length,df] [⟨cL0⟩,⟨(aG aC x1)⟩] (by kernel_rfl) (fun s h=>by cases h)
theorem aH3 (k:Nat) (x1:aL) (x2:aL) (r:Bool) (h:qJ k x1 x2=some r):Tri Try.prog 41 [(.sl 2 (List.map aC x1)),(.sl 2 (List.map aC x2))] [] (.bool r) []:=by
 unfold qJ at h
 by_cases c0:eqI (nI x1.length) (nI x2.length)=true
 · rw[if_pos c0] at h
   obtain⟨x3,e1,h⟩:=bsm h
   cases x3 with
   | inl x4 =>
    simp only[Sum.elim_inl] at h
    obtain rfl:=osi h
    exact Tri.of (x:=X41) aK aN4 [.n x1.length,.n x2.length,df,.norm 2 ⟨[(0,[]),(1,[]),(5,[])],[],false,[],[]⟩,.out (.st .normal (aMW))] [⟨(LT.block (r6 x1 x2 _ k 0 e1))⟩,⟨(nF c0)⟩,⟨(aG aC x2)⟩,⟨(aG aC x1)⟩] (by kernel_rfl)
   | inr x4 =>
    simp only[Sum.elim_inr] at h
    obtain rfl:=osi h
    exact Tri.of (x:=X41) aK aN4 [.n x1.length,.n x2.length,df,.norm 2 ⟨[(0,[]),(1,[]),(5,[])],[],false,[],[]⟩,.out (.fin (.bool x4) [])] [⟨(LT.blockFin (id:=0) (r6 x1 x2 _ k 0 e1))⟩,⟨(nF c0)⟩,⟨(aG aC x2)⟩,⟨(aG aC x1)⟩] (by kernel_rfl)
 rw[if_neg c0] at h;replace c0:=eqf c0
 obtain rfl:=osi h
 exact Tri.of (x:=X41) aK aN4 [.n x1.length,.n x2.length,dt] [⟨(nT c0)⟩,⟨(aG aC x2)⟩,⟨(aG aC x1)⟩] (by kernel_rfl)
end Go.Ws

namespace Go.Ws
open Go.Proofs
set_option linter.unusedSimpArgs false
set_option linter.unusedVariables false
set_option maxRecDepth 1000000
set_option maxHeartbeats 4000000
noncomputable def X30:Ctx:=⟨Try.f30,[],true⟩
theorem aDR (k:Nat) (x1:Int) (x2:aL) (x3:Bool) (x4:Int) (x5:Int) (x6:aL) (x7:Bool) (x8:Int) (r:Bool) (h:uQ k x1 x2 x3 x4 x5 x6 x7 x8=some r):Tri Try.prog 30 [(.agg [(.int .i64 x1),(.sl 2 (List.map aC x2)),(.bool x3),(.int .i64 x4)]),(.agg [(.int .i64 x5),(.sl 2 (List.map aC x6)),(.bool x7),(.int .i64 x8)])] [] (.bool r) []:=by
 unfold uQ at h
 by_cases c0:eqI x1 x5=true
 · rw[if_pos c0] at h
   by_cases c1:eqB x3 x7=true
   · rw[if_pos c1] at h
     by_cases c2:eqI x4 x8=true
     · rw[if_pos c2] at h
       obtain⟨x9,e3,h⟩:=bsm h
       obtain rfl:=osi h
       exact Tri.of (x:=X30) aK aIT [dt,dt,dt,dt,dt,dt,dt,dt,dt,dt,dt,dt,dt,dt,dt,dt,dt,.call ⟨true,[]⟩ (.bool x9) [],dt] [⟨c2⟩,⟨(aH3 k x2 x6 _ e3)⟩,⟨c2⟩,⟨c2⟩,⟨c2⟩,⟨c2⟩,⟨c2⟩,⟨c1⟩,⟨c1⟩,⟨c1⟩,⟨c1⟩,⟨c1⟩,⟨c1⟩,⟨c0⟩,⟨c0⟩,⟨c0⟩,⟨c0⟩,⟨c0⟩,⟨c0⟩] (by kernel_rfl)
     rw[if_neg c2] at h;replace c2:=eqf c2
     obtain rfl:=osi h
     exact Tri.of (x:=X30) aK aIT [dt,dt,dt,dt,dt,dt,dt,dt,dt,dt,dt,dt,df,df,df,df,df,df] [⟨c2⟩,⟨c2⟩,⟨c2⟩,⟨c2⟩,⟨c2⟩,⟨c2⟩,⟨c1⟩,⟨c1⟩,⟨c1⟩,⟨c1⟩,⟨c1⟩,⟨c1⟩,⟨c0⟩,⟨c0⟩,⟨c0⟩,⟨c0⟩,⟨c0⟩,⟨c0⟩] (by kernel_rfl)
   rw[if_neg c1] at h;replace c1:=eqf c1
   obtain rfl:=osi h
   exact Tri.of (x:=X30) aK aIT [dt,dt,dt,dt,dt,dt,df,df,df,df,df,df,df,df,df,df,df,df] [⟨rF⟩,⟨rF⟩,⟨rF⟩,⟨rF⟩,⟨rF⟩,⟨rF⟩,⟨c1⟩,⟨c1⟩,⟨c1⟩,⟨c1⟩,⟨c1⟩,⟨c1⟩,⟨c0⟩,⟨c0⟩,⟨c0⟩,⟨c0⟩,⟨c0⟩,⟨c0⟩] (by kernel_rfl)
 rw[if_neg c0] at h;replace c0:=eqf c0
 obtain rfl:=osi h
 exact Tri.of (x:=X30) aK aIT [df,df,df,df,df,df,df,df,df,df,df,df,df,df,df,df,df,df] [⟨rF⟩,⟨rF⟩,⟨rF⟩,⟨rF⟩,⟨rF⟩,⟨rF⟩,⟨rF⟩,⟨rF⟩,⟨rF⟩,⟨rF⟩,⟨rF⟩,⟨rF⟩,⟨c0⟩,⟨c0⟩,⟨c0⟩,⟨c0⟩,⟨c0⟩,⟨c0⟩] (by kernel_rfl)
end Go.Ws

namespace Go.Ws
open Go.Proofs
set_option linter.unusedSimpArgs false
set_option linter.unusedVariables false
set_option maxRecDepth 1000000
set_option maxHeartbeats 4000000
noncomputable def X17:Ctx:=⟨Try.f17,[],true⟩
noncomputable def L17_0:Code:=at_ Try.f17 [1,0,1,4,5]
def S17_0 (x1:aL) (x2:aN) (x3:Ty7) (x4:aW) (x5:Int) (dL:Int):St:=⟨mkT 22 [(1,(.int .i64 x5)),(2,(.hp 0 0)),(5,(.int .i64 dL))],[(.row [(.sl 2 (List.map aC x1)),(.sl 3 (List.map aA x2)),(.sl 5 (List.map aE x3)),(.sl 4 (List.map aB x4))])]⟩
def aMB:St:=⟨mkT 22 [],[]⟩
def O17_0 (x1:aL) (x2:aN) (x3:Ty7) (x4:aW) (x5:Int) (y:(Sum (Unit) (Int))):GX:=match y with
 | .inl y=>.st (.exit 0) (aMB)
 | .inr y=>.fin (.int .i64 y) []
def A17_0:Ans:=.norm 2 ⟨[(1,[]),(2,[]),(5,[])],[⟨.tmp 2,[],none⟩],false,[],[]⟩
theorem uR (x1:aL) (x2:aN) (x3:Ty7) (x4:aW) (x5:Int) (y:(Sum (Unit) (Int))):∀(k:Nat) (dL:Int),hU k x1 x2 x3 x4 x5 dL=some y→LT Try.prog X17 L17_0 (S17_0 x1 x2 x3 x4 x5 dL) (O17_0 x1 x2 x3 x4 x5 y)
 | 0,dL,h=>by cases h
 | k+1,dL,h=>by
  rw[hU] at h
  by_cases cL0:ltI dL (nI x3.length)=true
  · rw[if_pos cL0] at h
    by_cases cL1:inI dL x3.length=true
    · rw[if_pos cL1] at h
      obtain⟨yD,eL2,h⟩:=bsm h
      by_cases cL3:eqI yD.1 x5=true
      · rw[if_pos cL3] at h
        obtain rfl:=osi h
        show LT _ _ _ _ (.fin (.int .i64 dL) [])
        exact LT.done aK (hs:=⟨[],[],false,[],[]⟩) (es:=none) [.n x3.length,dt,.n x3.length,.row [(.int .i64 yD.1)],dt] [⟨cL3⟩,⟨(aI (e:=aE) eL2 5 0 1 (by decide))⟩,⟨cL1⟩,⟨(aG aE x3)⟩,⟨cL0⟩,⟨(aG aE x3)⟩] (by kernel_rfl) (fun s h=>by cases h)
      rw[if_neg cL3] at h;replace cL3:=eqf cL3
      exact LT.next aK (hs:=⟨[(1,[]),(2,[]),(5,[])],[⟨.tmp 2,[],none⟩],false,[],[]⟩) (es:=none) [.n x3.length,dt,.n x3.length,.row [(.int .i64 yD.1)],df] [⟨cL3⟩,⟨(aI (e:=aE) eL2 5 0 1 (by decide))⟩,⟨cL1⟩,⟨(aG aE x3)⟩,⟨cL0⟩,⟨(aG aE x3)⟩] (by kernel_rfl) (uR x1 x2 x3 x4 x5 y k (aO .i64 dL 1) h)
    rw[if_neg cL1] at h;replace cL1:=eqf cL1
    cases h
  rw[if_neg cL0] at h;replace cL0:=eqf cL0
  obtain rfl:=osi h
  show LT _ _ _ _ (.st (.exit 0) (aMB))
  exact LT.done aK (hs:=⟨[],[],false,[],[]⟩) (es:=(some ⟨[],[],false,[],[]⟩)) [.n x3.length,df] [⟨cL0⟩,⟨(aG aE x3)⟩] (by kernel_rfl) (fun s h=>by cases h)
theorem rD (k:Nat) (x1:aL) (x2:aN) (x3:Ty7) (x4:aW) (x5:Int) (r:Int) (h:uJ k x1 x2 x3 x4 x5=some r):Tri Try.prog 17 [(.agg [(.sl 2 (List.map aC x1)),(.sl 3 (List.map aA x2)),(.sl 5 (List.map aE x3)),(.sl 4 (List.map aB x4))]),(.int .i64 x5)] [] (.int .i64 r) []:=by
 unfold uJ at h
 obtain⟨x6,e0,h⟩:=bsm h
 cases x6 with
 | inl x7 =>
  simp only[Sum.elim_inl] at h
  obtain rfl:=osi h
  exact Tri.of (x:=X17) aK aRZ [A17_0,.out (.st .normal (aMB))] [⟨(LT.block (uR x1 x2 x3 x4 x5 _ k 0 e0))⟩] (by kernel_rfl)
 | inr x7 =>
  simp only[Sum.elim_inr] at h
  obtain rfl:=osi h
  exact Tri.of (x:=X17) aK aRZ [A17_0,.out (.fin (.int .i64 x7) [])] [⟨(LT.blockFin (id:=0) (uR x1 x2 x3 x4 x5 _ k 0 e0))⟩] (by kernel_rfl)
end Go.Ws

namespace Go.Ws
open Go.Proofs
set_option linter.unusedSimpArgs false
set_option linter.unusedVariables false
set_option maxRecDepth 1000000
set_option maxHeartbeats 4000000
noncomputable def X55:Ctx:=⟨Try.f55,[],true⟩
theorem m9 (k:Nat) (x1:aL) (x2:aN) (x3:Ty7) (x4:aW) (x5:Int) (x6:Int) (x7:aL) (x8:Bool) (x9:Int) (r:aL × aN × Ty7 × aW) (h:lZ k x1 x2 x3 x4 x5 x6 x7 x8 x9=some r):Tri Try.prog 55 [(.agg [(.sl 2 (List.map aC x1)),(.sl 3 (List.map aA x2)),(.sl 5 (List.map aE x3)),(.sl 4 (List.map aB x4))]),(.int .i64 x5),(.agg [(.int .i64 x6),(.sl 2 (List.map aC x7)),(.bool x8),(.int .i64 x9)])] [] (.agg [(.sl 2 (List.map aC r.1)),(.sl 3 (List.map aA r.2.1)),(.sl 5 (List.map aE r.2.2.1)),(.sl 4 (List.map aB r.2.2.2))]) []:=by
 unfold lZ at h
 by_cases c0:bB (x3.length*56)=true
 · rw[if_pos c0] at h
   by_cases c1:inI x5 x3.length=true
   · rw[if_pos c1] at h
     obtain⟨x10,e2,h⟩:=bsm h
     obtain rfl:=osi h
     exact Tri.of (x:=X55) aK facts55 [.n x3.length,.row [(.int .i64 x10.1)],.rows (List.map aE (List.set x3 (tN x5) (x10.1,x6,x7,x8,x9))),.rows (List.map aE (List.set x3 (tN x5) (x10.1,x6,x7,x8,x9)))] [⟨(aQ aE (l:=(List.set x3 (tN x5) (x10.1,x6,x7,x8,x9))) (n:=x3.length) (by simp:x3.length=List.length (α:=Int × Int × aL × Bool × Int) (List.set x3 (tN x5) (x10.1,x6,x7,x8,x9))))⟩,⟨(a9 aE (Nat.le_of_eq (by simp:x3.length=List.length (α:=Int × Int × aL × Bool × Int) (List.set x3 (tN x5) (x10.1,x6,x7,x8,x9)))))⟩,⟨(s4 (e:=aE) e2 0 [(.int .i64 x10.1),(.int .i64 x6),(.sl 2 (List.map aC x7)),(.bool x8),(.int .i64 x9)] (x10.1,x6,x7,x8,x9) rfl)⟩,⟨c1⟩,⟨(aI (e:=aE) e2 5 0 1 (by decide))⟩,⟨c1⟩,⟨c0⟩,⟨(aG aE x3)⟩] (by kernel_rfl)
   rw[if_neg c1] at h;replace c1:=eqf c1
   cases h
 rw[if_neg c0] at h;replace c0:=eqf c0
 cases h
end Go.Ws

namespace Go.Ws
open Go.Proofs
set_option linter.unusedSimpArgs false
set_option linter.unusedVariables false
set_option maxRecDepth 1000000
set_option maxHeartbeats 4000000
noncomputable def X94:Ctx:=⟨Try.f94,[],true⟩
noncomputable def L94_0:Code:=at_ Try.f94 [1,0,1,4,5]
def S94_0 (x1:aL) (b9:Int):St:=⟨mkT 42 [(0,(.sl 2 (List.map aC x1))),(3,(.int .i64 b9))],[]⟩
def aNY:St:=⟨mkT 42 [],[]⟩
def O94_0 (x1:aL) (y:pO):GX:=match y with
 | .inl y=>.st (.exit 0) (aNY)
 | .inr y=>.fin (.bool y) []
theorem pH (x1:aL) (y:pO):∀(k:Nat) (b9:Int),fR k x1 b9=some y→LT Try.prog X94 L94_0 (S94_0 x1 b9) (O94_0 x1 y)
 | 0,b9,h=>by cases h
 | k+1,b9,h=>by
  rw[fR] at h
  by_cases cL0:ltI b9 (nI x1.length)=true
  · rw[if_pos cL0] at h
    by_cases cL1:inI b9 x1.length=true
    · rw[if_pos cL1] at h
      obtain⟨iI,eL2,h⟩:=bsm h
      by_cases cL3:ltI iI.1 64=true
      · rw[if_pos cL3] at h
        by_cases cL4:eqI iI.2 0=true
        · rw[if_pos cL4] at h
          obtain rfl:=osi h
          show LT _ _ _ _ (.fin (.bool false) [])
          exact LT.done aK (hs:=⟨[],[],false,[],[]⟩) (es:=none) [.n x1.length,dt,.n x1.length,.row [(.int .u8 iI.1)],df,df,df,.n x1.length,df,df,.row [(.int .i64 iI.2)],df,df,dt,dt,dt,dt,dt,dt] [⟨rT⟩,⟨cL4⟩,⟨cL4⟩,⟨cL4⟩,⟨cL4⟩,⟨cL4⟩,⟨(nF cL3)⟩,⟨(nF cL3)⟩,⟨(aI (e:=aC) eL2 2 1 1 (by decide))⟩,⟨(nF cL3)⟩,⟨(nF cL3)⟩,⟨cL1⟩,⟨(aG aC x1)⟩,⟨(nF cL3)⟩,⟨(nF cL3)⟩,⟨(nF cL3)⟩,⟨(aI (e:=aC) eL2 2 0 1 (by decide))⟩,⟨cL1⟩,⟨(aG aC x1)⟩,⟨cL0⟩,⟨(aG aC x1)⟩] (by kernel_rfl) (fun s h=>by cases h)
        rw[if_neg cL4] at h;replace cL4:=eqf cL4
        by_cases cL5:ltI 0 b9=true
        · rw[if_pos cL5] at h
          by_cases cL6:inI (pN .i64 b9 1) x1.length=true
          · rw[if_pos cL6] at h
            obtain⟨yE,eL7,h⟩:=bsm h
            by_cases cL8:ltI yE.1 iI.1=true
            · rw[if_pos cL8] at h
              exact LT.next aK (hs:=⟨[(0,[]),(3,[])],[],false,[],[]⟩) (es:=none) [.n x1.length,dt,.n x1.length,.row [(.int .u8 iI.1)],df,df,df,.n x1.length,df,df,.row [(.int .i64 iI.2)],df,df,df,df,df,dt,dt,dt,dt,.n x1.length,dt,dt,.row [(.int .u8 yE.1)],dt,dt,dt,.n x1.length,dt,dt,.row [(.int .u8 iI.1)],dt,df,dt,df,df] [⟨(nF cL8)⟩,⟨cL4⟩,⟨cL5⟩,⟨cL4⟩,⟨cL5⟩,⟨(aI (e:=aC) eL2 2 0 1 (by decide))⟩,⟨cL5⟩,⟨cL5⟩,⟨cL1⟩,⟨(aG aC x1)⟩,⟨cL5⟩,⟨cL5⟩,⟨cL5⟩,⟨(aI (e:=aC) eL7 2 0 1 (by decide))⟩,⟨cL5⟩,⟨cL5⟩,⟨cL6⟩,⟨(aG aC x1)⟩,⟨cL5⟩,⟨cL5⟩,⟨cL5⟩,⟨cL5⟩,⟨cL4⟩,⟨cL4⟩,⟨cL4⟩,⟨(nF cL3)⟩,⟨(nF cL3)⟩,⟨(aI (e:=aC) eL2 2 1 1 (by decide))⟩,⟨(nF cL3)⟩,⟨(nF cL3)⟩,⟨cL1⟩,⟨(aG aC x1)⟩,⟨(nF cL3)⟩,⟨(nF cL3)⟩,⟨(nF cL3)⟩,⟨(aI (e:=aC) eL2 2 0 1 (by decide))⟩,⟨cL1⟩,⟨(aG aC x1)⟩,⟨cL0⟩,⟨(aG aC x1)⟩] (by kernel_rfl) (pH x1 y k (aO .i64 b9 1) h)
            rw[if_neg cL8] at h;replace cL8:=eqf cL8
            obtain rfl:=osi h
            show LT _ _ _ _ (.fin (.bool false) [])
            exact LT.done aK (hs:=⟨[],[],false,[],[]⟩) (es:=none) [.n x1.length,dt,.n x1.length,.row [(.int .u8 iI.1)],df,df,df,.n x1.length,df,df,.row [(.int .i64 iI.2)],df,df,df,df,df,dt,dt,dt,dt,.n x1.length,dt,dt,.row [(.int .u8 yE.1)],dt,dt,dt,.n x1.length,dt,dt,.row [(.int .u8 iI.1)],dt,df,dt,df,dt] [⟨(nT cL8)⟩,⟨cL4⟩,⟨cL5⟩,⟨cL4⟩,⟨cL5⟩,⟨(aI (e:=aC) eL2 2 0 1 (by decide))⟩,⟨cL5⟩,⟨cL5⟩,⟨cL1⟩,⟨(aG aC x1)⟩,⟨cL5⟩,⟨cL5⟩,⟨cL5⟩,⟨(aI (e:=aC) eL7 2 0 1 (by decide))⟩,⟨cL5⟩,⟨cL5⟩,⟨cL6⟩,⟨(aG aC x1)⟩,⟨cL5⟩,⟨cL5⟩,⟨cL5⟩,⟨cL5⟩,⟨cL4⟩,⟨cL4⟩,⟨cL4⟩,⟨(nF cL3)⟩,⟨(nF cL3)⟩,⟨(aI (e:=aC) eL2 2 1 1 (by decide))⟩,⟨(nF cL3)⟩,⟨(nF cL3)⟩,⟨cL1⟩,⟨(aG aC x1)⟩,⟨(nF cL3)⟩,⟨(nF cL3)⟩,⟨(nF cL3)⟩,⟨(aI (e:=aC) eL2 2 0 1 (by decide))⟩,⟨cL1⟩,⟨(aG aC x1)⟩,⟨cL0⟩,⟨(aG aC x1)⟩] (by kernel_rfl) (fun s h=>by cases h)
          rw[if_neg cL6] at h;replace cL6:=eqf cL6
          cases h
        rw[if_neg cL5] at h;replace cL5:=eqf cL5
        exact LT.next aK (hs:=⟨[(0,[]),(3,[])],[],false,[],[]⟩) (es:=none) [.n x1.length,dt,.n x1.length,.row [(.int .u8 iI.1)],df,df,df,.n x1.length,df,df,.row [(.int .i64 iI.2)],df,df,df,df,df,df,df,df,df,df,df,df,df,df,df,df,df,df,df,df,df] [⟨rF⟩,⟨cL4⟩,⟨cL5⟩,⟨cL4⟩,⟨cL5⟩,⟨cL5⟩,⟨cL5⟩,⟨cL5⟩,⟨cL5⟩,⟨cL5⟩,⟨cL5⟩,⟨cL5⟩,⟨cL5⟩,⟨cL5⟩,⟨cL5⟩,⟨cL5⟩,⟨cL4⟩,⟨cL4⟩,⟨cL4⟩,⟨(nF cL3)⟩,⟨(nF cL3)⟩,⟨(aI (e:=aC) eL2 2 1 1 (by decide))⟩,⟨(nF cL3)⟩,⟨(nF cL3)⟩,⟨cL1⟩,⟨(aG aC x1)⟩,⟨(nF cL3)⟩,⟨(nF cL3)⟩,⟨(nF cL3)⟩,⟨(aI (e:=aC) eL2 2 0 1 (by decide))⟩,⟨cL1⟩,⟨(aG aC x1)⟩,⟨cL0⟩,⟨(aG aC x1)⟩] (by kernel_rfl) (pH x1 y k (aO .i64 b9 1) h)
      rw[if_neg cL3] at h;replace cL3:=eqf cL3
      obtain rfl:=osi h
      show LT _ _ _ _ (.fin (.bool false) [])
      exact LT.done aK (hs:=⟨[],[],false,[],[]⟩) (es:=none) [.n x1.length,dt,.n x1.length,.row [(.int .u8 iI.1)],dt,dt,dt,dt,dt,dt,dt,dt,dt,dt,dt,dt,dt] [⟨rT⟩,⟨rT⟩,⟨rT⟩,⟨rT⟩,⟨rT⟩,⟨rT⟩,⟨(nT cL3)⟩,⟨(nT cL3)⟩,⟨(nT cL3)⟩,⟨(nT cL3)⟩,⟨(nT cL3)⟩,⟨(nT cL3)⟩,⟨(nT cL3)⟩,⟨(aI (e:=aC) eL2 2 0 1 (by decide))⟩,⟨cL1⟩,⟨(aG aC x1)⟩,⟨cL0⟩,⟨(aG aC x1)⟩] (by kernel_rfl) (fun s h=>by cases h)
    rw[if_neg cL1] at h;replace cL1:=eqf cL1
    cases h
  rw[if_neg cL0] at h;replace cL0:=eqf cL0
  obtain rfl:=osi h
  show LT _ _ _ _ (.st (.exit 0) (aNY))
  exact LT.done aK (hs:=⟨[],[],false,[],[]⟩) (es:=(some ⟨[],[],false,[],[]⟩)) [.n x1.length,df] [⟨cL0⟩,⟨(aG aC x1)⟩] (by kernel_rfl) (fun s h=>by cases h)
theorem xL (k:Nat) (x1:aL) (r:Bool) (h:sI k x1=some r):Tri Try.prog 94 [(.sl 2 (List.map aC x1))] [] (.bool r) []:=by
 unfold sI at h
 obtain⟨x2,e0,h⟩:=bsm h
 cases x2 with
 | inl x3 =>
  simp only[Sum.elim_inl] at h
  obtain rfl:=osi h
  exact Tri.of (x:=X94) aK aR8 [.norm 2 ⟨[(0,[]),(3,[])],[],false,[],[]⟩,.out (.st .normal (aNY))] [⟨(LT.block (pH x1 _ k 0 e0))⟩] (by kernel_rfl)
 | inr x3 =>
  simp only[Sum.elim_inr] at h
  obtain rfl:=osi h
  exact Tri.of (x:=X94) aK aR8 [.norm 2 ⟨[(0,[]),(3,[])],[],false,[],[]⟩,.out (.fin (.bool x3) [])] [⟨(LT.blockFin (id:=0) (pH x1 _ k 0 e0))⟩] (by kernel_rfl)
end Go.Ws

namespace Go.Ws
open Go.Proofs
set_option linter.unusedSimpArgs false
set_option linter.unusedVariables false
set_option maxRecDepth 1000000
set_option maxHeartbeats 4000000
noncomputable def X81:Ctx:=⟨Try.f81,[],true⟩
noncomputable def L81_0:Code:=at_ Try.f81 [1,1,0,1,4,5]
def S81_0 (x1:aL) (x2:aL) (eA:Int):St:=⟨mkT 33 [(0,(.sl 2 (List.map aC x1))),(1,(.sl 2 (List.map aC x2))),(6,(.int .i64 eA))],[]⟩
def aNR (x1:aL) (x2:aL):St:=⟨mkT 33 [(0,(.sl 2 (List.map aC x1))),(1,(.sl 2 (List.map aC x2)))],[]⟩
def O81_0 (x1:aL) (x2:aL) (y:(Sum (Unit) (aL × Int))):GX:=match y with
 | .inl y=>.st (.exit 0) (aNR x1 x2)
 | .inr y=>.fin (.tup [(.sl 2 (List.map aC y.1)),(.int .i64 y.2)]) []
theorem vZ (x1:aL) (x2:aL) (y:(Sum (Unit) (aL × Int))):∀(k:Nat) (eA:Int),iS k x1 x2 eA=some y→LT Try.prog X81 L81_0 (S81_0 x1 x2 eA) (O81_0 x1 x2 y)
 | 0,eA,h=>by cases h
 | k+1,eA,h=>by
  rw[iS] at h
  by_cases cL0:ltI eA (nI x2.length)=true
  · rw[if_pos cL0] at h
    by_cases cL1:inI eA x2.length=true
    · rw[if_pos cL1] at h
      obtain⟨yF,eL2,h⟩:=bsm h
      by_cases cL3:ltI yF.1 64=true
      · rw[if_pos cL3] at h
        exact LT.next aK (hs:=⟨[(0,[]),(1,[]),(6,[])],[],false,[],[]⟩) (es:=none) [.n x2.length,dt,.n x2.length,.row [(.int .u8 yF.1)],df] [⟨(nF cL3)⟩,⟨(aI (e:=aC) eL2 2 0 1 (by decide))⟩,⟨cL1⟩,⟨(aG aC x2)⟩,⟨cL0⟩,⟨(aG aC x2)⟩] (by kernel_rfl) (vZ x1 x2 y k (aO .i64 eA 1) h)
      rw[if_neg cL3] at h;replace cL3:=eqf cL3
      obtain rfl:=osi h
      show LT _ _ _ _ (.fin (.tup [(.sl 2 (List.map aC ((x1,2).1))),(.int .i64 ((x1,2).2))]) [])
      exact LT.done aK (hs:=⟨[],[],false,[],[]⟩) (es:=none) [.n x2.length,dt,.n x2.length,.row [(.int .u8 yF.1)],dt] [⟨(nT cL3)⟩,⟨(aI (e:=aC) eL2 2 0 1 (by decide))⟩,⟨cL1⟩,⟨(aG aC x2)⟩,⟨cL0⟩,⟨(aG aC x2)⟩] (by kernel_rfl) (fun s h=>by cases h)
    rw[if_neg cL1] at h;replace cL1:=eqf cL1
    cases h
  rw[if_neg cL0] at h;replace cL0:=eqf cL0
  obtain rfl:=osi h
  show LT _ _ _ _ (.st (.exit 0) (aNR x1 x2))
  exact LT.done aK (hs:=⟨[],[],false,[],[]⟩) (es:=(some ⟨[(0,[]),(1,[])],[],false,[],[]⟩)) [.n x2.length,df] [⟨cL0⟩,⟨(aG aC x2)⟩] (by kernel_rfl) (fun s h=>by cases h)
theorem aN8 (k:Nat) (x1:aL) (x2:aL) (r:aL × Int) (h:wT k x1 x2=some r):Tri Try.prog 81 [(.sl 2 (List.map aC x1)),(.sl 2 (List.map aC x2))] [] (.tup [(.sl 2 (List.map aC r.1)),(.int .i64 r.2)]) []:=by
 unfold wT at h
 obtain⟨x3,e0,h⟩:=bsm h
 by_cases c1:x3=true
 · rw[if_pos c1] at h
   obtain⟨x4,e2,h⟩:=bsm h
   cases x4 with
   | inl x5 =>
    simp only[Sum.elim_inl] at h
    by_cases c4:bB (x1.length*16)=true
    · rw[if_pos c4] at h
      by_cases c5:bB (((x1++x2).length)*16)=true
      · rw[if_pos c5] at h
        obtain⟨x6,e6,h⟩:=bsm h
        obtain rfl:=osi h
        exact Tri.of (x:=X81) aK aM1 [.call ⟨true,[]⟩ (.bool x3) [],df,.norm 2 ⟨[(0,[]),(1,[]),(6,[])],[],false,[],[]⟩,.out (.st .normal (aNR x1 x2)),.n x1.length,.n ((x1++x2).length),.n x1.length,dt,.rows (List.map aC (x1++x2)),.call ⟨true,[]⟩ (.sl 2 (List.map aC x6)) [],.rows (List.map aC (x1++x2))] [⟨(aQB k (x1++x2) _ e6)⟩,⟨(aQ aC (l:=(x1++x2)) (n:=((x1++x2).length)) rfl)⟩,⟨(a9 aC (Nat.le_refl ((x1++x2).length)):0+(x1++x2).length≤(List.map aC (x1++x2)).length)⟩,⟨(f5 aC x1 x2)⟩,⟨(dZ x1.length)⟩,⟨(aG aC x1)⟩,⟨c5⟩,⟨(by simp only[wl,List.length_map,List.map_nil,List.map_cons]<;>omega:x1.length+(List.map aC x2).length=(x1++x2).length)⟩,⟨c4⟩,⟨(aG aC x1)⟩,⟨(LT.block (vZ x1 x2 _ k 0 e2))⟩,⟨(nF c1)⟩,⟨(xL k x1 _ e0)⟩] (by kernel_rfl)
      rw[if_neg c5] at h;replace c5:=eqf c5
      cases h
    rw[if_neg c4] at h;replace c4:=eqf c4
    cases h
   | inr x5 =>
    simp only[Sum.elim_inr] at h
    obtain rfl:=osi h
    exact Tri.of (x:=X81) aK aM1 [.call ⟨true,[]⟩ (.bool x3) [],df,.norm 2 ⟨[(0,[]),(1,[]),(6,[])],[],false,[],[]⟩,.out (.fin (.tup [(.sl 2 (List.map aC x5.1)),(.int .i64 x5.2)]) [])] [⟨(LT.blockFin (id:=0) (vZ x1 x2 _ k 0 e2))⟩,⟨(nF c1)⟩,⟨(xL k x1 _ e0)⟩] (by kernel_rfl)
 rw[if_neg c1] at h;replace c1:=eqf c1
 obtain rfl:=osi h
 exact Tri.of (x:=X81) aK aM1 [.call ⟨true,[]⟩ (.bool x3) [],dt] [⟨(nT c1)⟩,⟨(xL k x1 _ e0)⟩] (by kernel_rfl)
end Go.Ws

namespace Go.Ws
open Go.Proofs
set_option linter.unusedSimpArgs false
set_option linter.unusedVariables false
set_option maxRecDepth 1000000
set_option maxHeartbeats 4000000
noncomputable def X82:Ctx:=⟨Try.f82,[],true⟩
noncomputable def L82_0:Code:=at_ Try.f82 [1,1,0,1,4,5]
def S82_0 (x1:aN) (x2:Int) (dM:Int) (bF:aN):St:=⟨mkT 28 [(0,(.sl 3 (List.map aA x1))),(1,(.int .i64 x2)),(5,(.ref 3 0 0 0 bF.length .virt)),(6,(.int .i64 dM))],[(.arr 3 (List.map aA bF) 0 0 false)]⟩
def aMM (aQN:aN):St:=⟨mkT 28 [(5,(.ref 3 0 0 0 aQN.length .virt))],[(.arr 3 (List.map aA aQN) 0 0 false)]⟩
def O82_0 (x1:aN) (x2:Int) (y:(aN)):GX:=.st (.exit 0) (aMM y)
theorem uY (x1:aN) (x2:Int) (y:(aN)):∀(k:Nat) (dM:Int) (bF:aN),gK k x1 x2 dM bF=some y→LT Try.prog X82 L82_0 (S82_0 x1 x2 dM bF) (O82_0 x1 x2 y)
 | 0,dM,bF,h=>by cases h
 | k+1,dM,bF,h=>by
  rw[gK] at h
  by_cases cL0:ltI dM (nI x1.length)=true
  · rw[if_pos cL0] at h
    by_cases cL1:inI dM x1.length=true
    · rw[if_pos cL1] at h
      obtain⟨eM,eL2,h⟩:=bsm h
      by_cases cL3:eqI eM.2.1 x2=true
      · rw[if_pos cL3] at h
        exact LT.next aK (hs:=⟨[(0,[]),(1,[]),(5,[]),(6,[])],[⟨.tmp 5,[],some 3⟩],false,[],[]⟩) (es:=none) [.n x1.length,dt,.n x1.length,.row [(.int .i64 eM.2.1)],df,.n bF.length,.rows (List.map aA bF)] [⟨(bL aA (l:=bF) (n:=bF.length) rfl)⟩,⟨(rfl:bF.length=bF.length)⟩,⟨(zle bF.length)⟩,⟨(nF cL3)⟩,⟨(aI (e:=aA) eL2 3 1 1 (by decide))⟩,⟨cL1⟩,⟨(aG aA x1)⟩,⟨cL0⟩,⟨(aG aA x1)⟩] (by kernel_rfl) (uY x1 x2 y k (aO .i64 dM 1) bF h)
      rw[if_neg cL3] at h;replace cL3:=eqf cL3
      by_cases cL4:bB (((bF++[eM]).length)*24)=true
      · rw[if_pos cL4] at h
        exact LT.next aK (hs:=⟨[(0,[]),(1,[]),(5,[]),(6,[])],[⟨.tmp 5,[],some 3⟩],false,[],[]⟩) (es:=none) [.n x1.length,dt,.n x1.length,.row [(.int .i64 eM.2.1)],dt,.n x1.length,.row [(.int .u8 eM.1),(.int .i64 eM.2.1),(.bool eM.2.2)],.rows (List.map aA [eM]),.n ((bF++[eM]).length),.n bF.length,dt,.rows (List.map aA (bF++[eM])),.n ((bF++[eM]).length),.rows (List.map aA (bF++[eM]))] [⟨(bL aA (l:=(bF++[eM])) (n:=((bF++[eM]).length)) rfl)⟩,⟨(rfl:(bF++[eM]).length=(bF++[eM]).length)⟩,⟨(zle ((bF++[eM]).length))⟩,⟨(f5 aA bF [eM])⟩,⟨(dZ bF.length)⟩,⟨(aG aA bF)⟩,⟨cL4⟩,⟨(by simp only[wl,List.length_map,List.map_nil,List.map_cons]<;>omega:bF.length+(List.map aA [eM]).length=(bF++[eM]).length)⟩,⟨(aQ aA (l:=[eM]) (n:=1) rfl)⟩,⟨(a9 aA (Nat.le_refl 1):0+1≤(List.map aA [eM]).length)⟩,⟨(aI (e:=aA) eL2 3 0 3 (by decide))⟩,⟨cL1⟩,⟨(aG aA x1)⟩,⟨(nT cL3)⟩,⟨(aI (e:=aA) eL2 3 1 1 (by decide))⟩,⟨cL1⟩,⟨(aG aA x1)⟩,⟨cL0⟩,⟨(aG aA x1)⟩] (by kernel_rfl) (uY x1 x2 y k (aO .i64 dM 1) (bF++[eM]) h)
      rw[if_neg cL4] at h;replace cL4:=eqf cL4
      cases h
    rw[if_neg cL1] at h;replace cL1:=eqf cL1
    cases h
  rw[if_neg cL0] at h;replace cL0:=eqf cL0
  obtain rfl:=osi h
  show LT _ _ _ _ (.st (.exit 0) (aMM bF))
  exact LT.done aK (hs:=⟨[],[],false,[],[]⟩) (es:=(some ⟨[(5,[])],[⟨.tmp 5,[],none⟩],false,[],[]⟩)) [.n x1.length,df] [⟨cL0⟩,⟨(aG aA x1)⟩] (by kernel_rfl) (fun s h=>by cases h)
theorem aKR (k:Nat) (x1:aN) (x2:Int) (r:aN) (h:uO k x1 x2=some r):Tri Try.prog 82 [(.sl 3 (List.map aA x1)),(.int .i64 x2)] [] (.sl 3 (List.map aA r)) []:=by
 unfold uO at h
 obtain⟨x4,e0,h⟩:=bsm h
 obtain rfl:=osi h
 exact Tri.of (x:=X82) aK facts82 [.norm 2 ⟨[(0,[]),(1,[]),(5,[]),(6,[])],[⟨.tmp 5,[],some 3⟩],false,[],[]⟩,.n 0,.rows (List.map aA []),.out (.st .normal (aMM x4)),.rows (List.map aA x4)] [⟨(aQ aA (l:=x4) (n:=x4.length) rfl)⟩,⟨(a9 aA (Nat.le_refl x4.length):0+x4.length≤(List.map aA x4).length)⟩,⟨(LT.block (uY x1 x2 _ k 0 [] e0))⟩,⟨(bL aA (l:=[]) (n:=0) rfl)⟩,⟨(rfl:0=0)⟩,⟨(zle 0)⟩] (by kernel_rfl)
end Go.Ws

namespace Go.Ws
open Go.Proofs
set_option linter.unusedSimpArgs false
set_option linter.unusedVariables false
set_option maxRecDepth 1000000
set_option maxHeartbeats 4000000
noncomputable def X57:Ctx:=⟨Try.f57,[],true⟩
theorem oW (k:Nat) (x1:aL) (x2:aN) (x3:Ty7) (x4:aW) (x5:Int) (x6:aL) (r:aL × aN × Ty7 × aW) (h:j9 k x1 x2 x3 x4 x5 x6=some r):Tri Try.prog 57 [(.agg [(.sl 2 (List.map aC x1)),(.sl 3 (List.map aA x2)),(.sl 5 (List.map aE x3)),(.sl 4 (List.map aB x4))]),(.int .i64 x5),(.sl 2 (List.map aC x6))] [] (.agg [(.sl 2 (List.map aC r.1)),(.sl 3 (List.map aA r.2.1)),(.sl 5 (List.map aE r.2.2.1)),(.sl 4 (List.map aB r.2.2.2))]) []:=by
 unfold j9 at h
 obtain⟨x7,e0,h⟩:=bsm h
 obtain⟨x8,e1,h⟩:=bsm h
 obtain rfl:=osi h
 exact Tri.of (x:=X57) aK facts57 [.call ⟨true,[]⟩ (.tup [(.sl 2 (List.map aC x7.1)),(.int .i64 x7.2)]) [],.call ⟨true,[]⟩ (.sl 3 (List.map aA x8)) []] [⟨(aKR k x2 x5 _ e1)⟩,⟨(aN8 k x1 x6 _ e0)⟩] (by kernel_rfl)
end Go.Ws

namespace Go.Ws
open Go.Proofs
set_option linter.unusedSimpArgs false
set_option linter.unusedVariables false
set_option maxRecDepth 1000000
set_option maxHeartbeats 4000000
noncomputable def X40:Ctx:=⟨Try.f40,[],true⟩
def aBW (x10:Int × Int × aL × Bool × Int):Ans:=.row [(.int .i64 x10.2.1),(.sl 2 (List.map aC x10.2.2.1)),(.bool x10.2.2.2.1),(.int .i64 x10.2.2.2.2)]
def A40_1 (x11:Int × aL × Bool × Int × Int):Ans:=.call ⟨true,[]⟩ (.tup [(.agg [(.int .i64 x11.1),(.sl 2 (List.map aC x11.2.1)),(.bool x11.2.2.1),(.int .i64 x11.2.2.2.1)]),(.int .i64 x11.2.2.2.2)]) []
def aL0 (x12:aL × aN × Ty7 × aW):Ans:=.call ⟨true,[]⟩ (.agg [(.sl 2 (List.map aC x12.1)),(.sl 3 (List.map aA x12.2.1)),(.sl 5 (List.map aE x12.2.2.1)),(.sl 4 (List.map aB x12.2.2.2))]) []
def aHR (x11:Int × aL × Bool × Int × aL × Int):Ans:=.call ⟨true,[]⟩ (.tup [(.agg [(.int .i64 x11.1),(.sl 2 (List.map aC x11.2.1)),(.bool x11.2.2.1),(.int .i64 x11.2.2.2.1)]),(.sl 2 (List.map aC x11.2.2.2.2.1)),(.int .i64 x11.2.2.2.2.2)]) []
def A40_4 (x13:aL × aN × Ty7 × aW):Ans:=.call ⟨true,[]⟩ (.agg [(.sl 2 (List.map aC x13.1)),(.sl 3 (List.map aA x13.2.1)),(.sl 5 (List.map aE x13.2.2.1)),(.sl 4 (List.map aB x13.2.2.2))]) []
theorem aNK (k:Nat) (x1:aL) (x2:aN) (x3:Ty7) (x4:aW) (x5:Int) (x6:Int) (x7:Int) (x8:Int) (x9:Int) (r:aL × aN × Ty7 × aW × Int) (h:wQ k x1 x2 x3 x4 x5 x6 x7 x8 x9=some r):Tri Try.prog 40 [(.agg [(.sl 2 (List.map aC x1)),(.sl 3 (List.map aA x2)),(.sl 5 (List.map aE x3)),(.sl 4 (List.map aB x4))]),(.int .i64 x5),(.agg [(.int .i64 x6),(.int .i64 x7),(.int .u8 x8),(.int .i64 x9)])] [] (.tup [(.agg [(.sl 2 (List.map aC r.1)),(.sl 3 (List.map aA r.2.1)),(.sl 5 (List.map aE r.2.2.1)),(.sl 4 (List.map aB r.2.2.2.1))]),(.int .i64 r.2.2.2.2)]) []:=by
 unfold wQ at h
 by_cases c0:inI x5 x3.length=true
 · rw[if_pos c0] at h
   obtain⟨x10,e1,h⟩:=bsm h
   by_cases c2:eqI x6 4=true
   · rw[if_pos c2] at h
     obtain⟨x11,e3,h⟩:=bsm h
     by_cases c4:eqI x11.2.2.2.2 0=true
     · rw[if_pos c4] at h
       obtain⟨x12,e5,h⟩:=bsm h
       by_cases c6:eqI x9 0=true
       · rw[if_pos c6] at h
         obtain⟨x13,e7,h⟩:=bsm h
         obtain rfl:=osi h
         exact Tri.of (x:=X40) aK s7 [.n x3.length,(aBW x10),dt,(A40_1 x11),df,(aL0 x12),dt,.call ⟨true,[[],[],[(0,2)]]⟩ (.agg [(.sl 2 (List.map aC x13.1)),(.sl 3 (List.map aA x13.2.1)),(.sl 5 (List.map aE x13.2.2.1)),(.sl 4 (List.map aB x13.2.2.2))]) []] [⟨(oW k x12.1 x12.2.1 x12.2.2.1 x12.2.2.2 x7 [] _ e7)⟩,⟨c6⟩,⟨(m9 k x1 x2 x3 x4 x5 x11.1 x11.2.1 x11.2.2.1 x11.2.2.2.1 _ e5)⟩,⟨(nF c4)⟩,⟨(zB k x10.2.1 x10.2.2.1 x10.2.2.2.1 x10.2.2.2.2 (!eqI x9 0) _ e3)⟩,⟨c2⟩,⟨(aI (e:=aE) e1 5 1 4 (by decide))⟩,⟨c0⟩,⟨(aG aE x3)⟩] (by kernel_rfl)
       rw[if_neg c6] at h;replace c6:=eqf c6
       obtain rfl:=osi h
       exact Tri.of (x:=X40) aK s7 [.n x3.length,(aBW x10),dt,(A40_1 x11),df,(aL0 x12),df] [⟨c6⟩,⟨(m9 k x1 x2 x3 x4 x5 x11.1 x11.2.1 x11.2.2.1 x11.2.2.2.1 _ e5)⟩,⟨(nF c4)⟩,⟨(zB k x10.2.1 x10.2.2.1 x10.2.2.2.1 x10.2.2.2.2 (!eqI x9 0) _ e3)⟩,⟨c2⟩,⟨(aI (e:=aE) e1 5 1 4 (by decide))⟩,⟨c0⟩,⟨(aG aE x3)⟩] (by kernel_rfl)
     rw[if_neg c4] at h;replace c4:=eqf c4
     obtain rfl:=osi h
     exact Tri.of (x:=X40) aK s7 [.n x3.length,(aBW x10),dt,(A40_1 x11),dt] [⟨(nT c4)⟩,⟨(zB k x10.2.1 x10.2.2.1 x10.2.2.2.1 x10.2.2.2.2 (!eqI x9 0) _ e3)⟩,⟨c2⟩,⟨(aI (e:=aE) e1 5 1 4 (by decide))⟩,⟨c0⟩,⟨(aG aE x3)⟩] (by kernel_rfl)
   rw[if_neg c2] at h;replace c2:=eqf c2
   by_cases c3:eqI x6 5=true
   · rw[if_pos c3] at h
     obtain⟨x11,e4,h⟩:=bsm h
     by_cases c5:eqI x11.2.2.2.2.2 0=true
     · rw[if_pos c5] at h
       obtain⟨x12,e6,h⟩:=bsm h
       obtain⟨x13,e7,h⟩:=bsm h
       obtain rfl:=osi h
       exact Tri.of (x:=X40) aK s7 [.n x3.length,(aBW x10),df,dt,(aHR x11),df,(aL0 x12),(A40_4 x13)] [⟨(oW k x12.1 x12.2.1 x12.2.2.1 x12.2.2.2 x7 x11.2.2.2.2.1 _ e7)⟩,⟨(m9 k x1 x2 x3 x4 x5 x11.1 x11.2.1 x11.2.2.1 x11.2.2.2.1 _ e6)⟩,⟨(nF c5)⟩,⟨(aCN k x10.2.1 x10.2.2.1 x10.2.2.2.1 x10.2.2.2.2 _ e4)⟩,⟨c3⟩,⟨c2⟩,⟨(aI (e:=aE) e1 5 1 4 (by decide))⟩,⟨c0⟩,⟨(aG aE x3)⟩] (by kernel_rfl)
     rw[if_neg c5] at h;replace c5:=eqf c5
     obtain rfl:=osi h
     exact Tri.of (x:=X40) aK s7 [.n x3.length,(aBW x10),df,dt,(aHR x11),dt] [⟨(nT c5)⟩,⟨(aCN k x10.2.1 x10.2.2.1 x10.2.2.2.1 x10.2.2.2.2 _ e4)⟩,⟨c3⟩,⟨c2⟩,⟨(aI (e:=aE) e1 5 1 4 (by decide))⟩,⟨c0⟩,⟨(aG aE x3)⟩] (by kernel_rfl)
   rw[if_neg c3] at h;replace c3:=eqf c3
   by_cases c4:eqI x9 1=true
   · rw[if_pos c4] at h
     obtain⟨x11,e5,h⟩:=bsm h
     by_cases c6:eqI x11.2.2.2.2.2 0=true
     · rw[if_pos c6] at h
       obtain⟨x12,e7,h⟩:=bsm h
       obtain⟨x13,e8,h⟩:=bsm h
       obtain rfl:=osi h
       exact Tri.of (x:=X40) aK s7 [.n x3.length,(aBW x10),df,df,dt,dt,dt,dt,dt,(aHR x11),df,(aL0 x12),(A40_4 x13)] [⟨(oW k x12.1 x12.2.1 x12.2.2.1 x12.2.2.2 x7 x11.2.2.2.2.1 _ e8)⟩,⟨(m9 k x1 x2 x3 x4 x5 x11.1 x11.2.1 x11.2.2.1 x11.2.2.2.1 _ e7)⟩,⟨(nF c6)⟩,⟨(mI k x10.2.1 x10.2.2.1 x10.2.2.2.1 x10.2.2.2.2 x9 _ e5)⟩,⟨rT⟩,⟨c4⟩,⟨c4⟩,⟨c4⟩,⟨c4⟩,⟨c3⟩,⟨c2⟩,⟨(aI (e:=aE) e1 5 1 4 (by decide))⟩,⟨c0⟩,⟨(aG aE x3)⟩] (by kernel_rfl)
     rw[if_neg c6] at h;replace c6:=eqf c6
     obtain rfl:=osi h
     exact Tri.of (x:=X40) aK s7 [.n x3.length,(aBW x10),df,df,dt,dt,dt,dt,dt,(aHR x11),dt] [⟨(nT c6)⟩,⟨(mI k x10.2.1 x10.2.2.1 x10.2.2.2.1 x10.2.2.2.2 x9 _ e5)⟩,⟨rT⟩,⟨c4⟩,⟨c4⟩,⟨c4⟩,⟨c4⟩,⟨c3⟩,⟨c2⟩,⟨(aI (e:=aE) e1 5 1 4 (by decide))⟩,⟨c0⟩,⟨(aG aE x3)⟩] (by kernel_rfl)
   rw[if_neg c4] at h;replace c4:=eqf c4
   by_cases c5:eqI x9 2=true
   · rw[if_pos c5] at h
     obtain⟨x11,e6,h⟩:=bsm h
     by_cases c7:eqI x11.2.2.2.2.2 0=true
     · rw[if_pos c7] at h
       obtain⟨x12,e8,h⟩:=bsm h
       obtain⟨x13,e9,h⟩:=bsm h
       obtain rfl:=osi h
       exact Tri.of (x:=X40) aK s7 [.n x3.length,(aBW x10),df,df,df,df,df,df,dt,(aHR x11),df,(aL0 x12),(A40_4 x13)] [⟨(oW k x12.1 x12.2.1 x12.2.2.1 x12.2.2.2 x7 x11.2.2.2.2.1 _ e9)⟩,⟨(m9 k x1 x2 x3 x4 x5 x11.1 x11.2.1 x11.2.2.1 x11.2.2.2.1 _ e8)⟩,⟨(nF c7)⟩,⟨(mI k x10.2.1 x10.2.2.1 x10.2.2.2.1 x10.2.2.2.2 x9 _ e6)⟩,⟨c5⟩,⟨c4⟩,⟨c4⟩,⟨c4⟩,⟨c4⟩,⟨c3⟩,⟨c2⟩,⟨(aI (e:=aE) e1 5 1 4 (by decide))⟩,⟨c0⟩,⟨(aG aE x3)⟩] (by kernel_rfl)
     rw[if_neg c7] at h;replace c7:=eqf c7
     obtain rfl:=osi h
     exact Tri.of (x:=X40) aK s7 [.n x3.length,(aBW x10),df,df,df,df,df,df,dt,(aHR x11),dt] [⟨(nT c7)⟩,⟨(mI k x10.2.1 x10.2.2.1 x10.2.2.2.1 x10.2.2.2.2 x9 _ e6)⟩,⟨c5⟩,⟨c4⟩,⟨c4⟩,⟨c4⟩,⟨c4⟩,⟨c3⟩,⟨c2⟩,⟨(aI (e:=aE) e1 5 1 4 (by decide))⟩,⟨c0⟩,⟨(aG aE x3)⟩] (by kernel_rfl)
   rw[if_neg c5] at h;replace c5:=eqf c5
   obtain⟨x11,e6,h⟩:=bsm h
   by_cases c7:eqI x11.2.2.2.2.2 0=true
   · rw[if_pos c7] at h
     obtain⟨x12,e8,h⟩:=bsm h
     obtain⟨x13,e9,h⟩:=bsm h
     obtain rfl:=osi h
     exact Tri.of (x:=X40) aK s7 [.n x3.length,(aBW x10),df,df,df,df,df,df,df,(aHR x11),df,(aL0 x12),(A40_4 x13)] [⟨(oW k x12.1 x12.2.1 x12.2.2.1 x12.2.2.2 x7 x11.2.2.2.2.1 _ e9)⟩,⟨(m9 k x1 x2 x3 x4 x5 x11.1 x11.2.1 x11.2.2.1 x11.2.2.2.1 _ e8)⟩,⟨(nF c7)⟩,⟨(mI k x10.2.1 x10.2.2.1 x10.2.2.2.1 x10.2.2.2.2 0 _ e6)⟩,⟨c5⟩,⟨c4⟩,⟨c4⟩,⟨c4⟩,⟨c4⟩,⟨c3⟩,⟨c2⟩,⟨(aI (e:=aE) e1 5 1 4 (by decide))⟩,⟨c0⟩,⟨(aG aE x3)⟩] (by kernel_rfl)
   rw[if_neg c7] at h;replace c7:=eqf c7
   obtain rfl:=osi h
   exact Tri.of (x:=X40) aK s7 [.n x3.length,(aBW x10),df,df,df,df,df,df,df,(aHR x11),dt] [⟨(nT c7)⟩,⟨(mI k x10.2.1 x10.2.2.1 x10.2.2.2.1 x10.2.2.2.2 0 _ e6)⟩,⟨c5⟩,⟨c4⟩,⟨c4⟩,⟨c4⟩,⟨c4⟩,⟨c3⟩,⟨c2⟩,⟨(aI (e:=aE) e1 5 1 4 (by decide))⟩,⟨c0⟩,⟨(aG aE x3)⟩] (by kernel_rfl)
 rw[if_neg c0] at h;replace c0:=eqf c0
 cases h
end Go.Ws

namespace Go.Ws
open Go.Proofs
set_option linter.unusedSimpArgs false
set_option linter.unusedVariables false
set_option maxRecDepth 1000000
set_option maxHeartbeats 4000000
noncomputable def X39:Ctx:=⟨Try.f39,[],true⟩
noncomputable def L39_0:Code:=at_ Try.f39 [1,1,1,1,1,1,1,1,1,0,1,4,5]
def S39_0 (x1:aL) (x3:Ty7) (x4:aW) (x6:Int) (x7:Int) (x8:Int) (x9:Int) (x10:Int × Int × aL × Bool × Int) (x11:aN × Int) (eQ:Int) (dN:Int):St:=⟨mkT 99 [(5,(.hp 0 0)),(6,(.hp 1 0)),(9,(.hp 2 0)),(12,(.hp 3 0)),(15,(.int .i64 eQ)),(16,(.int .i64 dN))],[(.row [(.int .i64 x6),(.int .i64 x7),(.int .u8 x8),(.int .i64 x9)]),(.row [.nils,.nils,.nils,.nils]),(.row [(.int .i64 x10.2.1),(.sl 2 (List.map aC x10.2.2.1)),(.bool x10.2.2.2.1),(.int .i64 x10.2.2.2.2)]),(.row [(.sl 2 (List.map aC x1)),(.sl 3 (List.map aA x11.1)),(.sl 5 (List.map aE x3)),(.sl 4 (List.map aB x4))])]⟩
def aOD (x1:aL) (x3:Ty7) (x4:aW) (x11:aN × Int) (v39002_1:Int):St:=⟨mkT 99 [(6,(.hp 0 0)),(12,(.hp 1 0)),(15,(.int .i64 v39002_1))],[(.row [.nils,.nils,.nils,.nils]),(.row [(.sl 2 (List.map aC x1)),(.sl 3 (List.map aA x11.1)),(.sl 5 (List.map aE x3)),(.sl 4 (List.map aB x4))])]⟩
def O39_0 (x1:aL) (x3:Ty7) (x4:aW) (x6:Int) (x7:Int) (x8:Int) (x9:Int) (x10:Int × Int × aL × Bool × Int) (x11:aN × Int) (y:(Int)):GX:=.st (.exit 0) (aOD x1 x3 x4 x11 y)
def aPE (x10:Int × Int × aL × Bool × Int):Ans:=.row [(.int .i64 x10.2.1),(.sl 2 (List.map aC x10.2.2.1)),(.bool x10.2.2.2.1),(.int .i64 x10.2.2.2.2)]
def A39_1 (x11:aN × Int):Ans:=.call ⟨true,[]⟩ (.tup [(.sl 3 (List.map aA x11.1)),(.int .i64 x11.2)]) []
def A39_2 (x12:Int × aL × Bool × Int × Int):Ans:=.call ⟨true,[]⟩ (.tup [(.agg [(.int .i64 x12.1),(.sl 2 (List.map aC x12.2.1)),(.bool x12.2.2.1),(.int .i64 x12.2.2.2.1)]),(.int .i64 x12.2.2.2.2)]) []
theorem sD (x1:aL) (x3:Ty7) (x4:aW) (x6:Int) (x7:Int) (x8:Int) (x9:Int) (x10:Int × Int × aL × Bool × Int) (x11:aN × Int) (y:(Int)):∀(k:Nat) (eQ:Int) (dN:Int),eT k x1 x3 x4 x6 x7 x8 x9 x10 x11 eQ dN=some y→LT Try.prog X39 L39_0 (S39_0 x1 x3 x4 x6 x7 x8 x9 x10 x11 eQ dN) (O39_0 x1 x3 x4 x6 x7 x8 x9 x10 x11 y)
 | 0,eQ,dN,h=>by cases h
 | k+1,eQ,dN,h=>by
  rw[eT] at h
  by_cases cL0:ltI dN (nI x10.2.2.1.length)=true
  · rw[if_pos cL0] at h
    by_cases cL1:inI dN x10.2.2.1.length=true
    · rw[if_pos cL1] at h
      obtain⟨qH,eL2,h⟩:=bsm h
      by_cases cL3:eqI qH.1 x8=true
      · rw[if_pos cL3] at h
        exact LT.next aK (hs:=⟨[(5,[]),(6,[]),(9,[]),(12,[]),(15,[]),(16,[])],[⟨.tmp 5,[],none⟩,⟨.tmp 6,[],none⟩,⟨.tmp 9,[],none⟩,⟨.tmp 12,[],none⟩],false,[],[]⟩) (es:=none) [.n x10.2.2.1.length,dt,.n x10.2.2.1.length,.row [(.int .u8 qH.1)],dt,.n x10.2.2.1.length,.row [(.int .i64 qH.2)]] [⟨(aI (e:=aC) eL2 2 1 1 (by decide))⟩,⟨cL1⟩,⟨(aG aC x10.2.2.1)⟩,⟨cL3⟩,⟨(aI (e:=aC) eL2 2 0 1 (by decide))⟩,⟨cL1⟩,⟨(aG aC x10.2.2.1)⟩,⟨cL0⟩,⟨(aG aC x10.2.2.1)⟩] (by kernel_rfl) (sD x1 x3 x4 x6 x7 x8 x9 x10 x11 y k (aO .i64 eQ qH.2) (aO .i64 dN 1) h)
      rw[if_neg cL3] at h;replace cL3:=eqf cL3
      exact LT.next aK (hs:=⟨[(5,[]),(6,[]),(9,[]),(12,[]),(15,[]),(16,[])],[⟨.tmp 5,[],none⟩,⟨.tmp 6,[],none⟩,⟨.tmp 9,[],none⟩,⟨.tmp 12,[],none⟩],false,[],[]⟩) (es:=none) [.n x10.2.2.1.length,dt,.n x10.2.2.1.length,.row [(.int .u8 qH.1)],df] [⟨cL3⟩,⟨(aI (e:=aC) eL2 2 0 1 (by decide))⟩,⟨cL1⟩,⟨(aG aC x10.2.2.1)⟩,⟨cL0⟩,⟨(aG aC x10.2.2.1)⟩] (by kernel_rfl) (sD x1 x3 x4 x6 x7 x8 x9 x10 x11 y k eQ (aO .i64 dN 1) h)
    rw[if_neg cL1] at h;replace cL1:=eqf cL1
    cases h
  rw[if_neg cL0] at h;replace cL0:=eqf cL0
  obtain rfl:=osi h
  show LT _ _ _ _ (.st (.exit 0) (aOD x1 x3 x4 x11 eQ))
  exact LT.done aK (hs:=⟨[],[],false,[],[]⟩) (es:=(some ⟨[(6,[]),(12,[]),(15,[])],[⟨.tmp 6,[],none⟩,⟨.tmp 12,[],none⟩],false,[],[]⟩)) [.n x10.2.2.1.length,df] [⟨cL0⟩,⟨(aG aC x10.2.2.1)⟩] (by kernel_rfl) (fun s h=>by cases h)
theorem aHZ (k:Nat) (x1:aL) (x2:aN) (x3:Ty7) (x4:aW) (x5:Int) (x6:Int) (x7:Int) (x8:Int) (x9:Int) (r:aL × aN × Ty7 × aW × Int × Int) (h:qV k x1 x2 x3 x4 x5 x6 x7 x8 x9=some r):Tri Try.prog 39 [(.agg [(.sl 2 (List.map aC x1)),(.sl 3 (List.map aA x2)),(.sl 5 (List.map aE x3)),(.sl 4 (List.map aB x4))]),(.int .i64 x5),(.agg [(.int .i64 x6),(.int .i64 x7),(.int .u8 x8),(.int .i64 x9)])] [] (.tup [(.agg [(.sl 2 (List.map aC r.1)),(.sl 3 (List.map aA r.2.1)),(.sl 5 (List.map aE r.2.2.1)),(.sl 4 (List.map aB r.2.2.2.1))]),(.int .i64 r.2.2.2.2.1),(.int .i64 r.2.2.2.2.2)]) []:=by
 unfold qV at h
 by_cases c0:inI x5 x3.length=true
 · rw[if_pos c0] at h
   obtain⟨x10,e1,h⟩:=bsm h
   by_cases c2:eqI x10.2.1 0=true
   · rw[if_pos c2] at h
     obtain⟨x11,e3,h⟩:=bsm h
     by_cases c4:eqI x11.2 0=true
     · rw[if_pos c4] at h
       by_cases c5:eqI x6 3=true
       · rw[if_pos c5] at h
         obtain⟨x12,e6,h⟩:=bsm h
         by_cases c7:eqI x12.2.2.2.2 0=true
         · rw[if_pos c7] at h
           obtain⟨x13,e8,h⟩:=bsm h
           obtain rfl:=osi h
           exact Tri.of (x:=X39) aK aE3 [.n x3.length,(aPE x10),df,(A39_1 x11),df,dt,(A39_2 x12),df,.call ⟨true,[]⟩ (.agg [(.sl 2 (List.map aC x13.1)),(.sl 3 (List.map aA x13.2.1)),(.sl 5 (List.map aE x13.2.2.1)),(.sl 4 (List.map aB x13.2.2.2))]) []] [⟨(m9 k x1 x11.1 x3 x4 x5 x12.1 x12.2.1 x12.2.2.1 x12.2.2.2.1 _ e8)⟩,⟨(nF c7)⟩,⟨(aE7 k x10.2.1 x10.2.2.1 x10.2.2.2.1 x10.2.2.2.2 x8 x9 _ e6)⟩,⟨c5⟩,⟨(nF c4)⟩,⟨(vC k x2 x7 x8 (eqI x6 3) _ e3)⟩,⟨(nF c2)⟩,⟨(aI (e:=aE) e1 5 1 4 (by decide))⟩,⟨c0⟩,⟨(aG aE x3)⟩] (by kernel_rfl)
         rw[if_neg c7] at h;replace c7:=eqf c7
         obtain rfl:=osi h
         exact Tri.of (x:=X39) aK aE3 [.n x3.length,(aPE x10),df,(A39_1 x11),df,dt,(A39_2 x12),dt] [⟨(nT c7)⟩,⟨(aE7 k x10.2.1 x10.2.2.1 x10.2.2.2.1 x10.2.2.2.2 x8 x9 _ e6)⟩,⟨c5⟩,⟨(nF c4)⟩,⟨(vC k x2 x7 x8 (eqI x6 3) _ e3)⟩,⟨(nF c2)⟩,⟨(aI (e:=aE) e1 5 1 4 (by decide))⟩,⟨c0⟩,⟨(aG aE x3)⟩] (by kernel_rfl)
       rw[if_neg c5] at h;replace c5:=eqf c5
       obtain⟨x12,e6,h⟩:=bsm h
       obtain⟨x14,e7,h⟩:=bsm h
       obtain rfl:=osi h
       exact Tri.of (x:=X39) aK aE3 [.n x3.length,(aPE x10),df,(A39_1 x11),df,df,.call ⟨true,[]⟩ (.int .i64 x12) [],.norm 2 ⟨[(5,[]),(6,[]),(9,[]),(12,[]),(15,[]),(16,[])],[⟨.tmp 5,[],none⟩,⟨.tmp 6,[],none⟩,⟨.tmp 9,[],none⟩,⟨.tmp 12,[],none⟩],false,[],[]⟩,.out (.st .normal (aOD x1 x3 x4 x11 x14))] [⟨(LT.block (sD x1 x3 x4 x6 x7 x8 x9 x10 x11 _ k x12 0 e7))⟩,⟨(aA6 k x1 x8 _ e6)⟩,⟨c5⟩,⟨(nF c4)⟩,⟨(vC k x2 x7 x8 (eqI x6 3) _ e3)⟩,⟨(nF c2)⟩,⟨(aI (e:=aE) e1 5 1 4 (by decide))⟩,⟨c0⟩,⟨(aG aE x3)⟩] (by kernel_rfl)
     rw[if_neg c4] at h;replace c4:=eqf c4
     obtain rfl:=osi h
     exact Tri.of (x:=X39) aK aE3 [.n x3.length,(aPE x10),df,(A39_1 x11),dt] [⟨(nT c4)⟩,⟨(vC k x2 x7 x8 (eqI x6 3) _ e3)⟩,⟨(nF c2)⟩,⟨(aI (e:=aE) e1 5 1 4 (by decide))⟩,⟨c0⟩,⟨(aG aE x3)⟩] (by kernel_rfl)
   rw[if_neg c2] at h;replace c2:=eqf c2
   obtain rfl:=osi h
   exact Tri.of (x:=X39) aK aE3 [.n x3.length,(aPE x10),dt] [⟨(nT c2)⟩,⟨(aI (e:=aE) e1 5 1 4 (by decide))⟩,⟨c0⟩,⟨(aG aE x3)⟩] (by kernel_rfl)
 rw[if_neg c0] at h;replace c0:=eqf c0
 cases h
end Go.Ws

namespace Go.Ws
open Go.Proofs
set_option linter.unusedSimpArgs false
set_option linter.unusedVariables false
set_option maxRecDepth 1000000
set_option maxHeartbeats 4000000
noncomputable def X28:Ctx:=⟨Try.f28,[],true⟩
theorem aDM (k:Nat) (x1:aL) (x2:aN) (x3:Ty7) (x4:aW) (x5:Int) (x6:Int) (x7:Int) (x8:Int) (r:aL × aN × Ty7 × aW × Int × Int) (h:uG k x1 x2 x3 x4 x5 x6 x7 x8=some r):Tri Try.prog 28 [(.agg [(.sl 2 (List.map aC x1)),(.sl 3 (List.map aA x2)),(.sl 5 (List.map aE x3)),(.sl 4 (List.map aB x4))]),(.agg [(.int .i64 x5),(.int .i64 x6),(.int .u8 x7),(.int .i64 x8)])] [] (.tup [(.agg [(.sl 2 (List.map aC r.1)),(.sl 3 (List.map aA r.2.1)),(.sl 5 (List.map aE r.2.2.1)),(.sl 4 (List.map aB r.2.2.2.1))]),(.int .i64 r.2.2.2.2.1),(.int .i64 r.2.2.2.2.2)]) []:=by
 unfold uG at h
 by_cases c0:ltI x5 1=true
 · rw[if_pos c0] at h
   obtain rfl:=osi h
   exact Tri.of (x:=X28) aK wL [dt,dt,dt,dt,dt,dt,dt,dt,dt,dt,dt,dt,dt] [⟨rT⟩,⟨rT⟩,⟨rT⟩,⟨rT⟩,⟨rT⟩,⟨rT⟩,⟨rT⟩,⟨rT⟩,⟨rT⟩,⟨c0⟩,⟨c0⟩,⟨c0⟩,⟨c0⟩] (by kernel_rfl)
 rw[if_neg c0] at h;replace c0:=eqf c0
 by_cases c1:ltI 6 x5=true
 · rw[if_pos c1] at h
   obtain rfl:=osi h
   exact Tri.of (x:=X28) aK wL [df,df,df,df,dt,dt,dt,dt,dt,dt,dt,dt,dt] [⟨rT⟩,⟨rT⟩,⟨rT⟩,⟨rT⟩,⟨rT⟩,⟨c1⟩,⟨c1⟩,⟨c1⟩,⟨c1⟩,⟨c0⟩,⟨c0⟩,⟨c0⟩,⟨c0⟩] (by kernel_rfl)
 rw[if_neg c1] at h;replace c1:=eqf c1
 by_cases c2:ltI x6 0=true
 · rw[if_pos c2] at h
   obtain rfl:=osi h
   exact Tri.of (x:=X28) aK wL [df,df,df,df,df,df,df,df,dt,dt,dt,dt,dt] [⟨rT⟩,⟨c2⟩,⟨c2⟩,⟨c2⟩,⟨c2⟩,⟨c1⟩,⟨c1⟩,⟨c1⟩,⟨c1⟩,⟨c0⟩,⟨c0⟩,⟨c0⟩,⟨c0⟩] (by kernel_rfl)
 rw[if_neg c2] at h;replace c2:=eqf c2
 by_cases c3:ltI x6 1000=true
 · rw[if_pos c3] at h
   obtain⟨x9,e4,h⟩:=bsm h
   by_cases c5:eqI x5 1=true
   · rw[if_pos c5] at h
     by_cases c6:ltI x9 0=true
     · rw[if_pos c6] at h
       by_cases c7:bB (x3.length*56)=true
       · rw[if_pos c7] at h
         by_cases c8:bB (((x3++[(x6,0,[],false,0)]).length)*56)=true
         · rw[if_pos c8] at h
           obtain rfl:=osi h
           exact Tri.of (x:=X28) aK wL [df,df,df,df,df,df,df,df,df,df,df,df,df,.call ⟨true,[]⟩ (.int .i64 x9) [],dt,df,.n x3.length,.rows (List.map aE [(x6,0,[],false,0)]),.n ((x3++[(x6,0,[],false,0)]).length),.n x3.length,dt,.rows (List.map aE (x3++[(x6,0,[],false,0)])),.rows (List.map aE (x3++[(x6,0,[],false,0)]))] [⟨(aQ aE (l:=(x3++[(x6,0,[],false,0)])) (n:=((x3++[(x6,0,[],false,0)]).length)) rfl)⟩,⟨(a9 aE (Nat.le_refl ((x3++[(x6,0,[],false,0)]).length)):0+(x3++[(x6,0,[],false,0)]).length≤(List.map aE (x3++[(x6,0,[],false,0)])).length)⟩,⟨(f5 aE x3 [(x6,0,[],false,0)])⟩,⟨(dZ x3.length)⟩,⟨(aG aE x3)⟩,⟨c8⟩,⟨(by simp only[wl,List.length_map,List.map_nil,List.map_cons]<;>omega:x3.length+(List.map aE [(x6,0,[],false,0)]).length=(x3++[(x6,0,[],false,0)]).length)⟩,⟨(aQ aE (l:=[(x6,0,[],false,0)]) (n:=1) rfl)⟩,⟨(a9 aE (Nat.le_refl 1):0+1≤(List.map aE [(x6,0,[],false,0)]).length)⟩,⟨c7⟩,⟨(aG aE x3)⟩,⟨(nF c6)⟩,⟨c5⟩,⟨(rD k x1 x2 x3 x4 x6 _ e4)⟩,⟨(nF c3)⟩,⟨c2⟩,⟨c2⟩,⟨c2⟩,⟨c2⟩,⟨c1⟩,⟨c1⟩,⟨c1⟩,⟨c1⟩,⟨c0⟩,⟨c0⟩,⟨c0⟩,⟨c0⟩] (by kernel_rfl)
         rw[if_neg c8] at h;replace c8:=eqf c8
         cases h
       rw[if_neg c7] at h;replace c7:=eqf c7
       cases h
     rw[if_neg c6] at h;replace c6:=eqf c6
     obtain rfl:=osi h
     exact Tri.of (x:=X28) aK wL [df,df,df,df,df,df,df,df,df,df,df,df,df,.call ⟨true,[]⟩ (.int .i64 x9) [],dt,dt] [⟨(nT c6)⟩,⟨c5⟩,⟨(rD k x1 x2 x3 x4 x6 _ e4)⟩,⟨(nF c3)⟩,⟨c2⟩,⟨c2⟩,⟨c2⟩,⟨c2⟩,⟨c1⟩,⟨c1⟩,⟨c1⟩,⟨c1⟩,⟨c0⟩,⟨c0⟩,⟨c0⟩,⟨c0⟩] (by kernel_rfl)
   rw[if_neg c5] at h;replace c5:=eqf c5
   by_cases c6:ltI x9 0=true
   · rw[if_pos c6] at h
     obtain rfl:=osi h
     exact Tri.of (x:=X28) aK wL [df,df,df,df,df,df,df,df,df,df,df,df,df,.call ⟨true,[]⟩ (.int .i64 x9) [],df,dt] [⟨c6⟩,⟨c5⟩,⟨(rD k x1 x2 x3 x4 x6 _ e4)⟩,⟨(nF c3)⟩,⟨c2⟩,⟨c2⟩,⟨c2⟩,⟨c2⟩,⟨c1⟩,⟨c1⟩,⟨c1⟩,⟨c1⟩,⟨c0⟩,⟨c0⟩,⟨c0⟩,⟨c0⟩] (by kernel_rfl)
   rw[if_neg c6] at h;replace c6:=eqf c6
   by_cases c7:ltI 3 x5=true
   · rw[if_pos c7] at h
     obtain⟨x10,e8,h⟩:=bsm h
     obtain rfl:=osi h
     exact Tri.of (x:=X28) aK wL [df,df,df,df,df,df,df,df,df,df,df,df,df,.call ⟨true,[]⟩ (.int .i64 x9) [],df,df,df,.call ⟨true,[]⟩ (.tup [(.agg [(.sl 2 (List.map aC x10.1)),(.sl 3 (List.map aA x10.2.1)),(.sl 5 (List.map aE x10.2.2.1)),(.sl 4 (List.map aB x10.2.2.2.1))]),(.int .i64 x10.2.2.2.2)]) []] [⟨(aNK k x1 x2 x3 x4 x9 x5 x6 x7 x8 _ e8)⟩,⟨(nF c7)⟩,⟨c6⟩,⟨c5⟩,⟨(rD k x1 x2 x3 x4 x6 _ e4)⟩,⟨(nF c3)⟩,⟨c2⟩,⟨c2⟩,⟨c2⟩,⟨c2⟩,⟨c1⟩,⟨c1⟩,⟨c1⟩,⟨c1⟩,⟨c0⟩,⟨c0⟩,⟨c0⟩,⟨c0⟩] (by kernel_rfl)
   rw[if_neg c7] at h;replace c7:=eqf c7
   obtain⟨x10,e8,h⟩:=bsm h
   obtain rfl:=osi h
   exact Tri.of (x:=X28) aK wL [df,df,df,df,df,df,df,df,df,df,df,df,df,.call ⟨true,[]⟩ (.int .i64 x9) [],df,df,dt,.call ⟨true,[]⟩ (.tup [(.agg [(.sl 2 (List.map aC x10.1)),(.sl 3 (List.map aA x10.2.1)),(.sl 5 (List.map aE x10.2.2.1)),(.sl 4 (List.map aB x10.2.2.2.1))]),(.int .i64 x10.2.2.2.2.1),(.int .i64 x10.2.2.2.2.2)]) []] [⟨(aHZ k x1 x2 x3 x4 x9 x5 x6 x7 x8 _ e8)⟩,⟨(nT c7)⟩,⟨c6⟩,⟨c5⟩,⟨(rD k x1 x2 x3 x4 x6 _ e4)⟩,⟨(nF c3)⟩,⟨c2⟩,⟨c2⟩,⟨c2⟩,⟨c2⟩,⟨c1⟩,⟨c1⟩,⟨c1⟩,⟨c1⟩,⟨c0⟩,⟨c0⟩,⟨c0⟩,⟨c0⟩] (by kernel_rfl)
 rw[if_neg c3] at h;replace c3:=eqf c3
 obtain rfl:=osi h
 exact Tri.of (x:=X28) aK wL [df,df,df,df,df,df,df,df,df,df,df,df,dt] [⟨(nT c3)⟩,⟨c2⟩,⟨c2⟩,⟨c2⟩,⟨c2⟩,⟨c1⟩,⟨c1⟩,⟨c1⟩,⟨c1⟩,⟨c0⟩,⟨c0⟩,⟨c0⟩,⟨c0⟩] (by kernel_rfl)
end Go.Ws

namespace Go.Ws
open Go.Proofs
set_option linter.unusedSimpArgs false
set_option linter.unusedVariables false
set_option maxRecDepth 1000000
set_option maxHeartbeats 4000000
noncomputable def X15:Ctx:=⟨Try.f15,[],true⟩
def A15_0 (x9:aL × aN × Ty7 × aW × Int × Int):Ans:=.call ⟨true,[]⟩ (.tup [(.agg [(.sl 2 (List.map aC x9.1)),(.sl 3 (List.map aA x9.2.1)),(.sl 5 (List.map aE x9.2.2.1)),(.sl 4 (List.map aB x9.2.2.2.1))]),(.int .i64 x9.2.2.2.2.1),(.int .i64 x9.2.2.2.2.2)]) []
theorem aHN (k:Nat) (x1:aL) (x2:aN) (x3:Ty7) (x4:aW) (x5:Int) (x6:Int) (x7:Int) (x8:Int) (r:aL × aN × Ty7 × aW × Int × Int) (h:aAE k x1 x2 x3 x4 x5 x6 x7 x8=some r):Tri Try.prog 15 [(.agg [(.sl 2 (List.map aC x1)),(.sl 3 (List.map aA x2)),(.sl 5 (List.map aE x3)),(.sl 4 (List.map aB x4))]),(.agg [(.int .i64 x5),(.int .i64 x6),(.int .u8 x7),(.int .i64 x8)])] [] (.tup [(.agg [(.sl 2 (List.map aC r.1)),(.sl 3 (List.map aA r.2.1)),(.sl 5 (List.map aE r.2.2.1)),(.sl 4 (List.map aB r.2.2.2.1))]),(.int .i64 r.2.2.2.2.1),(.int .i64 r.2.2.2.2.2)]) []:=by
 unfold aAE at h
 obtain⟨x9,e0,h⟩:=bsm h
 by_cases c1:eqI x9.2.2.2.2.2 0=true
 · rw[if_pos c1] at h
   by_cases c2:bB (x4.length*32)=true
   · rw[if_pos c2] at h
     by_cases c3:bB (((x4++[(x5,x6,x7,x8)]).length)*32)=true
     · rw[if_pos c3] at h
       obtain rfl:=osi h
       exact Tri.of (x:=X15) aK aTA [(A15_0 x9),df,.n x4.length,.rows (List.map aB [(x5,x6,x7,x8)]),.n ((x4++[(x5,x6,x7,x8)]).length),.n x4.length,dt,.rows (List.map aB (x4++[(x5,x6,x7,x8)])),.rows (List.map aB (x4++[(x5,x6,x7,x8)]))] [⟨(aQ aB (l:=(x4++[(x5,x6,x7,x8)])) (n:=((x4++[(x5,x6,x7,x8)]).length)) rfl)⟩,⟨(a9 aB (Nat.le_refl ((x4++[(x5,x6,x7,x8)]).length)):0+(x4++[(x5,x6,x7,x8)]).length≤(List.map aB (x4++[(x5,x6,x7,x8)])).length)⟩,⟨(f5 aB x4 [(x5,x6,x7,x8)])⟩,⟨(dZ x4.length)⟩,⟨(aG aB x4)⟩,⟨c3⟩,⟨(by simp only[wl,List.length_map,List.map_nil,List.map_cons]<;>omega:x4.length+(List.map aB [(x5,x6,x7,x8)]).length=(x4++[(x5,x6,x7,x8)]).length)⟩,⟨(aQ aB (l:=[(x5,x6,x7,x8)]) (n:=1) rfl)⟩,⟨(a9 aB (Nat.le_refl 1):0+1≤(List.map aB [(x5,x6,x7,x8)]).length)⟩,⟨c2⟩,⟨(aG aB x4)⟩,⟨(nF c1)⟩,⟨(aDM k x1 x2 x3 x4 x5 x6 x7 x8 _ e0)⟩] (by kernel_rfl)
     rw[if_neg c3] at h;replace c3:=eqf c3
     cases h
   rw[if_neg c2] at h;replace c2:=eqf c2
   cases h
 rw[if_neg c1] at h;replace c1:=eqf c1
 obtain rfl:=osi h
 exact Tri.of (x:=X15) aK aTA [(A15_0 x9),dt] [⟨(nT c1)⟩,⟨(aDM k x1 x2 x3 x4 x5 x6 x7 x8 _ e0)⟩] (by kernel_rfl)
end Go.Ws

namespace Go.Ws
open Go.Proofs
set_option linter.unusedSimpArgs false
set_option linter.unusedVariables false
set_option maxRecDepth 1000000
set_option maxHeartbeats 4000000
noncomputable def X13:Ctx:=⟨Try.f13,[],false⟩
theorem qC:Tri Try.prog 13 [] [] (.hp 0 0) [(.row [.nils,.nils,(.mp 1),.nils]),(.map (bZ .i64 (fun y=>AV.agg (aD y)) ([]:Ty6)) ([]:Ty6).length)]:=by
 obtain⟨r,h⟩:∃r,aI0=r:=⟨_,rfl⟩
 try rw[h]
 unfold aI0 at h
 obtain rfl:=h
 exact Tri.of (x:=X13) aK facts13 [.norm 0 ⟨[(0,[])],[⟨.tmp 0,[],none⟩,⟨.cell 0 2,[],none⟩],false,[],[]⟩] [] (by kernel_rfl)
end Go.Ws

namespace Go.Ws
open Go.Proofs
set_option linter.unusedSimpArgs false
set_option linter.unusedVariables false
set_option maxRecDepth 1000000
set_option maxHeartbeats 4000000
noncomputable def X26_3 (x1:aL) (x2:aN) (x3:Ty6) (x4:aW):Ctx:=⟨Try.f26,[(.row [(.sl 2 (List.map aC x1)),(.sl 3 (List.map aA x2)),(.mp 1),(.ref 4 2 0 0 x4.length .virt)]),(.map (bZ .i64 (fun y=>AV.agg (aD y)) x3) x3.length),(.arr 4 (List.map aB x4) 0 0 true)],false⟩
theorem cF (x1:aL) (x2:aN) (x3:Ty6) (x4:aW):Tri Try.prog 26 [(.hp 0 0)] [(.row [(.sl 2 (List.map aC x1)),(.sl 3 (List.map aA x2)),(.mp 1),(.ref 4 2 0 0 x4.length .virt)]),(.map (bZ .i64 (fun y=>AV.agg (aD y)) x3) x3.length),(.arr 4 (List.map aB x4) 0 0 true)] (.bool (!false)) [(.row [(.sl 2 (List.map aC x1)),(.sl 3 (List.map aA x2)),(.mp 1),(.ref 4 2 0 0 x4.length .virt)]),(.map (bZ .i64 (fun y=>AV.agg (aD y)) x3) x3.length),(.arr 4 (List.map aB x4) 0 0 true)]:=by
 obtain⟨r,h⟩:∃r,uT x1 x2 x3 x4=r:=⟨_,rfl⟩
 try rw[h]
 unfold uT at h
 obtain rfl:=h
 exact Tri.of (x:=(X26_3 x1 x2 x3 x4)) aK aSM [dt,dt,dt,dt,dt,dt,.norm 0 ⟨[(2,[])],[],false,[],[]⟩] [⟨(nT rfl)⟩,⟨(nT rfl)⟩,⟨(nT rfl)⟩,⟨(nT rfl)⟩,⟨(nT rfl)⟩,⟨(nT rfl)⟩] (by kernel_rfl)
end Go.Ws

namespace Go.Ws
open Go.Proofs
set_option linter.unusedSimpArgs false
set_option linter.unusedVariables false
set_option maxRecDepth 1000000
set_option maxHeartbeats 4000000
noncomputable def aJW (x9:aL) (x10:aN) (x11:Ty6) (x12:aW):Ctx:=⟨Try.f37,[(.row [(.sl 2 (List.map aC x9)),(.sl 3 (List.map aA x10)),(.mp 1),(.ref 4 2 0 0 x12.length .virt)]),(.map (bZ .i64 (fun y=>AV.agg (aD y)) x11) x11.length),(.arr 4 (List.map aB x12) 0 0 true)],false⟩
noncomputable def L37_3_0:Code:=at_ Try.f37 [1,1,1,1,1,1,1,0,1,4,5]
def S37_3_0 (x2:aL) (x5:Int) (x6:Int) (x7:Int) (x8:Int) (x9:aL) (x11:Ty6) (x12:aW) (x13:aN × Int) (dE:Int) (cN:Int):St:=⟨mkT 92 [(5,(.hp 3 0)),(10,(.int .i64 dE)),(75,(.sl 2 (List.map aC x2))),(76,(.int .i64 (nI x2.length))),(77,(.int .i64 cN))],[(.row [(.sl 2 (List.map aC x9)),(.sl 3 (List.map aA x13.1)),(.mp 1),(.ref 4 2 0 0 x12.length .virt)]),(.map (bZ .i64 (fun y=>AV.agg (aD y)) x11) x11.length),(.arr 4 (List.map aB x12) 0 0 true),(.row [(.int .i64 x5),(.int .i64 x6),(.int .u8 x7),(.int .i64 x8)])]⟩
def aGP (x9:aL) (x11:Ty6) (x12:aW) (x13:aN × Int) (aUR:Int):St:=⟨mkT 92 [(10,(.int .i64 aUR))],[(.row [(.sl 2 (List.map aC x9)),(.sl 3 (List.map aA x13.1)),(.mp 1),(.ref 4 2 0 0 x12.length .virt)]),(.map (bZ .i64 (fun y=>AV.agg (aD y)) x11) x11.length),(.arr 4 (List.map aB x12) 0 0 true)]⟩
def O37_3_0 (x2:aL) (x5:Int) (x6:Int) (x7:Int) (x8:Int) (x9:aL) (x10:aN) (x11:Ty6) (x12:aW) (x13:aN × Int) (y:(Int)):GX:=.st (.exit 0) (aGP x9 x11 x12 x13 y)
def aGA (x13:aN × Int):Ans:=.call ⟨true,[]⟩ (.tup [(.sl 3 (List.map aA x13.1)),(.int .i64 x13.2)]) []
def aMH (x14:Int × aL × Bool × Int × Int):Ans:=.call ⟨true,[]⟩ (.tup [(.agg [(.int .i64 x14.1),(.sl 2 (List.map aC x14.2.1)),(.bool x14.2.2.1),(.int .i64 x14.2.2.2.1)]),(.int .i64 x14.2.2.2.2)]) []
def aCQ:Ans:=.norm 0 ⟨[(6,[]),(7,[])],[],false,[],[]⟩
theorem nH (x2:aL) (x5:Int) (x6:Int) (x7:Int) (x8:Int) (x9:aL) (x10:aN) (x11:Ty6) (x12:aW) (x13:aN × Int) (y:(Int)):∀(k:Nat) (dE:Int) (cN:Int),b6 k x2 x5 x6 x7 x8 x9 x10 x11 x12 x13 dE cN=some y→LT Try.prog (aJW x9 x10 x11 x12) L37_3_0 (S37_3_0 x2 x5 x6 x7 x8 x9 x11 x12 x13 dE cN) (O37_3_0 x2 x5 x6 x7 x8 x9 x10 x11 x12 x13 y)
 | 0,dE,cN,h=>by cases h
 | k+1,dE,cN,h=>by
  rw[b6] at h
  by_cases cL0:ltI cN (nI x2.length)=true
  · rw[if_pos cL0] at h
    by_cases cL1:inI cN x2.length=true
    · rw[if_pos cL1] at h
      obtain⟨mP,eL2,h⟩:=bsm h
      by_cases cL3:eqI mP.1 x7=true
      · rw[if_pos cL3] at h
        exact LT.next aK (hs:=⟨[(5,[]),(10,[]),(75,[]),(76,[]),(77,[])],[⟨.tmp 5,[],none⟩],false,[],[]⟩) (es:=none) [dt,.n x2.length,.row [(.int .u8 mP.1),(.int .i64 mP.2)],dt] [⟨cL3⟩,⟨(aI (e:=aC) eL2 2 0 2 (by decide))⟩,⟨cL1⟩,⟨(aG aC x2)⟩,⟨cL0⟩] (by kernel_rfl) (nH x2 x5 x6 x7 x8 x9 x10 x11 x12 x13 y k (aO .i64 dE mP.2) (aO .i64 cN 1) h)
      rw[if_neg cL3] at h;replace cL3:=eqf cL3
      exact LT.next aK (hs:=⟨[(5,[]),(10,[]),(75,[]),(76,[]),(77,[])],[⟨.tmp 5,[],none⟩],false,[],[]⟩) (es:=none) [dt,.n x2.length,.row [(.int .u8 mP.1),(.int .i64 mP.2)],df] [⟨cL3⟩,⟨(aI (e:=aC) eL2 2 0 2 (by decide))⟩,⟨cL1⟩,⟨(aG aC x2)⟩,⟨cL0⟩] (by kernel_rfl) (nH x2 x5 x6 x7 x8 x9 x10 x11 x12 x13 y k dE (aO .i64 cN 1) h)
    rw[if_neg cL1] at h;replace cL1:=eqf cL1
    cases h
  rw[if_neg cL0] at h;replace cL0:=eqf cL0
  obtain rfl:=osi h
  show LT _ _ _ _ (.st (.exit 0) (aGP x9 x11 x12 x13 dE))
  exact LT.done aK (hs:=⟨[],[],false,[],[]⟩) (es:=(some ⟨[(10,[])],[],false,[],[]⟩)) [df] [⟨cL0⟩] (by kernel_rfl) (fun s h=>by cases h)
theorem uB (k:Nat) (x1:Int) (x2:aL) (x3:Bool) (x4:Int) (x5:Int) (x6:Int) (x7:Int) (x8:Int) (x9:aL) (x10:aN) (x11:Ty6) (x12:aW) (r:aN × Ty6 × Int × Int) (h:iY k x1 x2 x3 x4 x5 x6 x7 x8 x9 x10 x11 x12=some r):Tri Try.prog 37 [(.hp 0 0),(.agg [(.int .i64 x1),(.sl 2 (List.map aC x2)),(.bool x3),(.int .i64 x4)]),(.agg [(.int .i64 x5),(.int .i64 x6),(.int .u8 x7),(.int .i64 x8)])] [(.row [(.sl 2 (List.map aC x9)),(.sl 3 (List.map aA x10)),(.mp 1),(.ref 4 2 0 0 x12.length .virt)]),(.map (bZ .i64 (fun y=>AV.agg (aD y)) x11) x11.length),(.arr 4 (List.map aB x12) 0 0 true)] (.tup [(.int .i64 r.2.2.2),(.int .i64 r.2.2.1)]) [(.row [(.sl 2 (List.map aC x9)),(.sl 3 (List.map aA r.1)),(.mp 1),(.ref 4 2 0 0 x12.length .virt)]),(.map (bZ .i64 (fun y=>AV.agg (aD y)) r.2.1) r.2.1.length),(.arr 4 (List.map aB x12) 0 0 true)]:=by
 unfold iY at h
 by_cases c0:eqI x1 0=true
 · rw[if_pos c0] at h
   obtain⟨x13,e1,h⟩:=bsm h
   by_cases c2:eqI x13.2 0=true
   · rw[if_pos c2] at h
     by_cases c3:eqI x5 3=true
     · rw[if_pos c3] at h
       obtain⟨x14,e4,h⟩:=bsm h
       by_cases c5:eqI x14.2.2.2.2 0=true
       · rw[if_pos c5] at h
         by_cases c6:vH x11 x6=true
         · rw[if_pos c6] at h
           obtain⟨x15,e7,h⟩:=bsm h
           obtain rfl:=osi h
           exact Tri.of (x:=(aJW x9 x10 x11 x12)) aK rS [df,(aGA x13),df,dt,(aMH x14),df,.opt (some (.agg [(.int .i64 x15.1),(.sl 2 (List.map aC x15.2.1)),(.bool x15.2.2.1),(.int .i64 x15.2.2.2)])),.n (mIx x11 x6),.ents (bZ .i64 (fun y=>AV.agg (aD y)) x11) x11.length,.ents (bZ .i64 (fun y=>AV.agg (aD y)) (cD x11 x6 (x14.1,x14.2.1,x14.2.2.1,x14.2.2.2.1))) (cD x11 x6 (x14.1,x14.2.1,x14.2.2.1,x14.2.2.2.1)).length,aCQ] [⟨(aNE .i64 (fun y=>AV.agg (aD y)) e7 (x14.1,x14.2.1,x14.2.2.1,x14.2.2.2.1))⟩,⟨(aQA .i64 (fun y=>AV.agg (aD y)) e7 (.agg [(.int .i64 0),(.sl 2 (List.map aC [])),(.bool false),(.int .i64 0)]))⟩,⟨(aIN .i64 (fun y=>AV.agg (aD y)) x11 x6)⟩,⟨(qT .i64 (fun y=>AV.agg (aD y)) e7)⟩,⟨(nF c5)⟩,⟨(sQ k x1 x2 x3 x4 x7 x8 _ e4)⟩,⟨c3⟩,⟨(nF c2)⟩,⟨(kE k x10 x6 x7 (eqI x5 3) _ e1)⟩,⟨(nF c0)⟩] (by kernel_rfl)
         rw[if_neg c6] at h;replace c6:=eqf c6
         obtain rfl:=osi h
         exact Tri.of (x:=(aJW x9 x10 x11 x12)) aK rS [df,(aGA x13),df,dt,(aMH x14),df,.opt none,.n (mIx x11 x6),.ents (bZ .i64 (fun y=>AV.agg (aD y)) (cD x11 x6 (0,[],false,0))) (cD x11 x6 (0,[],false,0)).length,.ents (bZ .i64 (fun y=>AV.agg (aD y)) (cD x11 x6 (x14.1,x14.2.1,x14.2.2.1,x14.2.2.2.1))) (cD x11 x6 (x14.1,x14.2.1,x14.2.2.1,x14.2.2.2.1)).length,aCQ] [⟨(aST .i64 (fun y=>AV.agg (aD y)) (l:=x11) (q:=x6) (0,[],false,0) (x14.1,x14.2.1,x14.2.2.1,x14.2.2.2.1))⟩,⟨(aOR .i64 (fun y=>AV.agg (aD y)) c6 (0,[],false,0))⟩,⟨(aIN .i64 (fun y=>AV.agg (aD y)) x11 x6)⟩,⟨(qQ .i64 (fun y=>AV.agg (aD y)) c6)⟩,⟨(nF c5)⟩,⟨(sQ k x1 x2 x3 x4 x7 x8 _ e4)⟩,⟨c3⟩,⟨(nF c2)⟩,⟨(kE k x10 x6 x7 (eqI x5 3) _ e1)⟩,⟨(nF c0)⟩] (by kernel_rfl)
       rw[if_neg c5] at h;replace c5:=eqf c5
       obtain rfl:=osi h
       exact Tri.of (x:=(aJW x9 x10 x11 x12)) aK rS [df,(aGA x13),df,dt,(aMH x14),dt,aCQ] [⟨(nT c5)⟩,⟨(sQ k x1 x2 x3 x4 x7 x8 _ e4)⟩,⟨c3⟩,⟨(nF c2)⟩,⟨(kE k x10 x6 x7 (eqI x5 3) _ e1)⟩,⟨(nF c0)⟩] (by kernel_rfl)
     rw[if_neg c3] at h;replace c3:=eqf c3
     obtain⟨x14,e4,h⟩:=bsm h
     obtain⟨x16,e5,h⟩:=bsm h
     obtain rfl:=osi h
     exact Tri.of (x:=(aJW x9 x10 x11 x12)) aK rS [df,(aGA x13),df,df,.call ⟨true,[]⟩ (.int .i64 x14) [],.n x2.length,.norm 2 ⟨[(5,[]),(10,[]),(75,[]),(76,[]),(77,[])],[⟨.tmp 5,[],none⟩],false,[],[]⟩,.out (.st .normal (aGP x9 x11 x12 x13 x16)),aCQ] [⟨(LT.block (nH x2 x5 x6 x7 x8 x9 x10 x11 x12 x13 _ k x14 0 e5))⟩,⟨(aG aC x2)⟩,⟨(zG k x9 x7 _ e4)⟩,⟨c3⟩,⟨(nF c2)⟩,⟨(kE k x10 x6 x7 (eqI x5 3) _ e1)⟩,⟨(nF c0)⟩] (by kernel_rfl)
   rw[if_neg c2] at h;replace c2:=eqf c2
   obtain rfl:=osi h
   exact Tri.of (x:=(aJW x9 x10 x11 x12)) aK rS [df,(aGA x13),dt,aCQ] [⟨(nT c2)⟩,⟨(kE k x10 x6 x7 (eqI x5 3) _ e1)⟩,⟨(nF c0)⟩] (by kernel_rfl)
 rw[if_neg c0] at h;replace c0:=eqf c0
 obtain rfl:=osi h
 exact Tri.of (x:=(aJW x9 x10 x11 x12)) aK rS [dt,aCQ] [⟨(nT c0)⟩] (by kernel_rfl)
end Go.Ws

namespace Go.Ws
open Go.Proofs
set_option linter.unusedSimpArgs false
set_option linter.unusedVariables false
set_option maxRecDepth 1000000
set_option maxHeartbeats 4000000
noncomputable def aDO (x9:aL) (x10:aN) (x11:Ty6) (x12:aW):Ctx:=⟨Try.f38,[(.row [(.sl 2 (List.map aC x9)),(.sl 3 (List.map aA x10)),(.mp 1),(.ref 4 2 0 0 x12.length .virt)]),(.map (bZ .i64 (fun y=>AV.agg (aD y)) x11) x11.length),(.arr 4 (List.map aB x12) 0 0 true)],false⟩
def aNN (x13:Int × aL × Bool × Int × Int):Ans:=.call ⟨true,[]⟩ (.tup [(.agg [(.int .i64 x13.1),(.sl 2 (List.map aC x13.2.1)),(.bool x13.2.2.1),(.int .i64 x13.2.2.2.1)]),(.int .i64 x13.2.2.2.2)]) []
def aID (x15:aN):Ans:=.call ⟨true,[]⟩ (.sl 3 (List.map aA x15)) []
def aDE (x13:Int × aL × Bool × Int × aL × Int):Ans:=.call ⟨true,[]⟩ (.tup [(.agg [(.int .i64 x13.1),(.sl 2 (List.map aC x13.2.1)),(.bool x13.2.2.1),(.int .i64 x13.2.2.2.1)]),(.sl 2 (List.map aC x13.2.2.2.2.1)),(.int .i64 x13.2.2.2.2.2)]) []
def aNW (x6:Int) (x11:Ty6) (x13:Int × aL × Bool × Int × aL × Int):Ans:=.ents (bZ .i64 (fun y=>AV.agg (aD y)) (cD x11 x6 (x13.1,x13.2.1,x13.2.2.1,x13.2.2.2.1))) (cD x11 x6 (x13.1,x13.2.1,x13.2.2.1,x13.2.2.2.1)).length
def aMS (x14:aL × Int):Ans:=.call ⟨true,[]⟩ (.tup [(.sl 2 (List.map aC x14.1)),(.int .i64 x14.2)]) []
theorem aEM (k:Nat) (x1:Int) (x2:aL) (x3:Bool) (x4:Int) (x5:Int) (x6:Int) (x7:Int) (x8:Int) (x9:aL) (x10:aN) (x11:Ty6) (x12:aW) (r:aL × aN × Ty6 × Int) (h:mM k x1 x2 x3 x4 x5 x6 x7 x8 x9 x10 x11 x12=some r):Tri Try.prog 38 [(.hp 0 0),(.agg [(.int .i64 x1),(.sl 2 (List.map aC x2)),(.bool x3),(.int .i64 x4)]),(.agg [(.int .i64 x5),(.int .i64 x6),(.int .u8 x7),(.int .i64 x8)])] [(.row [(.sl 2 (List.map aC x9)),(.sl 3 (List.map aA x10)),(.mp 1),(.ref 4 2 0 0 x12.length .virt)]),(.map (bZ .i64 (fun y=>AV.agg (aD y)) x11) x11.length),(.arr 4 (List.map aB x12) 0 0 true)] (.int .i64 r.2.2.2) [(.row [(.sl 2 (List.map aC r.1)),(.sl 3 (List.map aA r.2.1)),(.mp 1),(.ref 4 2 0 0 x12.length .virt)]),(.map (bZ .i64 (fun y=>AV.agg (aD y)) r.2.2.1) r.2.2.1.length),(.arr 4 (List.map aB x12) 0 0 true)]:=by
 unfold mM at h
 by_cases c0:eqI x5 4=true
 · rw[if_pos c0] at h
   obtain⟨x13,e1,h⟩:=bsm h
   by_cases c2:eqI x13.2.2.2.2 0=true
   · rw[if_pos c2] at h
     obtain⟨x14,e3,h⟩:=bsm h
     by_cases c4:eqI x13.1 2=true
     · rw[if_pos c4] at h
       obtain⟨x15,e5,h⟩:=bsm h
       obtain rfl:=osi h
       exact Tri.of (x:=(aDO x9 x10 x11 x12)) aK kO [dt,(aNN x13),df,.ents (bZ .i64 (fun y=>AV.agg (aD y)) (cD x11 x6 (x13.1,x13.2.1,x13.2.2.1,x13.2.2.2.1))) (cD x11 x6 (x13.1,x13.2.1,x13.2.2.1,x13.2.2.2.1)).length,.call ⟨true,[[],[(0,2)]]⟩ (.tup [(.sl 2 (List.map aC x14.1)),(.int .i64 x14.2)]) [],df,df,df,df,dt,(aID x15),.norm 0 ⟨[(6,[])],[],false,[],[]⟩] [⟨(mQ k x10 x6 _ e5)⟩,⟨c4⟩,⟨(nF c0)⟩,⟨(nF c0)⟩,⟨(nF c0)⟩,⟨(nF c0)⟩,⟨(jK k x9 [] _ e3)⟩,⟨(rX .i64 (fun y=>AV.agg (aD y)) x11 x6 (x13.1,x13.2.1,x13.2.2.1,x13.2.2.2.1))⟩,⟨(nF c2)⟩,⟨(qK k x1 x2 x3 x4 (!eqI x8 0) _ e1)⟩,⟨c0⟩] (by kernel_rfl)
     rw[if_neg c4] at h;replace c4:=eqf c4
     obtain rfl:=osi h
     exact Tri.of (x:=(aDO x9 x10 x11 x12)) aK kO [dt,(aNN x13),df,.ents (bZ .i64 (fun y=>AV.agg (aD y)) (cD x11 x6 (x13.1,x13.2.1,x13.2.2.1,x13.2.2.2.1))) (cD x11 x6 (x13.1,x13.2.1,x13.2.2.1,x13.2.2.2.1)).length,.call ⟨true,[[],[(0,2)]]⟩ (.tup [(.sl 2 (List.map aC x14.1)),(.int .i64 x14.2)]) [],df,df,df,df,df,.norm 0 ⟨[(6,[])],[],false,[],[]⟩] [⟨c4⟩,⟨(nF c0)⟩,⟨(nF c0)⟩,⟨(nF c0)⟩,⟨(nF c0)⟩,⟨(jK k x9 [] _ e3)⟩,⟨(rX .i64 (fun y=>AV.agg (aD y)) x11 x6 (x13.1,x13.2.1,x13.2.2.1,x13.2.2.2.1))⟩,⟨(nF c2)⟩,⟨(qK k x1 x2 x3 x4 (!eqI x8 0) _ e1)⟩,⟨c0⟩] (by kernel_rfl)
   rw[if_neg c2] at h;replace c2:=eqf c2
   obtain rfl:=osi h
   exact Tri.of (x:=(aDO x9 x10 x11 x12)) aK kO [dt,(aNN x13),dt,.norm 0 ⟨[(6,[])],[],false,[],[]⟩] [⟨(nT c2)⟩,⟨(qK k x1 x2 x3 x4 (!eqI x8 0) _ e1)⟩,⟨c0⟩] (by kernel_rfl)
 rw[if_neg c0] at h;replace c0:=eqf c0
 by_cases c1:eqI x5 5=true
 · rw[if_pos c1] at h
   obtain⟨x13,e2,h⟩:=bsm h
   by_cases c3:eqI x13.2.2.2.2.2 0=true
   · rw[if_pos c3] at h
     obtain⟨x14,e4,h⟩:=bsm h
     obtain⟨x15,e5,h⟩:=bsm h
     obtain rfl:=osi h
     exact Tri.of (x:=(aDO x9 x10 x11 x12)) aK kO [df,dt,(aDE x13),df,(aNW x6 x11 x13),(aMS x14),dt,dt,dt,dt,dt,(aID x15),.norm 0 ⟨[(6,[])],[],false,[],[]⟩] [⟨(mQ k x10 x6 _ e5)⟩,⟨rT⟩,⟨(nT c0)⟩,⟨(nT c0)⟩,⟨(nT c0)⟩,⟨(nT c0)⟩,⟨(jK k x9 x13.2.2.2.2.1 _ e4)⟩,⟨(rX .i64 (fun y=>AV.agg (aD y)) x11 x6 (x13.1,x13.2.1,x13.2.2.1,x13.2.2.2.1))⟩,⟨(nF c3)⟩,⟨(vF k x1 x2 x3 x4 _ e2)⟩,⟨c1⟩,⟨c0⟩] (by kernel_rfl)
   rw[if_neg c3] at h;replace c3:=eqf c3
   obtain rfl:=osi h
   exact Tri.of (x:=(aDO x9 x10 x11 x12)) aK kO [df,dt,(aDE x13),dt,.norm 0 ⟨[(6,[])],[],false,[],[]⟩] [⟨(nT c3)⟩,⟨(vF k x1 x2 x3 x4 _ e2)⟩,⟨c1⟩,⟨c0⟩] (by kernel_rfl)
 rw[if_neg c1] at h;replace c1:=eqf c1
 by_cases c2:eqI x8 1=true
 · rw[if_pos c2] at h
   obtain⟨x13,e3,h⟩:=bsm h
   by_cases c4:eqI x13.2.2.2.2.2 0=true
   · rw[if_pos c4] at h
     obtain⟨x14,e5,h⟩:=bsm h
     obtain⟨x15,e6,h⟩:=bsm h
     obtain rfl:=osi h
     exact Tri.of (x:=(aDO x9 x10 x11 x12)) aK kO [df,df,dt,dt,dt,dt,dt,(aDE x13),df,(aNW x6 x11 x13),(aMS x14),dt,dt,dt,dt,dt,(aID x15),.norm 0 ⟨[(6,[])],[],false,[],[]⟩] [⟨(mQ k x10 x6 _ e6)⟩,⟨rT⟩,⟨(nT c0)⟩,⟨(nT c0)⟩,⟨(nT c0)⟩,⟨(nT c0)⟩,⟨(jK k x9 x13.2.2.2.2.1 _ e5)⟩,⟨(rX .i64 (fun y=>AV.agg (aD y)) x11 x6 (x13.1,x13.2.1,x13.2.2.1,x13.2.2.2.1))⟩,⟨(nF c4)⟩,⟨(kG k x1 x2 x3 x4 x8 _ e3)⟩,⟨rT⟩,⟨c2⟩,⟨c2⟩,⟨c2⟩,⟨c2⟩,⟨c1⟩,⟨c0⟩] (by kernel_rfl)
   rw[if_neg c4] at h;replace c4:=eqf c4
   obtain rfl:=osi h
   exact Tri.of (x:=(aDO x9 x10 x11 x12)) aK kO [df,df,dt,dt,dt,dt,dt,(aDE x13),dt,.norm 0 ⟨[(6,[])],[],false,[],[]⟩] [⟨(nT c4)⟩,⟨(kG k x1 x2 x3 x4 x8 _ e3)⟩,⟨rT⟩,⟨c2⟩,⟨c2⟩,⟨c2⟩,⟨c2⟩,⟨c1⟩,⟨c0⟩] (by kernel_rfl)
 rw[if_neg c2] at h;replace c2:=eqf c2
 by_cases c3:eqI x8 2=true
 · rw[if_pos c3] at h
   obtain⟨x13,e4,h⟩:=bsm h
   by_cases c5:eqI x13.2.2.2.2.2 0=true
   · rw[if_pos c5] at h
     obtain⟨x14,e6,h⟩:=bsm h
     obtain⟨x15,e7,h⟩:=bsm h
     obtain rfl:=osi h
     exact Tri.of (x:=(aDO x9 x10 x11 x12)) aK kO [df,df,df,df,df,df,dt,(aDE x13),df,(aNW x6 x11 x13),(aMS x14),dt,dt,dt,dt,dt,(aID x15),.norm 0 ⟨[(6,[])],[],false,[],[]⟩] [⟨(mQ k x10 x6 _ e7)⟩,⟨rT⟩,⟨(nT c0)⟩,⟨(nT c0)⟩,⟨(nT c0)⟩,⟨(nT c0)⟩,⟨(jK k x9 x13.2.2.2.2.1 _ e6)⟩,⟨(rX .i64 (fun y=>AV.agg (aD y)) x11 x6 (x13.1,x13.2.1,x13.2.2.1,x13.2.2.2.1))⟩,⟨(nF c5)⟩,⟨(kG k x1 x2 x3 x4 x8 _ e4)⟩,⟨c3⟩,⟨c2⟩,⟨c2⟩,⟨c2⟩,⟨c2⟩,⟨c1⟩,⟨c0⟩] (by kernel_rfl)
   rw[if_neg c5] at h;replace c5:=eqf c5
   obtain rfl:=osi h
   exact Tri.of (x:=(aDO x9 x10 x11 x12)) aK kO [df,df,df,df,df,df,dt,(aDE x13),dt,.norm 0 ⟨[(6,[])],[],false,[],[]⟩] [⟨(nT c5)⟩,⟨(kG k x1 x2 x3 x4 x8 _ e4)⟩,⟨c3⟩,⟨c2⟩,⟨c2⟩,⟨c2⟩,⟨c2⟩,⟨c1⟩,⟨c0⟩] (by kernel_rfl)
 rw[if_neg c3] at h;replace c3:=eqf c3
 obtain rfl:=osi h
 exact Tri.of (x:=(aDO x9 x10 x11 x12)) aK kO [df,df,df,df,df,df,df,dt,.norm 0 ⟨[(6,[])],[],false,[],[]⟩] [⟨(nT (rfl:eqI 2 0=false))⟩,⟨c3⟩,⟨c2⟩,⟨c2⟩,⟨c2⟩,⟨c2⟩,⟨c1⟩,⟨c0⟩] (by kernel_rfl)
end Go.Ws

namespace Go.Ws
open Go.Proofs
set_option linter.unusedSimpArgs false
set_option linter.unusedVariables false
set_option maxRecDepth 1000000
set_option maxHeartbeats 4000000
noncomputable def X27_3 (x9:aL) (x10:aN) (x11:Ty6) (x12:aW):Ctx:=⟨Try.f27,[(.row [(.sl 2 (List.map aC x9)),(.sl 3 (List.map aA x10)),(.mp 1),(.ref 4 2 0 0 x12.length .virt)]),(.map (bZ .i64 (fun y=>AV.agg (aD y)) x11) x11.length),(.arr 4 (List.map aB x12) 0 0 true)],false⟩
def aII:Ans:=.norm 0 ⟨[(6,[]),(7,[])],[],false,[],[]⟩
def aSX (x9:aL) (x12:aW) (x13:aN × Ty6 × Int × Int):Ans:=.call ⟨true,[]⟩ (.tup [(.int .i64 x13.2.2.2),(.int .i64 x13.2.2.1)]) [(.row [(.sl 2 (List.map aC x9)),(.sl 3 (List.map aA x13.1)),(.mp 1),(.ref 4 2 0 0 x12.length .virt)]),(.map (bZ .i64 (fun y=>AV.agg (aD y)) x13.2.1) x13.2.1.length),(.arr 4 (List.map aB x12) 0 0 true)]
theorem nQ (k:Nat) (x1:Int) (x2:aL) (x3:Bool) (x4:Int) (x5:Int) (x6:Int) (x7:Int) (x8:Int) (x9:aL) (x10:aN) (x11:Ty6) (x12:aW) (r:Int × Int × aN × Ty6 × aL) (h:j7 k x1 x2 x3 x4 x5 x6 x7 x8 x9 x10 x11 x12=some r):Tri Try.prog 27 [(.hp 0 0),(.agg [(.int .i64 x1),(.sl 2 (List.map aC x2)),(.bool x3),(.int .i64 x4)]),(.agg [(.int .i64 x5),(.int .i64 x6),(.int .u8 x7),(.int .i64 x8)])] [(.row [(.sl 2 (List.map aC x9)),(.sl 3 (List.map aA x10)),(.mp 1),(.ref 4 2 0 0 x12.length .virt)]),(.map (bZ .i64 (fun y=>AV.agg (aD y)) x11) x11.length),(.arr 4 (List.map aB x12) 0 0 true)] (.tup [(.int .i64 r.1),(.int .i64 r.2.1)]) [(.row [(.sl 2 (List.map aC r.2.2.2.2)),(.sl 3 (List.map aA r.2.2.1)),(.mp 1),(.ref 4 2 0 0 x12.length .virt)]),(.map (bZ .i64 (fun y=>AV.agg (aD y)) r.2.2.2.1) r.2.2.2.1.length),(.arr 4 (List.map aB x12) 0 0 true)]:=by
 unfold j7 at h
 by_cases c0:eqI x5 1=true
 · rw[if_pos c0] at h
   obtain rfl:=osi h
   exact Tri.of (x:=(X27_3 x9 x10 x11 x12)) aK yT [dt,.ents (bZ .i64 (fun y=>AV.agg (aD y)) (cD x11 x6 (x1,x2,x3,x4))) (cD x11 x6 (x1,x2,x3,x4)).length,aII] [⟨(rX .i64 (fun y=>AV.agg (aD y)) x11 x6 (x1,x2,x3,x4))⟩,⟨c0⟩] (by kernel_rfl)
 rw[if_neg c0] at h;replace c0:=eqf c0
 by_cases c1:eqI x5 2=true
 · rw[if_pos c1] at h
   obtain⟨x13,e2,h⟩:=bsm h
   obtain rfl:=osi h
   exact Tri.of (x:=(X27_3 x9 x10 x11 x12)) aK yT [df,dt,dt,(aSX x9 x12 x13),aII] [⟨(uB k x1 x2 x3 x4 x5 x6 x7 x8 x9 x10 x11 x12 _ e2)⟩,⟨c1⟩,⟨c1⟩,⟨c0⟩] (by kernel_rfl)
 rw[if_neg c1] at h;replace c1:=eqf c1
 by_cases c2:eqI x5 3=true
 · rw[if_pos c2] at h
   obtain⟨x13,e3,h⟩:=bsm h
   obtain rfl:=osi h
   exact Tri.of (x:=(X27_3 x9 x10 x11 x12)) aK yT [df,df,dt,(aSX x9 x12 x13),aII] [⟨(uB k x1 x2 x3 x4 x5 x6 x7 x8 x9 x10 x11 x12 _ e3)⟩,⟨c2⟩,⟨c1⟩,⟨c0⟩] (by kernel_rfl)
 rw[if_neg c2] at h;replace c2:=eqf c2
 obtain⟨x13,e3,h⟩:=bsm h
 obtain rfl:=osi h
 exact Tri.of (x:=(X27_3 x9 x10 x11 x12)) aK yT [df,df,df,.call ⟨true,[]⟩ (.int .i64 x13.2.2.2) [(.row [(.sl 2 (List.map aC x13.1)),(.sl 3 (List.map aA x13.2.1)),(.mp 1),(.ref 4 2 0 0 x12.length .virt)]),(.map (bZ .i64 (fun y=>AV.agg (aD y)) x13.2.2.1) x13.2.2.1.length),(.arr 4 (List.map aB x12) 0 0 true)],aII] [⟨(aEM k x1 x2 x3 x4 x5 x6 x7 x8 x9 x10 x11 x12 _ e3)⟩,⟨c2⟩,⟨c1⟩,⟨c0⟩] (by kernel_rfl)
end Go.Ws

namespace Go.Ws
open Go.Proofs
set_option linter.unusedSimpArgs false
set_option linter.unusedVariables false
set_option maxRecDepth 1000000
set_option maxHeartbeats 4000000
noncomputable def aDW (x5:aL) (x6:aN) (x7:Ty6) (x8:aW):Ctx:=⟨Try.f14,[(.row [(.sl 2 (List.map aC x5)),(.sl 3 (List.map aA x6)),(.mp 1),(.ref 4 2 0 0 x8.length .virt)]),(.map (bZ .i64 (fun y=>AV.agg (aD y)) x7) x7.length),(.arr 4 (List.map aB x8) 0 0 true)],false⟩
def u6 (x5:aL) (x6:aN) (x7:Ty6) (x8:aW):Ans:=.call ⟨true,[]⟩ (.bool (!false)) [(.row [(.sl 2 (List.map aC x5)),(.sl 3 (List.map aA x6)),(.mp 1),(.ref 4 2 0 0 x8.length .virt)]),(.map (bZ .i64 (fun y=>AV.agg (aD y)) x7) x7.length),(.arr 4 (List.map aB x8) 0 0 true)]
def vB:Ans:=.norm 0 ⟨[(4,[]),(5,[])],[],false,[],[none,none,some 1]⟩
def aN5 (x9:Int × aL × Bool × Int):Ans:=.opt (some (.agg [(.int .i64 x9.1),(.sl 2 (List.map aC x9.2.1)),(.bool x9.2.2.1),(.int .i64 x9.2.2.2)]))
def aTF (x8:aW) (x10:Int × Int × aN × Ty6 × aL):Ans:=.call ⟨true,[]⟩ (.tup [(.int .i64 x10.1),(.int .i64 x10.2.1)]) [(.row [(.sl 2 (List.map aC x10.2.2.2.2)),(.sl 3 (List.map aA x10.2.2.1)),(.mp 1),(.ref 4 2 0 0 x8.length .virt)]),(.map (bZ .i64 (fun y=>AV.agg (aD y)) x10.2.2.2.1) x10.2.2.2.1.length),(.arr 4 (List.map aB x8) 0 0 true)]
def aTD (x8:aW) (x9:Int × Int × aN × Ty6 × aL):Ans:=.call ⟨true,[]⟩ (.tup [(.int .i64 x9.1),(.int .i64 x9.2.1)]) [(.row [(.sl 2 (List.map aC x9.2.2.2.2)),(.sl 3 (List.map aA x9.2.2.1)),(.mp 1),(.ref 4 2 0 0 x8.length .virt)]),(.map (bZ .i64 (fun y=>AV.agg (aD y)) x9.2.2.2.1) x9.2.2.2.1.length),(.arr 4 (List.map aB x8) 0 0 true)]
theorem s9 (k:Nat) (x1:Int) (x2:Int) (x3:Int) (x4:Int) (x5:aL) (x6:aN) (x7:Ty6) (x8:aW) (r:Int × Int × aL × aN × Ty6 × aW) (h:n0 k x1 x2 x3 x4 x5 x6 x7 x8=some r):Tri Try.prog 14 [(.hp 0 0),(.agg [(.int .i64 x1),(.int .i64 x2),(.int .u8 x3),(.int .i64 x4)])] [(.row [(.sl 2 (List.map aC x5)),(.sl 3 (List.map aA x6)),(.mp 1),(.ref 4 2 0 0 x8.length .virt)]),(.map (bZ .i64 (fun y=>AV.agg (aD y)) x7) x7.length),(.arr 4 (List.map aB x8) 0 0 true)] (.tup [(.int .i64 r.2.1),(.int .i64 r.1)]) [(.row [(.sl 2 (List.map aC r.2.2.1)),(.sl 3 (List.map aA r.2.2.2.1)),(.mp 1),(.ref 4 2 1 0 r.2.2.2.2.2.length .virt)]),(.map (bZ .i64 (fun y=>AV.agg (aD y)) r.2.2.2.2.1) r.2.2.2.2.1.length),(.arr 4 (List.map aB r.2.2.2.2.2) 1 1 true)]:=by
 unfold n0 at h
 by_cases c0:ltI x1 1=true
 · rw[if_pos c0] at h
   obtain rfl:=osi h
   exact Tri.of (x:=(aDW x5 x6 x7 x8)) aK kT [(u6 x5 x6 x7 x8),df,dt,dt,dt,dt,dt,dt,dt,dt,dt,dt,dt,dt,dt,vB] [⟨rT⟩,⟨rT⟩,⟨rT⟩,⟨rT⟩,⟨rT⟩,⟨rT⟩,⟨rT⟩,⟨rT⟩,⟨rT⟩,⟨c0⟩,⟨c0⟩,⟨c0⟩,⟨c0⟩,⟨(nF (nT rfl))⟩,⟨(cF x5 x6 x7 x8)⟩] (by kernel_rfl)
 rw[if_neg c0] at h;replace c0:=eqf c0
 by_cases c1:ltI 6 x1=true
 · rw[if_pos c1] at h
   obtain rfl:=osi h
   exact Tri.of (x:=(aDW x5 x6 x7 x8)) aK kT [(u6 x5 x6 x7 x8),df,df,df,df,df,dt,dt,dt,dt,dt,dt,dt,dt,dt,vB] [⟨rT⟩,⟨rT⟩,⟨rT⟩,⟨rT⟩,⟨rT⟩,⟨c1⟩,⟨c1⟩,⟨c1⟩,⟨c1⟩,⟨c0⟩,⟨c0⟩,⟨c0⟩,⟨c0⟩,⟨(nF (nT rfl))⟩,⟨(cF x5 x6 x7 x8)⟩] (by kernel_rfl)
 rw[if_neg c1] at h;replace c1:=eqf c1
 by_cases c2:ltI x2 0=true
 · rw[if_pos c2] at h
   obtain rfl:=osi h
   exact Tri.of (x:=(aDW x5 x6 x7 x8)) aK kT [(u6 x5 x6 x7 x8),df,df,df,df,df,df,df,df,df,dt,dt,dt,dt,dt,vB] [⟨rT⟩,⟨c2⟩,⟨c2⟩,⟨c2⟩,⟨c2⟩,⟨c1⟩,⟨c1⟩,⟨c1⟩,⟨c1⟩,⟨c0⟩,⟨c0⟩,⟨c0⟩,⟨c0⟩,⟨(nF (nT rfl))⟩,⟨(cF x5 x6 x7 x8)⟩] (by kernel_rfl)
 rw[if_neg c2] at h;replace c2:=eqf c2
 by_cases c3:ltI x2 1000=true
 · rw[if_pos c3] at h
   by_cases c4:vH x7 x2=true
   · rw[if_pos c4] at h
     obtain⟨x9,e5,h⟩:=bsm h
     by_cases c6:eqB true (eqI x1 1)=true
     · rw[if_pos c6] at h
       obtain rfl:=osi h
       exact Tri.of (x:=(aDW x5 x6 x7 x8)) aK kT [(u6 x5 x6 x7 x8),df,df,df,df,df,df,df,df,df,df,df,df,df,df,(aN5 x9),dt,dt,vB] [⟨rT⟩,⟨c6⟩,⟨(qT .i64 (fun y=>AV.agg (aD y)) e5)⟩,⟨(nF c3)⟩,⟨c2⟩,⟨c2⟩,⟨c2⟩,⟨c2⟩,⟨c1⟩,⟨c1⟩,⟨c1⟩,⟨c1⟩,⟨c0⟩,⟨c0⟩,⟨c0⟩,⟨c0⟩,⟨(nF (nT rfl))⟩,⟨(cF x5 x6 x7 x8)⟩] (by kernel_rfl)
     rw[if_neg c6] at h;replace c6:=eqf c6
     obtain⟨x10,e7,h⟩:=bsm h
     by_cases c8:eqI x10.2.1 0=true
     · rw[if_pos c8] at h
       by_cases c9:bB (((x8++[(x1,x2,x3,x4)]).length)*32)=true
       · rw[if_pos c9] at h
         obtain rfl:=osi h
         exact Tri.of (x:=(aDW x5 x6 x7 x8)) aK kT [(u6 x5 x6 x7 x8),df,df,df,df,df,df,df,df,df,df,df,df,df,df,(aN5 x9),df,(aTF x8 x10),df,.rows (List.map aB [(x1,x2,x3,x4)]),.n ((x8++[(x1,x2,x3,x4)]).length),.n x8.length,dt,.rows (List.map aB (x8++[(x1,x2,x3,x4)])),vB] [⟨(f5 aB x8 [(x1,x2,x3,x4)])⟩,⟨(dZ x8.length)⟩,⟨(aG aB x8)⟩,⟨c9⟩,⟨(by simp only[wl,List.length_map,List.map_nil,List.map_cons]<;>omega:x8.length+(List.map aB [(x1,x2,x3,x4)]).length=(x8++[(x1,x2,x3,x4)]).length)⟩,⟨(aQ aB (l:=[(x1,x2,x3,x4)]) (n:=1) rfl)⟩,⟨(a9 aB (Nat.le_refl 1):0+1≤(List.map aB [(x1,x2,x3,x4)]).length)⟩,⟨(nF c8)⟩,⟨(nQ k x9.1 x9.2.1 x9.2.2.1 x9.2.2.2 x1 x2 x3 x4 x5 x6 x7 x8 _ e7)⟩,⟨c6⟩,⟨(qT .i64 (fun y=>AV.agg (aD y)) e5)⟩,⟨(nF c3)⟩,⟨c2⟩,⟨c2⟩,⟨c2⟩,⟨c2⟩,⟨c1⟩,⟨c1⟩,⟨c1⟩,⟨c1⟩,⟨c0⟩,⟨c0⟩,⟨c0⟩,⟨c0⟩,⟨(nF (nT rfl))⟩,⟨(cF x5 x6 x7 x8)⟩] (by kernel_rfl)
       rw[if_neg c9] at h;replace c9:=eqf c9
       cases h
     rw[if_neg c8] at h;replace c8:=eqf c8
     obtain rfl:=osi h
     exact Tri.of (x:=(aDW x5 x6 x7 x8)) aK kT [(u6 x5 x6 x7 x8),df,df,df,df,df,df,df,df,df,df,df,df,df,df,(aN5 x9),df,(aTF x8 x10),dt,vB] [⟨(nT c8)⟩,⟨(nQ k x9.1 x9.2.1 x9.2.2.1 x9.2.2.2 x1 x2 x3 x4 x5 x6 x7 x8 _ e7)⟩,⟨c6⟩,⟨(qT .i64 (fun y=>AV.agg (aD y)) e5)⟩,⟨(nF c3)⟩,⟨c2⟩,⟨c2⟩,⟨c2⟩,⟨c2⟩,⟨c1⟩,⟨c1⟩,⟨c1⟩,⟨c1⟩,⟨c0⟩,⟨c0⟩,⟨c0⟩,⟨c0⟩,⟨(nF (nT rfl))⟩,⟨(cF x5 x6 x7 x8)⟩] (by kernel_rfl)
   rw[if_neg c4] at h;replace c4:=eqf c4
   by_cases c5:eqB false (eqI x1 1)=true
   · rw[if_pos c5] at h
     obtain rfl:=osi h
     exact Tri.of (x:=(aDW x5 x6 x7 x8)) aK kT [(u6 x5 x6 x7 x8),df,df,df,df,df,df,df,df,df,df,df,df,df,df,.opt none,dt,df,vB] [⟨rF⟩,⟨c5⟩,⟨(qQ .i64 (fun y=>AV.agg (aD y)) c4)⟩,⟨(nF c3)⟩,⟨c2⟩,⟨c2⟩,⟨c2⟩,⟨c2⟩,⟨c1⟩,⟨c1⟩,⟨c1⟩,⟨c1⟩,⟨c0⟩,⟨c0⟩,⟨c0⟩,⟨c0⟩,⟨(nF (nT rfl))⟩,⟨(cF x5 x6 x7 x8)⟩] (by kernel_rfl)
   rw[if_neg c5] at h;replace c5:=eqf c5
   obtain⟨x9,e6,h⟩:=bsm h
   by_cases c7:eqI x9.2.1 0=true
   · rw[if_pos c7] at h
     by_cases c8:bB (((x8++[(x1,x2,x3,x4)]).length)*32)=true
     · rw[if_pos c8] at h
       obtain rfl:=osi h
       exact Tri.of (x:=(aDW x5 x6 x7 x8)) aK kT [(u6 x5 x6 x7 x8),df,df,df,df,df,df,df,df,df,df,df,df,df,df,.opt none,df,(aTD x8 x9),df,.rows (List.map aB [(x1,x2,x3,x4)]),.n ((x8++[(x1,x2,x3,x4)]).length),.n x8.length,dt,.rows (List.map aB (x8++[(x1,x2,x3,x4)])),vB] [⟨(f5 aB x8 [(x1,x2,x3,x4)])⟩,⟨(dZ x8.length)⟩,⟨(aG aB x8)⟩,⟨c8⟩,⟨(by simp only[wl,List.length_map,List.map_nil,List.map_cons]<;>omega:x8.length+(List.map aB [(x1,x2,x3,x4)]).length=(x8++[(x1,x2,x3,x4)]).length)⟩,⟨(aQ aB (l:=[(x1,x2,x3,x4)]) (n:=1) rfl)⟩,⟨(a9 aB (Nat.le_refl 1):0+1≤(List.map aB [(x1,x2,x3,x4)]).length)⟩,⟨(nF c7)⟩,⟨(nQ k 0 [] false 0 x1 x2 x3 x4 x5 x6 x7 x8 _ e6)⟩,⟨c5⟩,⟨(qQ .i64 (fun y=>AV.agg (aD y)) c4)⟩,⟨(nF c3)⟩,⟨c2⟩,⟨c2⟩,⟨c2⟩,⟨c2⟩,⟨c1⟩,⟨c1⟩,⟨c1⟩,⟨c1⟩,⟨c0⟩,⟨c0⟩,⟨c0⟩,⟨c0⟩,⟨(nF (nT rfl))⟩,⟨(cF x5 x6 x7 x8)⟩] (by kernel_rfl)
     rw[if_neg c8] at h;replace c8:=eqf c8
     cases h
   rw[if_neg c7] at h;replace c7:=eqf c7
   obtain rfl:=osi h
   exact Tri.of (x:=(aDW x5 x6 x7 x8)) aK kT [(u6 x5 x6 x7 x8),df,df,df,df,df,df,df,df,df,df,df,df,df,df,.opt none,df,(aTD x8 x9),dt,vB] [⟨(nT c7)⟩,⟨(nQ k 0 [] false 0 x1 x2 x3 x4 x5 x6 x7 x8 _ e6)⟩,⟨c5⟩,⟨(qQ .i64 (fun y=>AV.agg (aD y)) c4)⟩,⟨(nF c3)⟩,⟨c2⟩,⟨c2⟩,⟨c2⟩,⟨c2⟩,⟨c1⟩,⟨c1⟩,⟨c1⟩,⟨c1⟩,⟨c0⟩,⟨c0⟩,⟨c0⟩,⟨c0⟩,⟨(nF (nT rfl))⟩,⟨(cF x5 x6 x7 x8)⟩] (by kernel_rfl)
 rw[if_neg c3] at h;replace c3:=eqf c3
 obtain rfl:=osi h
 exact Tri.of (x:=(aDW x5 x6 x7 x8)) aK kT [(u6 x5 x6 x7 x8),df,df,df,df,df,df,df,df,df,df,df,df,df,dt,vB] [⟨(nT c3)⟩,⟨c2⟩,⟨c2⟩,⟨c2⟩,⟨c2⟩,⟨c1⟩,⟨c1⟩,⟨c1⟩,⟨c1⟩,⟨c0⟩,⟨c0⟩,⟨c0⟩,⟨c0⟩,⟨(nF (nT rfl))⟩,⟨(cF x5 x6 x7 x8)⟩] (by kernel_rfl)
end Go.Ws

namespace Go.Ws
open Go.Proofs
set_option linter.unusedSimpArgs false
set_option linter.unusedVariables false
set_option maxRecDepth 1000000
set_option maxHeartbeats 4000000
noncomputable def X16 (x2:aL) (x3:aN) (x4:Ty6) (x5:aW):Ctx:=⟨Try.f16,[(.row [(.sl 2 (List.map aC x2)),(.sl 3 (List.map aA x3)),(.mp 1),(.ref 4 2 0 0 x5.length .virt)]),(.map (bZ .i64 (fun y=>AV.agg (aD y)) x4) x4.length),(.arr 4 (List.map aB x5) 0 0 true)],false⟩
def A16_0 (x2:aL) (x3:aN) (x4:Ty6) (x5:aW):Ans:=.call ⟨true,[]⟩ (.bool (!false)) [(.row [(.sl 2 (List.map aC x2)),(.sl 3 (List.map aA x3)),(.mp 1),(.ref 4 2 0 0 x5.length .virt)]),(.map (bZ .i64 (fun y=>AV.agg (aD y)) x4) x4.length),(.arr 4 (List.map aB x5) 0 0 true)]
def A16_1:Ans:=.norm 0 ⟨[(4,[]),(5,[])],[⟨.tmp 4,[],none⟩,⟨.cell 3 1,[],none⟩],false,[],[]⟩
theorem jP (k:Nat) (x1:Int) (x2:aL) (x3:aN) (x4:Ty6) (x5:aW) (r:Int × Bool × Int × aL × Bool) (h:lX k x1 x2 x3 x4 x5=some r):Tri Try.prog 16 [(.hp 0 0),(.int .i64 x1)] [(.row [(.sl 2 (List.map aC x2)),(.sl 3 (List.map aA x3)),(.mp 1),(.ref 4 2 0 0 x5.length .virt)]),(.map (bZ .i64 (fun y=>AV.agg (aD y)) x4) x4.length),(.arr 4 (List.map aB x5) 0 0 true)] (.tup [(.agg [(.int .i64 r.1),(.ref 2 3 0 0 r.2.2.2.1.length .virt),(.bool r.2.1),(.int .i64 r.2.2.1)]),(.bool r.2.2.2.2)]) [(.row [(.sl 2 (List.map aC x2)),(.sl 3 (List.map aA x3)),(.mp 1),(.ref 4 2 0 0 x5.length .virt)]),(.map (bZ .i64 (fun y=>AV.agg (aD y)) x4) x4.length),(.arr 4 (List.map aB x5) 0 0 true),(.arr 2 (List.map aC r.2.2.2.1) 0 0 false)]:=by
 unfold lX at h
 by_cases c0:vH x4 x1=true
 · rw[if_pos c0] at h
   obtain⟨x6,e1,h⟩:=bsm h
   obtain⟨x7,e2,h⟩:=bsm h
   obtain rfl:=osi h
   exact Tri.of (x:=(X16 x2 x3 x4 x5)) aK aSJ [(A16_0 x2 x3 x4 x5),df,.opt (some (.agg [(.int .i64 x6.1),(.sl 2 (List.map aC x6.2.1)),(.bool x6.2.2.1),(.int .i64 x6.2.2.2)])),.call ⟨true,[]⟩ (.ref 2 0 0 0 x6.2.1.length .virt) [(.arr 2 (List.map aC x6.2.1) 0 0 false)],A16_1] [⟨(iV k x6.2.1 _ e2)⟩,⟨(qT .i64 (fun y=>AV.agg (aD y)) e1)⟩,⟨(nF (nT rfl))⟩,⟨(cF x2 x3 x4 x5)⟩] (by kernel_rfl)
 rw[if_neg c0] at h;replace c0:=eqf c0
 obtain⟨x6,e1,h⟩:=bsm h
 obtain rfl:=osi h
 exact Tri.of (x:=(X16 x2 x3 x4 x5)) aK aSJ [(A16_0 x2 x3 x4 x5),df,.opt none,.call ⟨true,[]⟩ (.ref 2 0 0 0 0 .virt) [(.arr 2 (List.map aC []) 0 0 false)],A16_1] [⟨(iV k [] _ e1)⟩,⟨(qQ .i64 (fun y=>AV.agg (aD y)) c0)⟩,⟨(nF (nT rfl))⟩,⟨(cF x2 x3 x4 x5)⟩] (by kernel_rfl)
end Go.Ws

namespace Go.Ws
open Go.Proofs
set_option linter.unusedSimpArgs false
set_option linter.unusedVariables false
set_option maxRecDepth 1000000
set_option maxHeartbeats 4000000
noncomputable def X20 (x2:aL) (x3:aN) (x4:Ty6) (x5:aW):Ctx:=⟨Try.f20,[(.row [(.sl 2 (List.map aC x2)),(.sl 3 (List.map aA x3)),(.mp 1),(.ref 4 2 0 0 x5.length .virt)]),(.map (bZ .i64 (fun y=>AV.agg (aD y)) x4) x4.length),(.arr 4 (List.map aB x5) 0 0 true)],false⟩
theorem lQ (k:Nat) (x1:Int) (x2:aL) (x3:aN) (x4:Ty6) (x5:aW) (r:Int) (h:nJ k x1 x2 x3 x4 x5=some r):Tri Try.prog 20 [(.hp 0 0),(.int .u8 x1)] [(.row [(.sl 2 (List.map aC x2)),(.sl 3 (List.map aA x3)),(.mp 1),(.ref 4 2 0 0 x5.length .virt)]),(.map (bZ .i64 (fun y=>AV.agg (aD y)) x4) x4.length),(.arr 4 (List.map aB x5) 0 0 true)] (.int .i64 r) [(.row [(.sl 2 (List.map aC x2)),(.sl 3 (List.map aA x3)),(.mp 1),(.ref 4 2 0 0 x5.length .virt)]),(.map (bZ .i64 (fun y=>AV.agg (aD y)) x4) x4.length),(.arr 4 (List.map aB x5) 0 0 true)]:=by
 unfold nJ at h
 obtain⟨x6,e0,h⟩:=bsm h
 obtain rfl:=osi h
 exact Tri.of (x:=(X20 x2 x3 x4 x5)) aK facts20 [.call ⟨true,[]⟩ (.bool (!false)) [(.row [(.sl 2 (List.map aC x2)),(.sl 3 (List.map aA x3)),(.mp 1),(.ref 4 2 0 0 x5.length .virt)]),(.map (bZ .i64 (fun y=>AV.agg (aD y)) x4) x4.length),(.arr 4 (List.map aB x5) 0 0 true)],df,.call ⟨true,[]⟩ (.int .i64 x6) [],.norm 0 ⟨[(4,[])],[],false,[],[]⟩] [⟨(zG k x2 x1 _ e0)⟩,⟨(nF (nT rfl))⟩,⟨(cF x2 x3 x4 x5)⟩] (by kernel_rfl)
end Go.Ws

namespace Go.Ws
open Go.Proofs
set_option linter.unusedSimpArgs false
set_option linter.unusedVariables false
set_option maxRecDepth 1000000
set_option maxHeartbeats 4000000
noncomputable def X32_1001:Ctx:=⟨Try.f32,[],false⟩
theorem zJ (k:Nat) (x1:aW) (r:Unit) (h:jD k x1=some r):Tri Try.prog 32 [(.inl 4 (List.map aB x1))] [] (.ref 4 0 0 0 x1.length .virt) [(.arr 4 (List.map aB x1) 0 0 false)]:=by
 unfold jD at h
 by_cases c0:bB (x1.length*32)=true
 · rw[if_pos c0] at h
   obtain rfl:=osi h
   exact Tri.of (x:=X32_1001) aK aTI [df,.n x1.length,.norm 0 ⟨[(2,[])],[⟨.tmp 2,[],some 4⟩],false,[],[]⟩,.n x1.length,.rows (List.map aB x1)] [⟨(bL aB (l:=x1) (n:=x1.length) rfl)⟩,⟨(rfl:x1.length=x1.length)⟩,⟨(zle x1.length)⟩,⟨c0⟩,⟨(aG aB x1)⟩,⟨rF⟩] (by kernel_rfl)
 rw[if_neg c0] at h;replace c0:=eqf c0
 cases h
end Go.Ws

namespace Go.Ws
open Go.Proofs
set_option linter.unusedSimpArgs false
set_option linter.unusedVariables false
set_option maxRecDepth 1000000
set_option maxHeartbeats 4000000
noncomputable def X32_1002:Ctx:=⟨Try.f32,[],false⟩
theorem aAO:Tri Try.prog 32 [.nils] [] (.ref 4 0 0 0 0 .virt) [(.arr 4 (List.map aB []) 0 0 false)]:=by
 obtain⟨r,h⟩:∃r,pX=r:=⟨_,rfl⟩
 try rw[h]
 unfold pX at h
 obtain rfl:=h
 exact Tri.of (x:=X32_1002) aK aTI [dt,.norm 0 ⟨[(2,[])],[⟨.tmp 2,[],some 4⟩],false,[],[]⟩,.n 0,.rows (List.map aB [])] [⟨(bL aB (l:=[]) (n:=0) rfl)⟩,⟨(rfl:0=0)⟩,⟨(zle 0)⟩,⟨rT⟩] (by kernel_rfl)
end Go.Ws

namespace Go.Ws
open Go.Proofs
set_option linter.unusedSimpArgs false
set_option linter.unusedVariables false
set_option maxRecDepth 1000000
set_option maxHeartbeats 4000000
theorem w9 (k:Nat) (x1:aW) (r:Unit) (h:mN k x1=some r):Tri Try.prog 32 [(.sl 4 (List.map aB x1))] [] (.ref 4 0 0 0 x1.length .virt) [(.arr 4 (List.map aB x1) 0 0 false)]:=by
 refine Tri.slOf (zJ k x1 r h) fun h0=>?_
 have hx:x1=[]:=by simpa using h0
 subst hx
 exact aAO
end Go.Ws

namespace Go.Ws
open Go.Proofs
set_option linter.unusedSimpArgs false
set_option linter.unusedVariables false
set_option maxRecDepth 1000000
set_option maxHeartbeats 4000000
noncomputable def X21 (x1:aL) (x2:aN) (x3:Ty6) (x4:aW):Ctx:=⟨Try.f21,[(.row [(.sl 2 (List.map aC x1)),(.sl 3 (List.map aA x2)),(.mp 1),(.ref 4 2 0 0 x4.length .virt)]),(.map (bZ .i64 (fun y=>AV.agg (aD y)) x3) x3.length),(.arr 4 (List.map aB x4) 0 0 true)],false⟩
theorem aG5 (k:Nat) (x1:aL) (x2:aN) (x3:Ty6) (x4:aW) (r:Unit) (h:pB k x1 x2 x3 x4=some r):Tri Try.prog 21 [(.hp 0 0)] [(.row [(.sl 2 (List.map aC x1)),(.sl 3 (List.map aA x2)),(.mp 1),(.ref 4 2 0 0 x4.length .virt)]),(.map (bZ .i64 (fun y=>AV.agg (aD y)) x3) x3.length),(.arr 4 (List.map aB x4) 0 0 true)] (.ref 4 3 0 0 x4.length .virt) [(.row [(.sl 2 (List.map aC x1)),(.sl 3 (List.map aA x2)),(.mp 1),(.ref 4 2 0 0 x4.length .virt)]),(.map (bZ .i64 (fun y=>AV.agg (aD y)) x3) x3.length),(.arr 4 (List.map aB x4) 0 0 true),(.arr 4 (List.map aB x4) 0 0 false)]:=by
 unfold pB at h
 obtain⟨x5,e0,h⟩:=bsm h
 obtain rfl:=osi h
 exact Tri.of (x:=(X21 x1 x2 x3 x4)) aK aTH [.call ⟨true,[]⟩ (.bool (!false)) [(.row [(.sl 2 (List.map aC x1)),(.sl 3 (List.map aA x2)),(.mp 1),(.ref 4 2 0 0 x4.length .virt)]),(.map (bZ .i64 (fun y=>AV.agg (aD y)) x3) x3.length),(.arr 4 (List.map aB x4) 0 0 true)],df,.call ⟨true,[]⟩ (.ref 4 0 0 0 x4.length .virt) [(.arr 4 (List.map aB x4) 0 0 false)],.rows (List.map aB x4),.norm 0 ⟨[(2,[])],[⟨.tmp 2,[],none⟩],false,[],[]⟩] [⟨(w9 k x4 _ e0)⟩,⟨(aQ aB (l:=x4) (n:=x4.length) rfl)⟩,⟨(a9 aB (Nat.le_refl x4.length):0+x4.length≤(List.map aB x4).length)⟩,⟨(nF (nT rfl))⟩,⟨(cF x1 x2 x3 x4)⟩] (by kernel_rfl)
end Go.Ws

namespace Go.Ws
open Go.Proofs
set_option linter.unusedSimpArgs false
set_option linter.unusedVariables false
set_option maxRecDepth 1000000
set_option maxHeartbeats 4000000
noncomputable def X12:Ctx:=⟨Try.f12,[],true⟩
noncomputable def L12_0:Code:=at_ Try.f12 [1,1,1,0,1,4,5]
def S12_0 (gF:Int) (gX:aL) (gY:aN) (gG:Ty6) (gH:aW):St:=⟨mkT 73 [(1,(.hp 0 0)),(27,(.ref 6 1 0 0 8 .full)),(28,(.int .i64 8)),(29,(.int .i64 gF))],[(.row [(.sl 2 (List.map aC gX)),(.sl 3 (List.map aA gY)),(.mp 2),(.ref 4 3 0 0 gH.length .virt)]),(.arr 6 (List.map kF [(1,1,0,0,0,0),(3,1,3,5,0,0),(1,2,0,0,0,0),(2,2,3,0,0,9),(4,1,0,1,0,0),(5,1,0,0,0,0),(2,2,3,0,5,0),(6,1,0,2,0,0)]) 0 0 true),(.map (bZ .i64 (fun y=>AV.agg (aD y)) gG) gG.length),(.arr 4 (List.map aB gH) 0 0 true)]⟩
def aC0 (v12002_1:aL) (v12002_2:aN) (aQJ:Ty6) (aQK:aW):St:=⟨mkT 73 [(1,(.hp 0 0))],[(.row [(.sl 2 (List.map aC v12002_1)),(.sl 3 (List.map aA v12002_2)),(.mp 1),(.ref 4 2 0 0 aQK.length .virt)]),(.map (bZ .i64 (fun y=>AV.agg (aD y)) aQJ) aQJ.length),(.arr 4 (List.map aB aQK) 0 0 true)]⟩
def O12_0 (y:(Sum (aL × aN × Ty6 × aW) (Bool))):GX:=match y with
 | .inl y=>.st (.exit 0) (aC0 y.1 y.2.1 y.2.2.1 y.2.2.2)
 | .inr y=>.fin (.bool y) []
def A12_0 (eN:Int × Int × Int × Int × Int × Int):Ans:=.row [(.int .i64 eN.1),(.int .i64 eN.2.1),(.int .u8 eN.2.2.1),(.int .i64 eN.2.2.2.1),(.int .i64 eN.2.2.2.2.1),(.int .i64 eN.2.2.2.2.2)]
def A12_1 (eB:Int × Int × aL × aN × Ty6 × aW):Ans:=.call ⟨true,[]⟩ (.tup [(.int .i64 eB.2.1),(.int .i64 eB.1)]) [(.row [(.sl 2 (List.map aC eB.2.2.1)),(.sl 3 (List.map aA eB.2.2.2.1)),(.mp 1),(.ref 4 2 1 0 eB.2.2.2.2.2.length .virt)]),(.map (bZ .i64 (fun y=>AV.agg (aD y)) eB.2.2.2.2.1) eB.2.2.2.2.1.length),(.arr 4 (List.map aB eB.2.2.2.2.2) 1 1 true)]
def aOL:Ans:=.call ⟨true,[]⟩ (.hp 0 0) [(.row [.nils,.nils,(.mp 1),.nils]),(.map (bZ .i64 (fun y=>AV.agg (aD y)) ([]:Ty6)) ([]:Ty6).length)]
def aPD:Ans:=.norm 2 ⟨[(1,[]),(27,[]),(28,[]),(29,[])],[⟨.tmp 1,[(0,2),(1,3)],none⟩,⟨.tmp 27,[],none⟩,⟨.cell 0 2,[],none⟩,⟨.cell 0 3,[],some 4⟩],true,[],[]⟩
def A12_4 (x2:aL × aN × Ty6 × aW) (x3:Int × Bool × Int × aL × Bool):Ans:=.call ⟨true,[]⟩ (.tup [(.agg [(.int .i64 x3.1),(.ref 2 3 0 0 x3.2.2.2.1.length .virt),(.bool x3.2.1),(.int .i64 x3.2.2.1)]),(.bool x3.2.2.2.2)]) [(.row [(.sl 2 (List.map aC x2.1)),(.sl 3 (List.map aA x2.2.1)),(.mp 1),(.ref 4 2 0 0 x2.2.2.2.length .virt)]),(.map (bZ .i64 (fun y=>AV.agg (aD y)) x2.2.2.1) x2.2.2.1.length),(.arr 4 (List.map aB x2.2.2.2) 0 0 true),(.arr 2 (List.map aC x3.2.2.2.1) 0 0 false)]
def A12_5 (x2:aL × aN × Ty6 × aW) (x4:Int):Ans:=.call ⟨true,[]⟩ (.int .i64 x4) [(.row [(.sl 2 (List.map aC x2.1)),(.sl 3 (List.map aA x2.2.1)),(.mp 1),(.ref 4 2 0 0 x2.2.2.2.length .virt)]),(.map (bZ .i64 (fun y=>AV.agg (aD y)) x2.2.2.1) x2.2.2.1.length),(.arr 4 (List.map aB x2.2.2.2) 0 0 true)]
theorem kL (y:(Sum (aL × aN × Ty6 × aW) (Bool))):∀(k:Nat) (gF:Int) (gX:aL) (gY:aN) (gG:Ty6) (gH:aW),iR k gF gX gY gG gH=some y→LT Try.prog X12 L12_0 (S12_0 gF gX gY gG gH) (O12_0 y)
 | 0,gF,gX,gY,gG,gH,h=>by cases h
 | k+1,gF,gX,gY,gG,gH,h=>by
  rw[iR] at h
  by_cases cL0:ltI gF 8=true
  · rw[if_pos cL0] at h
    by_cases cL1:inI gF 8=true
    · rw[if_pos cL1] at h
      obtain⟨eN,eL2,h⟩:=bsm h
      obtain⟨eB,eL3,h⟩:=bsm h
      by_cases cL4:eqI eB.2.1 eN.2.2.2.2.1=true
      · rw[if_pos cL4] at h
        by_cases cL5:eqI eB.1 eN.2.2.2.2.2=true
        · rw[if_pos cL5] at h
          exact LT.next aK (hs:=⟨[(1,[]),(27,[]),(28,[]),(29,[])],[⟨.tmp 1,[],none⟩,⟨.tmp 27,[],none⟩,⟨.cell 0 2,[],none⟩,⟨.cell 0 3,[],some 4⟩],true,[],[]⟩) (es:=none) [dt,(A12_0 eN),(A12_1 eB),df,df,df,df,df,df,.n eB.2.2.2.2.2.length,.rows (List.map aB eB.2.2.2.2.2)] [⟨(rfl:(List.map aB eB.2.2.2.2.2)=(List.map aB eB.2.2.2.2.2))⟩,⟨(rfl:eB.2.2.2.2.2.length=eB.2.2.2.2.2.length)⟩,⟨(zle eB.2.2.2.2.2.length)⟩,⟨(nF cL5)⟩,⟨(nF cL4)⟩,⟨(nF cL4)⟩,⟨(nF cL4)⟩,⟨(nF cL4)⟩,⟨(nF cL4)⟩,⟨(s9 k eN.1 eN.2.1 eN.2.2.1 eN.2.2.2.1 gX gY gG gH _ eL3)⟩,⟨(aI (e:=kF) eL2 6 0 6 (by decide))⟩,⟨cL1⟩,⟨cL0⟩] (by kernel_rfl) (kL y k (aO .i64 gF 1) eB.2.2.1 eB.2.2.2.1 eB.2.2.2.2.1 eB.2.2.2.2.2 h)
        rw[if_neg cL5] at h;replace cL5:=eqf cL5
        obtain rfl:=osi h
        show LT _ _ _ _ (.fin (.bool false) [])
        exact LT.done aK (hs:=⟨[],[],false,[],[]⟩) (es:=none) [dt,(A12_0 eN),(A12_1 eB),df,df,df,df,df,dt] [⟨(nT cL5)⟩,⟨(nF cL4)⟩,⟨(nF cL4)⟩,⟨(nF cL4)⟩,⟨(nF cL4)⟩,⟨(nF cL4)⟩,⟨(s9 k eN.1 eN.2.1 eN.2.2.1 eN.2.2.2.1 gX gY gG gH _ eL3)⟩,⟨(aI (e:=kF) eL2 6 0 6 (by decide))⟩,⟨cL1⟩,⟨cL0⟩] (by kernel_rfl) (fun s h=>by cases h)
      rw[if_neg cL4] at h;replace cL4:=eqf cL4
      obtain rfl:=osi h
      show LT _ _ _ _ (.fin (.bool false) [])
      exact LT.done aK (hs:=⟨[],[],false,[],[]⟩) (es:=none) [dt,(A12_0 eN),(A12_1 eB),dt,dt,dt,dt,dt,dt] [⟨rT⟩,⟨(nT cL4)⟩,⟨(nT cL4)⟩,⟨(nT cL4)⟩,⟨(nT cL4)⟩,⟨(nT cL4)⟩,⟨(s9 k eN.1 eN.2.1 eN.2.2.1 eN.2.2.2.1 gX gY gG gH _ eL3)⟩,⟨(aI (e:=kF) eL2 6 0 6 (by decide))⟩,⟨cL1⟩,⟨cL0⟩] (by kernel_rfl) (fun s h=>by cases h)
    rw[if_neg cL1] at h;replace cL1:=eqf cL1
    cases h
  rw[if_neg cL0] at h;replace cL0:=eqf cL0
  obtain rfl:=osi h
  show LT _ _ _ _ (.st (.exit 0) (aC0 gX gY gG gH))
  exact LT.done aK (hs:=⟨[],[],false,[],[]⟩) (es:=(some ⟨[(1,[])],[⟨.tmp 1,[],none⟩,⟨.cell 0 2,[],none⟩,⟨.cell 0 3,[],none⟩],true,[],[]⟩)) [df] [⟨cL0⟩] (by kernel_rfl) (fun s h=>by cases h)
theorem oE (k:Nat) (r:Bool) (h:sL k=some r):Tri Try.prog 12 [] [] (.bool r) []:=by
 unfold sL at h
 obtain⟨x1,e0,h⟩:=bsm h
 cases x1 with
 | inl x2 =>
  simp only[Sum.elim_inl] at h
  obtain⟨x3,e2,h⟩:=bsm h
  obtain⟨x4,e3,h⟩:=bsm h
  by_cases c4:eqI x4 0=true
  · rw[if_pos c4] at h
    by_cases c5:x3.2.2.2.2=true
    · rw[if_pos c5] at h
      by_cases c6:eqI x3.1 3=true
      · rw[if_pos c6] at h
        obtain⟨x5,e7,h⟩:=bsm h
        obtain rfl:=osi h
        exact Tri.of (x:=X12) aK aEW [aOL,df,aPD,.n 0,.rows (List.map aB []),.out (.st .normal (aC0 x2.1 x2.2.1 x2.2.2.1 x2.2.2.2)),(A12_4 x2 x3),(A12_5 x2 x4),dt,dt,dt,dt,dt,dt,dt,dt,.call ⟨true,[]⟩ (.ref 4 3 0 0 x2.2.2.2.length .virt) [(.row [(.sl 2 (List.map aC x2.1)),(.sl 3 (List.map aA x2.2.1)),(.mp 1),(.ref 4 2 0 0 x2.2.2.2.length .virt)]),(.map (bZ .i64 (fun y=>AV.agg (aD y)) x2.2.2.1) x2.2.2.1.length),(.arr 4 (List.map aB x2.2.2.2) 0 0 true),(.arr 4 (List.map aB x2.2.2.2) 0 0 false)],dt,dt,dt] [⟨c6⟩,⟨c6⟩,⟨c6⟩,⟨(aG5 k x2.1 x2.2.1 x2.2.2.1 x2.2.2.2 _ e7)⟩,⟨c6⟩,⟨c6⟩,⟨c5⟩,⟨c5⟩,⟨c5⟩,⟨c5⟩,⟨c4⟩,⟨c4⟩,⟨(lQ k 3 x2.1 x2.2.1 x2.2.2.1 x2.2.2.2 _ e3)⟩,⟨(jP k 1 x2.1 x2.2.1 x2.2.2.1 x2.2.2.2 _ e2)⟩,⟨(LT.block (kL _ k 0 [] [] ([]:Ty6) [] e0))⟩,⟨(bL aB (l:=[]) (n:=0) rfl)⟩,⟨(rfl:0=0)⟩,⟨(zle 0)⟩,⟨rF⟩,⟨(qC)⟩] (by kernel_rfl)
      rw[if_neg c6] at h;replace c6:=eqf c6
      obtain rfl:=osi h
      exact Tri.of (x:=X12) aK aEW [aOL,df,aPD,.n 0,.rows (List.map aB []),.out (.st .normal (aC0 x2.1 x2.2.1 x2.2.2.1 x2.2.2.2)),(A12_4 x2 x3),(A12_5 x2 x4),dt,dt,dt,dt,dt,dt,df,df,df,df,df] [⟨c6⟩,⟨c6⟩,⟨c6⟩,⟨c6⟩,⟨c6⟩,⟨c5⟩,⟨c5⟩,⟨c5⟩,⟨c5⟩,⟨c4⟩,⟨c4⟩,⟨(lQ k 3 x2.1 x2.2.1 x2.2.2.1 x2.2.2.2 _ e3)⟩,⟨(jP k 1 x2.1 x2.2.1 x2.2.2.1 x2.2.2.2 _ e2)⟩,⟨(LT.block (kL _ k 0 [] [] ([]:Ty6) [] e0))⟩,⟨(bL aB (l:=[]) (n:=0) rfl)⟩,⟨(rfl:0=0)⟩,⟨(zle 0)⟩,⟨rF⟩,⟨(qC)⟩] (by kernel_rfl)
    rw[if_neg c5] at h;replace c5:=eqf c5
    obtain rfl:=osi h
    exact Tri.of (x:=X12) aK aEW [aOL,df,aPD,.n 0,.rows (List.map aB []),.out (.st .normal (aC0 x2.1 x2.2.1 x2.2.2.1 x2.2.2.2)),(A12_4 x2 x3),(A12_5 x2 x4),dt,dt,df,df,df,df,df,df,df,df,df] [⟨rF⟩,⟨rF⟩,⟨rF⟩,⟨rF⟩,⟨rF⟩,⟨c5⟩,⟨c5⟩,⟨c5⟩,⟨c5⟩,⟨c4⟩,⟨c4⟩,⟨(lQ k 3 x2.1 x2.2.1 x2.2.2.1 x2.2.2.2 _ e3)⟩,⟨(jP k 1 x2.1 x2.2.1 x2.2.2.1 x2.2.2.2 _ e2)⟩,⟨(LT.block (kL _ k 0 [] [] ([]:Ty6) [] e0))⟩,⟨(bL aB (l:=[]) (n:=0) rfl)⟩,⟨(rfl:0=0)⟩,⟨(zle 0)⟩,⟨rF⟩,⟨(qC)⟩] (by kernel_rfl)
  rw[if_neg c4] at h;replace c4:=eqf c4
  obtain rfl:=osi h
  exact Tri.of (x:=X12) aK aEW [aOL,df,aPD,.n 0,.rows (List.map aB []),.out (.st .normal (aC0 x2.1 x2.2.1 x2.2.2.1 x2.2.2.2)),(A12_4 x2 x3),(A12_5 x2 x4),df,df,df,df,df,df,df,df,df,df,df] [⟨rF⟩,⟨rF⟩,⟨rF⟩,⟨rF⟩,⟨rF⟩,⟨rF⟩,⟨rF⟩,⟨rF⟩,⟨rF⟩,⟨c4⟩,⟨c4⟩,⟨(lQ k 3 x2.1 x2.2.1 x2.2.2.1 x2.2.2.2 _ e3)⟩,⟨(jP k 1 x2.1 x2.2.1 x2.2.2.1 x2.2.2.2 _ e2)⟩,⟨(LT.block (kL _ k 0 [] [] ([]:Ty6) [] e0))⟩,⟨(bL aB (l:=[]) (n:=0) rfl)⟩,⟨(rfl:0=0)⟩,⟨(zle 0)⟩,⟨rF⟩,⟨(qC)⟩] (by kernel_rfl)
 | inr x2 =>
  simp only[Sum.elim_inr] at h
  obtain rfl:=osi h
  exact Tri.of (x:=X12) aK aEW [aOL,df,aPD,.n 0,.rows (List.map aB []),.out (.fin (.bool x2) [])] [⟨(LT.blockFin (id:=0) (kL _ k 0 [] [] ([]:Ty6) [] e0))⟩,⟨(bL aB (l:=[]) (n:=0) rfl)⟩,⟨(rfl:0=0)⟩,⟨(zle 0)⟩,⟨rF⟩,⟨(qC)⟩] (by kernel_rfl)
end Go.Ws

namespace Go.Ws
open Go.Proofs
set_option linter.unusedSimpArgs false
set_option linter.unusedVariables false
set_option maxRecDepth 1000000
set_option maxHeartbeats 4000000
noncomputable def X26_8 (x1:aL) (x2:aN) (x3:Ty6) (x4:aW):Ctx:=⟨Try.f26,[(.row [(.sl 2 (List.map aC x1)),(.sl 3 (List.map aA x2)),(.mp 1),(.ref 4 2 0 0 x4.length .virt)]),(.map (bZ .i64 (fun y=>AV.agg (aD y)) x3) x3.length),(.arr 4 (List.map aB x4) 0 0 false)],false⟩
theorem dW (x1:aL) (x2:aN) (x3:Ty6) (x4:aW):Tri Try.prog 26 [(.hp 0 0)] [(.row [(.sl 2 (List.map aC x1)),(.sl 3 (List.map aA x2)),(.mp 1),(.ref 4 2 0 0 x4.length .virt)]),(.map (bZ .i64 (fun y=>AV.agg (aD y)) x3) x3.length),(.arr 4 (List.map aB x4) 0 0 false)] (.bool (!false)) [(.row [(.sl 2 (List.map aC x1)),(.sl 3 (List.map aA x2)),(.mp 1),(.ref 4 2 0 0 x4.length .virt)]),(.map (bZ .i64 (fun y=>AV.agg (aD y)) x3) x3.length),(.arr 4 (List.map aB x4) 0 0 false)]:=by
 obtain⟨r,h⟩:∃r,uS x1 x2 x3 x4=r:=⟨_,rfl⟩
 try rw[h]
 unfold uS at h
 obtain rfl:=h
 exact Tri.of (x:=(X26_8 x1 x2 x3 x4)) aK aSM [dt,dt,dt,dt,dt,dt,.norm 0 ⟨[(2,[])],[],false,[],[]⟩] [⟨(nT rfl)⟩,⟨(nT rfl)⟩,⟨(nT rfl)⟩,⟨(nT rfl)⟩,⟨(nT rfl)⟩,⟨(nT rfl)⟩] (by kernel_rfl)
end Go.Ws

namespace Go.Ws
open Go.Proofs
set_option linter.unusedSimpArgs false
set_option linter.unusedVariables false
set_option maxRecDepth 1000000
set_option maxHeartbeats 4000000
noncomputable def X21_1 (x1:aL) (x2:aN) (x3:Ty6) (x4:aW):Ctx:=⟨Try.f21,[(.row [(.sl 2 (List.map aC x1)),(.sl 3 (List.map aA x2)),(.mp 1),(.ref 4 2 0 0 x4.length .virt)]),(.map (bZ .i64 (fun y=>AV.agg (aD y)) x3) x3.length),(.arr 4 (List.map aB x4) 0 0 false)],false⟩
theorem lY (k:Nat) (x1:aL) (x2:aN) (x3:Ty6) (x4:aW) (r:Unit) (h:mH k x1 x2 x3 x4=some r):Tri Try.prog 21 [(.hp 0 0)] [(.row [(.sl 2 (List.map aC x1)),(.sl 3 (List.map aA x2)),(.mp 1),(.ref 4 2 0 0 x4.length .virt)]),(.map (bZ .i64 (fun y=>AV.agg (aD y)) x3) x3.length),(.arr 4 (List.map aB x4) 0 0 false)] (.ref 4 3 0 0 x4.length .virt) [(.row [(.sl 2 (List.map aC x1)),(.sl 3 (List.map aA x2)),(.mp 1),(.ref 4 2 0 0 x4.length .virt)]),(.map (bZ .i64 (fun y=>AV.agg (aD y)) x3) x3.length),(.arr 4 (List.map aB x4) 0 0 true),(.arr 4 (List.map aB x4) 0 0 false)]:=by
 unfold mH at h
 obtain⟨x5,e0,h⟩:=bsm h
 obtain rfl:=osi h
 exact Tri.of (x:=(X21_1 x1 x2 x3 x4)) aK aTH [.call ⟨true,[]⟩ (.bool (!false)) [(.row [(.sl 2 (List.map aC x1)),(.sl 3 (List.map aA x2)),(.mp 1),(.ref 4 2 0 0 x4.length .virt)]),(.map (bZ .i64 (fun y=>AV.agg (aD y)) x3) x3.length),(.arr 4 (List.map aB x4) 0 0 false)],df,.call ⟨true,[]⟩ (.ref 4 0 0 0 x4.length .virt) [(.arr 4 (List.map aB x4) 0 0 false)],.rows (List.map aB x4),.norm 0 ⟨[(2,[])],[⟨.tmp 2,[],none⟩],false,[],[]⟩] [⟨(w9 k x4 _ e0)⟩,⟨(aQ aB (l:=x4) (n:=x4.length) rfl)⟩,⟨(a9 aB (Nat.le_refl x4.length):0+x4.length≤(List.map aB x4).length)⟩,⟨(nF (nT rfl))⟩,⟨(dW x1 x2 x3 x4)⟩] (by kernel_rfl)
end Go.Ws

namespace Go.Ws
open Go.Proofs
set_option linter.unusedSimpArgs false
set_option linter.unusedVariables false
set_option maxRecDepth 1000000
set_option maxHeartbeats 4000000
noncomputable def X18 (x5:aL) (x6:aN) (x7:Ty6) (x8:aW):Ctx:=⟨Try.f18,[(.row [(.sl 2 (List.map aC x5)),(.sl 3 (List.map aA x6)),(.mp 1),(.ref 4 2 0 0 x8.length .virt)]),(.map (bZ .i64 (fun y=>AV.agg (aD y)) x7) x7.length),(.arr 4 (List.map aB x8) 0 0 false)],false⟩
noncomputable def L18_2:Code:=at_ Try.f18 [1,1,1,1,1,0,1,4,5]
def S18_2 (x3:Ty7) (x5:aL) (x6:aN) (x7:Ty6) (x8:aW) (eC:Int):St:=⟨mkT 72 [(0,(.hp 0 0)),(49,(.sl 5 (List.map aE x3))),(50,(.int .i64 (nI x3.length))),(51,(.int .i64 eC))],[(.row [(.sl 2 (List.map aC x5)),(.sl 3 (List.map aA x6)),(.mp 1),(.ref 4 2 0 0 x8.length .virt)]),(.map (bZ .i64 (fun y=>AV.agg (aD y)) x7) x7.length),(.arr 4 (List.map aB x8) 0 0 true)]⟩
def aMR (x5:aL) (x6:aN) (x7:Ty6) (x8:aW):St:=⟨mkT 72 [],[(.row [(.sl 2 (List.map aC x5)),(.sl 3 (List.map aA x6)),(.mp 1),(.ref 4 2 0 0 x8.length .virt)]),(.map (bZ .i64 (fun y=>AV.agg (aD y)) x7) x7.length),(.arr 4 (List.map aB x8) 0 0 true)]⟩
def O18_2 (x3:Ty7) (x5:aL) (x6:aN) (x7:Ty6) (x8:aW) (y:pO):GX:=match y with
 | .inl y=>.st (.exit 4) (aMR x5 x6 x7 x8)
 | .inr y=>.fin (.bool y) [(.row [(.sl 2 (List.map aC x5)),(.sl 3 (List.map aA x6)),(.mp 1),(.ref 4 2 0 0 x8.length .virt)]),(.map (bZ .i64 (fun y=>AV.agg (aD y)) x7) x7.length),(.arr 4 (List.map aB x8) 0 0 true)]
noncomputable def L18_1:Code:=at_ Try.f18 [1,1,1,1,0,1,4,5]
def S18_1 (x1:aL) (x2:aN) (x3:Ty7) (x4:aW) (x5:aL) (x6:aN) (x7:Ty6) (x8:aW) (dO:Int):St:=⟨mkT 72 [(0,(.hp 0 0)),(3,(.hp 3 0)),(36,(.int .u8 dO))],[(.row [(.sl 2 (List.map aC x5)),(.sl 3 (List.map aA x6)),(.mp 1),(.ref 4 2 0 0 x8.length .virt)]),(.map (bZ .i64 (fun y=>AV.agg (aD y)) x7) x7.length),(.arr 4 (List.map aB x8) 0 0 true),(.row [(.sl 2 (List.map aC x1)),(.sl 3 (List.map aA x2)),(.sl 5 (List.map aE x3)),(.sl 4 (List.map aB x4))])]⟩
def aIF (x1:aL) (x2:aN) (x3:Ty7) (x4:aW) (x5:aL) (x6:aN) (x7:Ty6) (x8:aW):St:=⟨mkT 72 [(0,(.hp 0 0)),(3,(.hp 3 0))],[(.row [(.sl 2 (List.map aC x5)),(.sl 3 (List.map aA x6)),(.mp 1),(.ref 4 2 0 0 x8.length .virt)]),(.map (bZ .i64 (fun y=>AV.agg (aD y)) x7) x7.length),(.arr 4 (List.map aB x8) 0 0 true),(.row [(.sl 2 (List.map aC x1)),(.sl 3 (List.map aA x2)),(.sl 5 (List.map aE x3)),(.sl 4 (List.map aB x4))])]⟩
def O18_1 (x1:aL) (x2:aN) (x3:Ty7) (x4:aW) (x5:aL) (x6:aN) (x7:Ty6) (x8:aW) (y:pO):GX:=match y with
 | .inl y=>.st (.exit 2) (aIF x1 x2 x3 x4 x5 x6 x7 x8)
 | .inr y=>.fin (.bool y) [(.row [(.sl 2 (List.map aC x5)),(.sl 3 (List.map aA x6)),(.mp 1),(.ref 4 2 0 0 x8.length .virt)]),(.map (bZ .i64 (fun y=>AV.agg (aD y)) x7) x7.length),(.arr 4 (List.map aB x8) 0 0 true)]
noncomputable def L18_0:Code:=at_ Try.f18 [1,1,1,0,1,4,5]
def S18_0 (x1:aL) (x2:aN) (x3:Ty7) (x4:aW) (x5:aL) (x6:aN) (x7:Ty6) (x8:aW) (cZ:Int):St:=⟨mkT 72 [(0,(.hp 0 0)),(3,(.hp 3 0)),(5,(.ref 4 4 0 0 x8.length .virt)),(21,(.int .i64 (nI x8.length))),(22,(.int .i64 cZ))],[(.row [(.sl 2 (List.map aC x5)),(.sl 3 (List.map aA x6)),(.mp 1),(.ref 4 2 0 0 x8.length .virt)]),(.map (bZ .i64 (fun y=>AV.agg (aD y)) x7) x7.length),(.arr 4 (List.map aB x8) 0 0 true),(.row [(.sl 2 (List.map aC x1)),(.sl 3 (List.map aA x2)),(.sl 5 (List.map aE x3)),(.sl 4 (List.map aB x4))]),(.arr 4 (List.map aB x8) 0 0 true)]⟩
def aEQ (x1:aL) (x2:aN) (x3:Ty7) (x4:aW) (x5:aL) (x6:aN) (x7:Ty6) (x8:aW):St:=⟨mkT 72 [(0,(.hp 0 0)),(3,(.hp 3 0))],[(.row [(.sl 2 (List.map aC x5)),(.sl 3 (List.map aA x6)),(.mp 1),(.ref 4 2 0 0 x8.length .virt)]),(.map (bZ .i64 (fun y=>AV.agg (aD y)) x7) x7.length),(.arr 4 (List.map aB x8) 0 0 true),(.row [(.sl 2 (List.map aC x1)),(.sl 3 (List.map aA x2)),(.sl 5 (List.map aE x3)),(.sl 4 (List.map aB x4))])]⟩
def O18_0 (x1:aL) (x2:aN) (x3:Ty7) (x4:aW) (x5:aL) (x6:aN) (x7:Ty6) (x8:aW) (y:pO):GX:=match y with
 | .inl y=>.st (.exit 0) (aEQ x1 x2 x3 x4 x5 x6 x7 x8)
 | .inr y=>.fin (.bool y) [(.row [(.sl 2 (List.map aC x5)),(.sl 3 (List.map aA x6)),(.mp 1),(.ref 4 2 0 0 x8.length .virt)]),(.map (bZ .i64 (fun y=>AV.agg (aD y)) x7) x7.length),(.arr 4 (List.map aB x8) 0 0 true)]
def A18_0 (eD:Int × Int × aL × Bool × Int):Ans:=.row [(.int .i64 eD.1),(.int .i64 eD.2.1),(.sl 2 (List.map aC eD.2.2.1)),(.bool eD.2.2.2.1),(.int .i64 eD.2.2.2.2)]
def A18_1 (x5:aL) (x6:aN) (x7:Ty6) (x8:aW) (cA:Int × Bool × Int × aL × Bool):Ans:=.call ⟨true,[]⟩ (.tup [(.agg [(.int .i64 cA.1),(.ref 2 3 0 0 cA.2.2.2.1.length .virt),(.bool cA.2.1),(.int .i64 cA.2.2.1)]),(.bool cA.2.2.2.2)]) [(.row [(.sl 2 (List.map aC x5)),(.sl 3 (List.map aA x6)),(.mp 1),(.ref 4 2 0 0 x8.length .virt)]),(.map (bZ .i64 (fun y=>AV.agg (aD y)) x7) x7.length),(.arr 4 (List.map aB x8) 0 0 true),(.arr 2 (List.map aC cA.2.2.2.1) 0 0 false)]
def aPT (eR:Int × Int × Int × Int):Ans:=.row [(.int .i64 eR.1),(.int .i64 eR.2.1),(.int .u8 eR.2.2.1),(.int .i64 eR.2.2.2)]
def aOQ (eS:Int × Int × Int × Int):Ans:=.row [(.int .i64 eS.1),(.int .i64 eS.2.1),(.int .u8 eS.2.2.1),(.int .i64 eS.2.2.2)]
def aPB (x5:aL) (x6:aN) (x7:Ty6) (x8:aW):Ans:=.call ⟨true,[]⟩ (.ref 4 3 0 0 x8.length .virt) [(.row [(.sl 2 (List.map aC x5)),(.sl 3 (List.map aA x6)),(.mp 1),(.ref 4 2 0 0 x8.length .virt)]),(.map (bZ .i64 (fun y=>AV.agg (aD y)) x7) x7.length),(.arr 4 (List.map aB x8) 0 0 true),(.arr 4 (List.map aB x8) 0 0 false)]
def A18_5:Ans:=.norm 2 ⟨[(0,[]),(3,[]),(5,[]),(21,[]),(22,[])],[⟨.tmp 3,[],none⟩,⟨.tmp 5,[],none⟩],true,[],[]⟩
def A18_6:Ans:=.norm 8 ⟨[(0,[]),(3,[]),(36,[])],[⟨.tmp 3,[],none⟩],true,[],[]⟩
theorem uE (x3:Ty7) (x5:aL) (x6:aN) (x7:Ty6) (x8:aW) (y:pO):∀(k:Nat) (eC:Int),hO k x3 x5 x6 x7 x8 eC=some y→LT Try.prog (X18 x5 x6 x7 x8) L18_2 (S18_2 x3 x5 x6 x7 x8 eC) (O18_2 x3 x5 x6 x7 x8 y)
 | 0,eC,h=>by cases h
 | k+1,eC,h=>by
  rw[hO] at h
  by_cases cL0:ltI eC (nI x3.length)=true
  · rw[if_pos cL0] at h
    by_cases cL1:inI eC x3.length=true
    · rw[if_pos cL1] at h
      obtain⟨eD,eL2,h⟩:=bsm h
      obtain⟨cA,eL3,h⟩:=bsm h
      by_cases cL4:cA.2.2.2.2=true
      · rw[if_pos cL4] at h
        obtain⟨yG,eL5,h⟩:=bsm h
        by_cases cL6:yG=true
        · rw[if_pos cL6] at h
          exact LT.next aK (hs:=⟨[(0,[]),(49,[]),(50,[]),(51,[])],[],true,[],[]⟩) (es:=none) [dt,.n x3.length,(A18_0 eD),(A18_1 x5 x6 x7 x8 cA),df,df,df,df,.call ⟨true,[]⟩ (.bool yG) [],.rows (List.map aC cA.2.2.2.1),df,df,df] [⟨(nF cL6)⟩,⟨(nF cL4)⟩,⟨(nF cL4)⟩,⟨(aDR k cA.1 cA.2.2.2.1 cA.2.1 cA.2.2.1 eD.2.1 eD.2.2.1 eD.2.2.2.1 eD.2.2.2.2 _ eL5)⟩,⟨(aQ aC (l:=cA.2.2.2.1) (n:=cA.2.2.2.1.length) rfl)⟩,⟨(a9 aC (Nat.le_refl cA.2.2.2.1.length):0+cA.2.2.2.1.length≤(List.map aC cA.2.2.2.1).length)⟩,⟨(nF cL4)⟩,⟨(nF cL4)⟩,⟨(nF cL4)⟩,⟨(nF cL4)⟩,⟨(jP k eD.1 x5 x6 x7 x8 _ eL3)⟩,⟨(aI (e:=aE) eL2 5 0 5 (by decide))⟩,⟨cL1⟩,⟨(aG aE x3)⟩,⟨cL0⟩] (by kernel_rfl) (uE x3 x5 x6 x7 x8 y k (aO .i64 eC 1) h)
        rw[if_neg cL6] at h;replace cL6:=eqf cL6
        obtain rfl:=osi h
        show LT _ _ _ _ (.fin (.bool false) [(.row [(.sl 2 (List.map aC x5)),(.sl 3 (List.map aA x6)),(.mp 1),(.ref 4 2 0 0 x8.length .virt)]),(.map (bZ .i64 (fun y=>AV.agg (aD y)) x7) x7.length),(.arr 4 (List.map aB x8) 0 0 true)])
        exact LT.done aK (hs:=⟨[],[],false,[],[]⟩) (es:=none) [dt,.n x3.length,(A18_0 eD),(A18_1 x5 x6 x7 x8 cA),df,df,df,df,.call ⟨true,[]⟩ (.bool yG) [],.rows (List.map aC cA.2.2.2.1),df,df,dt,.norm 0 ⟨[(4,[])],[],false,[],[]⟩] [⟨(nT cL6)⟩,⟨(nF cL4)⟩,⟨(nF cL4)⟩,⟨(aDR k cA.1 cA.2.2.2.1 cA.2.1 cA.2.2.1 eD.2.1 eD.2.2.1 eD.2.2.2.1 eD.2.2.2.2 _ eL5)⟩,⟨(aQ aC (l:=cA.2.2.2.1) (n:=cA.2.2.2.1.length) rfl)⟩,⟨(a9 aC (Nat.le_refl cA.2.2.2.1.length):0+cA.2.2.2.1.length≤(List.map aC cA.2.2.2.1).length)⟩,⟨(nF cL4)⟩,⟨(nF cL4)⟩,⟨(nF cL4)⟩,⟨(nF cL4)⟩,⟨(jP k eD.1 x5 x6 x7 x8 _ eL3)⟩,⟨(aI (e:=aE) eL2 5 0 5 (by decide))⟩,⟨cL1⟩,⟨(aG aE x3)⟩,⟨cL0⟩] (by kernel_rfl) (fun s h=>by cases h)
      rw[if_neg cL4] at h;replace cL4:=eqf cL4
      obtain rfl:=osi h
      show LT _ _ _ _ (.fin (.bool false) [(.row [(.sl 2 (List.map aC x5)),(.sl 3 (List.map aA x6)),(.mp 1),(.ref 4 2 0 0 x8.length .virt)]),(.map (bZ .i64 (fun y=>AV.agg (aD y)) x7) x7.length),(.arr 4 (List.map aB x8) 0 0 true)])
      exact LT.done aK (hs:=⟨[],[],false,[],[]⟩) (es:=none) [dt,.n x3.length,(A18_0 eD),(A18_1 x5 x6 x7 x8 cA),dt,dt,dt,dt,dt,dt,dt,.norm 0 ⟨[(4,[])],[],false,[],[]⟩] [⟨rT⟩,⟨(nT cL4)⟩,⟨(nT cL4)⟩,⟨(nT cL4)⟩,⟨(nT cL4)⟩,⟨(nT cL4)⟩,⟨(nT cL4)⟩,⟨(jP k eD.1 x5 x6 x7 x8 _ eL3)⟩,⟨(aI (e:=aE) eL2 5 0 5 (by decide))⟩,⟨cL1⟩,⟨(aG aE x3)⟩,⟨cL0⟩] (by kernel_rfl) (fun s h=>by cases h)
    rw[if_neg cL1] at h;replace cL1:=eqf cL1
    cases h
  rw[if_neg cL0] at h;replace cL0:=eqf cL0
  obtain rfl:=osi h
  show LT _ _ _ _ (.st (.exit 4) (aMR x5 x6 x7 x8))
  exact LT.done aK (hs:=⟨[],[],false,[],[]⟩) (es:=(some ⟨[],[],true,[],[]⟩)) [df] [⟨cL0⟩] (by kernel_rfl) (fun s h=>by cases h)
theorem qP (x1:aL) (x2:aN) (x3:Ty7) (x4:aW) (x5:aL) (x6:aN) (x7:Ty6) (x8:aW) (y:pO):∀(k:Nat) (dO:Int),hZ k x1 x2 x3 x4 x5 x6 x7 x8 dO=some y→LT Try.prog (X18 x5 x6 x7 x8) L18_1 (S18_1 x1 x2 x3 x4 x5 x6 x7 x8 dO) (O18_1 x1 x2 x3 x4 x5 x6 x7 x8 y)
 | 0,dO,h=>by cases h
 | k+1,dO,h=>by
  rw[hZ] at h
  by_cases cL0:ltI dO 66=true
  · rw[if_pos cL0] at h
    obtain⟨yH,eL1,h⟩:=bsm h
    obtain⟨yI,eL2,h⟩:=bsm h
    by_cases cL3:eqI yH yI=true
    · rw[if_pos cL3] at h
      exact LT.next aK (hs:=⟨[(0,[]),(3,[]),(36,[])],[⟨.tmp 3,[],none⟩],true,[],[]⟩) (es:=none) [dt,.call ⟨true,[]⟩ (.int .i64 yH) [(.row [(.sl 2 (List.map aC x5)),(.sl 3 (List.map aA x6)),(.mp 1),(.ref 4 2 0 0 x8.length .virt)]),(.map (bZ .i64 (fun y=>AV.agg (aD y)) x7) x7.length),(.arr 4 (List.map aB x8) 0 0 true)],.call ⟨true,[]⟩ (.int .i64 yI) [],df] [⟨(nF cL3)⟩,⟨(aA6 k x1 dO _ eL2)⟩,⟨(lQ k dO x5 x6 x7 x8 _ eL1)⟩,⟨cL0⟩] (by kernel_rfl) (qP x1 x2 x3 x4 x5 x6 x7 x8 y k (aO .u8 dO 1) h)
    rw[if_neg cL3] at h;replace cL3:=eqf cL3
    obtain rfl:=osi h
    show LT _ _ _ _ (.fin (.bool false) [(.row [(.sl 2 (List.map aC x5)),(.sl 3 (List.map aA x6)),(.mp 1),(.ref 4 2 0 0 x8.length .virt)]),(.map (bZ .i64 (fun y=>AV.agg (aD y)) x7) x7.length),(.arr 4 (List.map aB x8) 0 0 true)])
    exact LT.done aK (hs:=⟨[],[],false,[],[]⟩) (es:=none) [dt,.call ⟨true,[]⟩ (.int .i64 yH) [(.row [(.sl 2 (List.map aC x5)),(.sl 3 (List.map aA x6)),(.mp 1),(.ref 4 2 0 0 x8.length .virt)]),(.map (bZ .i64 (fun y=>AV.agg (aD y)) x7) x7.length),(.arr 4 (List.map aB x8) 0 0 true)],.call ⟨true,[]⟩ (.int .i64 yI) [],dt,.norm 0 ⟨[(4,[])],[],false,[],[]⟩] [⟨(nT cL3)⟩,⟨(aA6 k x1 dO _ eL2)⟩,⟨(lQ k dO x5 x6 x7 x8 _ eL1)⟩,⟨cL0⟩] (by kernel_rfl) (fun s h=>by cases h)
  rw[if_neg cL0] at h;replace cL0:=eqf cL0
  obtain rfl:=osi h
  show LT _ _ _ _ (.st (.exit 2) (aIF x1 x2 x3 x4 x5 x6 x7 x8))
  exact LT.done aK (hs:=⟨[],[],false,[],[]⟩) (es:=(some ⟨[(0,[]),(3,[])],[⟨.tmp 3,[],none⟩],true,[],[]⟩)) [df] [⟨cL0⟩] (by kernel_rfl) (fun s h=>by cases h)
theorem nW (x1:aL) (x2:aN) (x3:Ty7) (x4:aW) (x5:aL) (x6:aN) (x7:Ty6) (x8:aW) (y:pO):∀(k:Nat) (cZ:Int),hX k x1 x2 x3 x4 x5 x6 x7 x8 cZ=some y→LT Try.prog (X18 x5 x6 x7 x8) L18_0 (S18_0 x1 x2 x3 x4 x5 x6 x7 x8 cZ) (O18_0 x1 x2 x3 x4 x5 x6 x7 x8 y)
 | 0,cZ,h=>by cases h
 | k+1,cZ,h=>by
  rw[hX] at h
  by_cases cL0:ltI cZ (nI x8.length)=true
  · rw[if_pos cL0] at h
    by_cases cL1:inI cZ x8.length=true
    · rw[if_pos cL1] at h
      obtain⟨eR,eL2,h⟩:=bsm h
      by_cases cL3:inI cZ x4.length=true
      · rw[if_pos cL3] at h
        obtain⟨eS,eL4,h⟩:=bsm h
        by_cases cL5:eqI eR.1 eS.1=true
        · rw[if_pos cL5] at h
          by_cases cL6:eqI eR.2.1 eS.2.1=true
          · rw[if_pos cL6] at h
            by_cases cL7:eqI eR.2.2.1 eS.2.2.1=true
            · rw[if_pos cL7] at h
              by_cases cL8:eqI eR.2.2.2 eS.2.2.2=true
              · rw[if_pos cL8] at h
                exact LT.next aK (hs:=⟨[(0,[]),(3,[]),(5,[]),(21,[]),(22,[])],[⟨.tmp 3,[],none⟩,⟨.tmp 5,[],none⟩],true,[],[]⟩) (es:=none) [dt,(aPT eR),.n x4.length,(aOQ eS),df] [⟨(nF (aT cL5 (aT cL6 (aT cL7 cL8))))⟩,⟨(aI (e:=aB) eL4 4 0 4 (by decide))⟩,⟨cL3⟩,⟨(aG aB x4)⟩,⟨(aI (e:=aB) eL2 4 0 4 (by decide))⟩,⟨cL1⟩,⟨cL0⟩] (by kernel_rfl) (nW x1 x2 x3 x4 x5 x6 x7 x8 y k (aO .i64 cZ 1) h)
              rw[if_neg cL8] at h;replace cL8:=eqf cL8
              obtain rfl:=osi h
              show LT _ _ _ _ (.fin (.bool false) [(.row [(.sl 2 (List.map aC x5)),(.sl 3 (List.map aA x6)),(.mp 1),(.ref 4 2 0 0 x8.length .virt)]),(.map (bZ .i64 (fun y=>AV.agg (aD y)) x7) x7.length),(.arr 4 (List.map aB x8) 0 0 true)])
              exact LT.done aK (hs:=⟨[],[],false,[],[]⟩) (es:=none) [dt,(aPT eR),.n x4.length,(aOQ eS),dt,.norm 0 ⟨[(4,[])],[],false,[],[]⟩] [⟨(nT (aF2 cL5 (aF2 cL6 (aF2 cL7 cL8))))⟩,⟨(aI (e:=aB) eL4 4 0 4 (by decide))⟩,⟨cL3⟩,⟨(aG aB x4)⟩,⟨(aI (e:=aB) eL2 4 0 4 (by decide))⟩,⟨cL1⟩,⟨cL0⟩] (by kernel_rfl) (fun s h=>by cases h)
            rw[if_neg cL7] at h;replace cL7:=eqf cL7
            obtain rfl:=osi h
            show LT _ _ _ _ (.fin (.bool false) [(.row [(.sl 2 (List.map aC x5)),(.sl 3 (List.map aA x6)),(.mp 1),(.ref 4 2 0 0 x8.length .virt)]),(.map (bZ .i64 (fun y=>AV.agg (aD y)) x7) x7.length),(.arr 4 (List.map aB x8) 0 0 true)])
            exact LT.done aK (hs:=⟨[],[],false,[],[]⟩) (es:=none) [dt,(aPT eR),.n x4.length,(aOQ eS),dt,.norm 0 ⟨[(4,[])],[],false,[],[]⟩] [⟨(nT (aF2 cL5 (aF2 cL6 (aF1 (b:=eqI eR.2.2.2 eS.2.2.2) cL7))))⟩,⟨(aI (e:=aB) eL4 4 0 4 (by decide))⟩,⟨cL3⟩,⟨(aG aB x4)⟩,⟨(aI (e:=aB) eL2 4 0 4 (by decide))⟩,⟨cL1⟩,⟨cL0⟩] (by kernel_rfl) (fun s h=>by cases h)
          rw[if_neg cL6] at h;replace cL6:=eqf cL6
          obtain rfl:=osi h
          show LT _ _ _ _ (.fin (.bool false) [(.row [(.sl 2 (List.map aC x5)),(.sl 3 (List.map aA x6)),(.mp 1),(.ref 4 2 0 0 x8.length .virt)]),(.map (bZ .i64 (fun y=>AV.agg (aD y)) x7) x7.length),(.arr 4 (List.map aB x8) 0 0 true)])
          exact LT.done aK (hs:=⟨[],[],false,[],[]⟩) (es:=none) [dt,(aPT eR),.n x4.length,(aOQ eS),dt,.norm 0 ⟨[(4,[])],[],false,[],[]⟩] [⟨(nT (aF2 cL5 (aF1 (b:=(eqI eR.2.2.1 eS.2.2.1 && eqI eR.2.2.2 eS.2.2.2)) cL6)))⟩,⟨(aI (e:=aB) eL4 4 0 4 (by decide))⟩,⟨cL3⟩,⟨(aG aB x4)⟩,⟨(aI (e:=aB) eL2 4 0 4 (by decide))⟩,⟨cL1⟩,⟨cL0⟩] (by kernel_rfl) (fun s h=>by cases h)
        rw[if_neg cL5] at h;replace cL5:=eqf cL5
        obtain rfl:=osi h
        show LT _ _ _ _ (.fin (.bool false) [(.row [(.sl 2 (List.map aC x5)),(.sl 3 (List.map aA x6)),(.mp 1),(.ref 4 2 0 0 x8.length .virt)]),(.map (bZ .i64 (fun y=>AV.agg (aD y)) x7) x7.length),(.arr 4 (List.map aB x8) 0 0 true)])
        exact LT.done aK (hs:=⟨[],[],false,[],[]⟩) (es:=none) [dt,(aPT eR),.n x4.length,(aOQ eS),dt,.norm 0 ⟨[(4,[])],[],false,[],[]⟩] [⟨(nT (aF1 (b:=(eqI eR.2.1 eS.2.1 && (eqI eR.2.2.1 eS.2.2.1 && eqI eR.2.2.2 eS.2.2.2))) cL5))⟩,⟨(aI (e:=aB) eL4 4 0 4 (by decide))⟩,⟨cL3⟩,⟨(aG aB x4)⟩,⟨(aI (e:=aB) eL2 4 0 4 (by decide))⟩,⟨cL1⟩,⟨cL0⟩] (by kernel_rfl) (fun s h=>by cases h)
      rw[if_neg cL3] at h;replace cL3:=eqf cL3
      cases h
    rw[if_neg cL1] at h;replace cL1:=eqf cL1
    cases h
  rw[if_neg cL0] at h;replace cL0:=eqf cL0
  obtain rfl:=osi h
  show LT _ _ _ _ (.st (.exit 0) (aEQ x1 x2 x3 x4 x5 x6 x7 x8))
  exact LT.done aK (hs:=⟨[],[],false,[],[]⟩) (es:=(some ⟨[(0,[]),(3,[])],[⟨.tmp 3,[],none⟩],true,[],[]⟩)) [df] [⟨cL0⟩] (by kernel_rfl) (fun s h=>by cases h)
theorem aKW (k:Nat) (x1:aL) (x2:aN) (x3:Ty7) (x4:aW) (x5:aL) (x6:aN) (x7:Ty6) (x8:aW) (r:Bool) (h:uX k x1 x2 x3 x4 x5 x6 x7 x8=some r):Tri Try.prog 18 [(.hp 0 0),(.agg [(.sl 2 (List.map aC x1)),(.sl 3 (List.map aA x2)),(.sl 5 (List.map aE x3)),(.sl 4 (List.map aB x4))])] [(.row [(.sl 2 (List.map aC x5)),(.sl 3 (List.map aA x6)),(.mp 1),(.ref 4 2 0 0 x8.length .virt)]),(.map (bZ .i64 (fun y=>AV.agg (aD y)) x7) x7.length),(.arr 4 (List.map aB x8) 0 0 false)] (.bool r) [(.row [(.sl 2 (List.map aC x5)),(.sl 3 (List.map aA x6)),(.mp 1),(.ref 4 2 0 0 x8.length .virt)]),(.map (bZ .i64 (fun y=>AV.agg (aD y)) x7) x7.length),(.arr 4 (List.map aB x8) 0 0 true)]:=by
 unfold uX at h
 obtain⟨x9,e0,h⟩:=bsm h
 by_cases c1:eqI (nI x8.length) (nI x4.length)=true
 · rw[if_pos c1] at h
   obtain⟨x10,e2,h⟩:=bsm h
   cases x10 with
   | inl x11 =>
    simp only[Sum.elim_inl] at h
    obtain⟨x12,e4,h⟩:=bsm h
    cases x12 with
    | inl x13 =>
     simp only[Sum.elim_inl] at h
     obtain⟨x14,e6,h⟩:=bsm h
     cases x14 with
     | inl x15 =>
      simp only[Sum.elim_inl] at h
      obtain rfl:=osi h
      exact Tri.of (x:=(X18 x5 x6 x7 x8)) aK aGJ [(aPB x5 x6 x7 x8),.n x4.length,df,A18_5,.out (.st .normal (aEQ x1 x2 x3 x4 x5 x6 x7 x8)),A18_6,.out (.st .normal (aIF x1 x2 x3 x4 x5 x6 x7 x8)),.n x3.length,.norm 14 ⟨[(0,[]),(49,[]),(50,[]),(51,[])],[],true,[],[]⟩,.out (.st .normal (aMR x5 x6 x7 x8)),.norm 0 ⟨[(4,[])],[],false,[],[]⟩] [⟨(LT.block (uE x3 x5 x6 x7 x8 _ k 0 e6))⟩,⟨(aG aE x3)⟩,⟨(LT.block (qP x1 x2 x3 x4 x5 x6 x7 x8 _ k 0 e4))⟩,⟨(LT.block (nW x1 x2 x3 x4 x5 x6 x7 x8 _ k 0 e2))⟩,⟨(nF c1)⟩,⟨(aG aB x4)⟩,⟨(lY k x5 x6 x7 x8 _ e0)⟩] (by kernel_rfl)
     | inr x15 =>
      simp only[Sum.elim_inr] at h
      obtain rfl:=osi h
      exact Tri.of (x:=(X18 x5 x6 x7 x8)) aK aGJ [(aPB x5 x6 x7 x8),.n x4.length,df,A18_5,.out (.st .normal (aEQ x1 x2 x3 x4 x5 x6 x7 x8)),A18_6,.out (.st .normal (aIF x1 x2 x3 x4 x5 x6 x7 x8)),.n x3.length,.norm 14 ⟨[(0,[]),(49,[]),(50,[]),(51,[])],[],true,[],[]⟩,.out (.fin (.bool x15) [(.row [(.sl 2 (List.map aC x5)),(.sl 3 (List.map aA x6)),(.mp 1),(.ref 4 2 0 0 x8.length .virt)]),(.map (bZ .i64 (fun y=>AV.agg (aD y)) x7) x7.length),(.arr 4 (List.map aB x8) 0 0 true)])] [⟨(LT.blockFin (id:=4) (uE x3 x5 x6 x7 x8 _ k 0 e6))⟩,⟨(aG aE x3)⟩,⟨(LT.block (qP x1 x2 x3 x4 x5 x6 x7 x8 _ k 0 e4))⟩,⟨(LT.block (nW x1 x2 x3 x4 x5 x6 x7 x8 _ k 0 e2))⟩,⟨(nF c1)⟩,⟨(aG aB x4)⟩,⟨(lY k x5 x6 x7 x8 _ e0)⟩] (by kernel_rfl)
    | inr x13 =>
     simp only[Sum.elim_inr] at h
     obtain rfl:=osi h
     exact Tri.of (x:=(X18 x5 x6 x7 x8)) aK aGJ [(aPB x5 x6 x7 x8),.n x4.length,df,A18_5,.out (.st .normal (aEQ x1 x2 x3 x4 x5 x6 x7 x8)),A18_6,.out (.fin (.bool x13) [(.row [(.sl 2 (List.map aC x5)),(.sl 3 (List.map aA x6)),(.mp 1),(.ref 4 2 0 0 x8.length .virt)]),(.map (bZ .i64 (fun y=>AV.agg (aD y)) x7) x7.length),(.arr 4 (List.map aB x8) 0 0 true)])] [⟨(LT.blockFin (id:=2) (qP x1 x2 x3 x4 x5 x6 x7 x8 _ k 0 e4))⟩,⟨(LT.block (nW x1 x2 x3 x4 x5 x6 x7 x8 _ k 0 e2))⟩,⟨(nF c1)⟩,⟨(aG aB x4)⟩,⟨(lY k x5 x6 x7 x8 _ e0)⟩] (by kernel_rfl)
   | inr x11 =>
    simp only[Sum.elim_inr] at h
    obtain rfl:=osi h
    exact Tri.of (x:=(X18 x5 x6 x7 x8)) aK aGJ [(aPB x5 x6 x7 x8),.n x4.length,df,A18_5,.out (.fin (.bool x11) [(.row [(.sl 2 (List.map aC x5)),(.sl 3 (List.map aA x6)),(.mp 1),(.ref 4 2 0 0 x8.length .virt)]),(.map (bZ .i64 (fun y=>AV.agg (aD y)) x7) x7.length),(.arr 4 (List.map aB x8) 0 0 true)])] [⟨(LT.blockFin (id:=0) (nW x1 x2 x3 x4 x5 x6 x7 x8 _ k 0 e2))⟩,⟨(nF c1)⟩,⟨(aG aB x4)⟩,⟨(lY k x5 x6 x7 x8 _ e0)⟩] (by kernel_rfl)
 rw[if_neg c1] at h;replace c1:=eqf c1
 obtain rfl:=osi h
 exact Tri.of (x:=(X18 x5 x6 x7 x8)) aK aGJ [(aPB x5 x6 x7 x8),.n x4.length,dt,.norm 0 ⟨[(4,[])],[],false,[],[]⟩] [⟨(nT c1)⟩,⟨(aG aB x4)⟩,⟨(lY k x5 x6 x7 x8 _ e0)⟩] (by kernel_rfl)
end Go.Ws

namespace Go.Ws
open Go.Proofs
set_option linter.unusedSimpArgs false
set_option linter.unusedVariables false
set_option maxRecDepth 1000000
set_option maxHeartbeats 4000000
noncomputable def aJS (x9:aL) (x10:aN) (x11:Ty6) (x12:aW):Ctx:=⟨Try.f37,[(.row [(.sl 2 (List.map aC x9)),(.sl 3 (List.map aA x10)),(.mp 1),(.ref 4 2 0 0 x12.length .virt)]),(.map (bZ .i64 (fun y=>AV.agg (aD y)) x11) x11.length),(.arr 4 (List.map aB x12) 0 0 false)],false⟩
noncomputable def L37_8_0:Code:=at_ Try.f37 [1,1,1,1,1,1,1,0,1,4,5]
def S37_8_0 (x2:aL) (x5:Int) (x6:Int) (x7:Int) (x8:Int) (x9:aL) (x11:Ty6) (x12:aW) (x13:aN × Int) (fF:Int) (eG:Int):St:=⟨mkT 92 [(5,(.hp 3 0)),(10,(.int .i64 fF)),(75,(.sl 2 (List.map aC x2))),(76,(.int .i64 (nI x2.length))),(77,(.int .i64 eG))],[(.row [(.sl 2 (List.map aC x9)),(.sl 3 (List.map aA x13.1)),(.mp 1),(.ref 4 2 0 0 x12.length .virt)]),(.map (bZ .i64 (fun y=>AV.agg (aD y)) x11) x11.length),(.arr 4 (List.map aB x12) 0 0 false),(.row [(.int .i64 x5),(.int .i64 x6),(.int .u8 x7),(.int .i64 x8)])]⟩
def aG8 (x9:aL) (x11:Ty6) (x12:aW) (x13:aN × Int) (aUS:Int):St:=⟨mkT 92 [(10,(.int .i64 aUS))],[(.row [(.sl 2 (List.map aC x9)),(.sl 3 (List.map aA x13.1)),(.mp 1),(.ref 4 2 0 0 x12.length .virt)]),(.map (bZ .i64 (fun y=>AV.agg (aD y)) x11) x11.length),(.arr 4 (List.map aB x12) 0 0 false)]⟩
def O37_8_0 (x2:aL) (x5:Int) (x6:Int) (x7:Int) (x8:Int) (x9:aL) (x10:aN) (x11:Ty6) (x12:aW) (x13:aN × Int) (y:(Int)):GX:=.st (.exit 0) (aG8 x9 x11 x12 x13 y)
def aF7 (x13:aN × Int):Ans:=.call ⟨true,[]⟩ (.tup [(.sl 3 (List.map aA x13.1)),(.int .i64 x13.2)]) []
def aNC (x14:Int × aL × Bool × Int × Int):Ans:=.call ⟨true,[]⟩ (.tup [(.agg [(.int .i64 x14.1),(.sl 2 (List.map aC x14.2.1)),(.bool x14.2.2.1),(.int .i64 x14.2.2.2.1)]),(.int .i64 x14.2.2.2.2)]) []
def aCZ:Ans:=.norm 0 ⟨[(6,[]),(7,[])],[],false,[],[]⟩
theorem nC (x2:aL) (x5:Int) (x6:Int) (x7:Int) (x8:Int) (x9:aL) (x10:aN) (x11:Ty6) (x12:aW) (x13:aN × Int) (y:(Int)):∀(k:Nat) (fF:Int) (eG:Int),cX k x2 x5 x6 x7 x8 x9 x10 x11 x12 x13 fF eG=some y→LT Try.prog (aJS x9 x10 x11 x12) L37_8_0 (S37_8_0 x2 x5 x6 x7 x8 x9 x11 x12 x13 fF eG) (O37_8_0 x2 x5 x6 x7 x8 x9 x10 x11 x12 x13 y)
 | 0,fF,eG,h=>by cases h
 | k+1,fF,eG,h=>by
  rw[cX] at h
  by_cases cL0:ltI eG (nI x2.length)=true
  · rw[if_pos cL0] at h
    by_cases cL1:inI eG x2.length=true
    · rw[if_pos cL1] at h
      obtain⟨qX,eL2,h⟩:=bsm h
      by_cases cL3:eqI qX.1 x7=true
      · rw[if_pos cL3] at h
        exact LT.next aK (hs:=⟨[(5,[]),(10,[]),(75,[]),(76,[]),(77,[])],[⟨.tmp 5,[],none⟩],false,[],[]⟩) (es:=none) [dt,.n x2.length,.row [(.int .u8 qX.1),(.int .i64 qX.2)],dt] [⟨cL3⟩,⟨(aI (e:=aC) eL2 2 0 2 (by decide))⟩,⟨cL1⟩,⟨(aG aC x2)⟩,⟨cL0⟩] (by kernel_rfl) (nC x2 x5 x6 x7 x8 x9 x10 x11 x12 x13 y k (aO .i64 fF qX.2) (aO .i64 eG 1) h)
      rw[if_neg cL3] at h;replace cL3:=eqf cL3
      exact LT.next aK (hs:=⟨[(5,[]),(10,[]),(75,[]),(76,[]),(77,[])],[⟨.tmp 5,[],none⟩],false,[],[]⟩) (es:=none) [dt,.n x2.length,.row [(.int .u8 qX.1),(.int .i64 qX.2)],df] [⟨cL3⟩,⟨(aI (e:=aC) eL2 2 0 2 (by decide))⟩,⟨cL1⟩,⟨(aG aC x2)⟩,⟨cL0⟩] (by kernel_rfl) (nC x2 x5 x6 x7 x8 x9 x10 x11 x12 x13 y k fF (aO .i64 eG 1) h)
    rw[if_neg cL1] at h;replace cL1:=eqf cL1
    cases h
  rw[if_neg cL0] at h;replace cL0:=eqf cL0
  obtain rfl:=osi h
  show LT _ _ _ _ (.st (.exit 0) (aG8 x9 x11 x12 x13 fF))
  exact LT.done aK (hs:=⟨[],[],false,[],[]⟩) (es:=(some ⟨[(10,[])],[],false,[],[]⟩)) [df] [⟨cL0⟩] (by kernel_rfl) (fun s h=>by cases h)
theorem uC (k:Nat) (x1:Int) (x2:aL) (x3:Bool) (x4:Int) (x5:Int) (x6:Int) (x7:Int) (x8:Int) (x9:aL) (x10:aN) (x11:Ty6) (x12:aW) (r:aN × Ty6 × Int × Int) (h:iW k x1 x2 x3 x4 x5 x6 x7 x8 x9 x10 x11 x12=some r):Tri Try.prog 37 [(.hp 0 0),(.agg [(.int .i64 x1),(.sl 2 (List.map aC x2)),(.bool x3),(.int .i64 x4)]),(.agg [(.int .i64 x5),(.int .i64 x6),(.int .u8 x7),(.int .i64 x8)])] [(.row [(.sl 2 (List.map aC x9)),(.sl 3 (List.map aA x10)),(.mp 1),(.ref 4 2 0 0 x12.length .virt)]),(.map (bZ .i64 (fun y=>AV.agg (aD y)) x11) x11.length),(.arr 4 (List.map aB x12) 0 0 false)] (.tup [(.int .i64 r.2.2.2),(.int .i64 r.2.2.1)]) [(.row [(.sl 2 (List.map aC x9)),(.sl 3 (List.map aA r.1)),(.mp 1),(.ref 4 2 0 0 x12.length .virt)]),(.map (bZ .i64 (fun y=>AV.agg (aD y)) r.2.1) r.2.1.length),(.arr 4 (List.map aB x12) 0 0 false)]:=by
 unfold iW at h
 by_cases c0:eqI x1 0=true
 · rw[if_pos c0] at h
   obtain⟨x13,e1,h⟩:=bsm h
   by_cases c2:eqI x13.2 0=true
   · rw[if_pos c2] at h
     by_cases c3:eqI x5 3=true
     · rw[if_pos c3] at h
       obtain⟨x14,e4,h⟩:=bsm h
       by_cases c5:eqI x14.2.2.2.2 0=true
       · rw[if_pos c5] at h
         by_cases c6:vH x11 x6=true
         · rw[if_pos c6] at h
           obtain⟨x15,e7,h⟩:=bsm h
           obtain rfl:=osi h
           exact Tri.of (x:=(aJS x9 x10 x11 x12)) aK rS [df,(aF7 x13),df,dt,(aNC x14),df,.opt (some (.agg [(.int .i64 x15.1),(.sl 2 (List.map aC x15.2.1)),(.bool x15.2.2.1),(.int .i64 x15.2.2.2)])),.n (mIx x11 x6),.ents (bZ .i64 (fun y=>AV.agg (aD y)) x11) x11.length,.ents (bZ .i64 (fun y=>AV.agg (aD y)) (cD x11 x6 (x14.1,x14.2.1,x14.2.2.1,x14.2.2.2.1))) (cD x11 x6 (x14.1,x14.2.1,x14.2.2.1,x14.2.2.2.1)).length,aCZ] [⟨(aNE .i64 (fun y=>AV.agg (aD y)) e7 (x14.1,x14.2.1,x14.2.2.1,x14.2.2.2.1))⟩,⟨(aQA .i64 (fun y=>AV.agg (aD y)) e7 (.agg [(.int .i64 0),(.sl 2 (List.map aC [])),(.bool false),(.int .i64 0)]))⟩,⟨(aIN .i64 (fun y=>AV.agg (aD y)) x11 x6)⟩,⟨(qT .i64 (fun y=>AV.agg (aD y)) e7)⟩,⟨(nF c5)⟩,⟨(sQ k x1 x2 x3 x4 x7 x8 _ e4)⟩,⟨c3⟩,⟨(nF c2)⟩,⟨(kE k x10 x6 x7 (eqI x5 3) _ e1)⟩,⟨(nF c0)⟩] (by kernel_rfl)
         rw[if_neg c6] at h;replace c6:=eqf c6
         obtain rfl:=osi h
         exact Tri.of (x:=(aJS x9 x10 x11 x12)) aK rS [df,(aF7 x13),df,dt,(aNC x14),df,.opt none,.n (mIx x11 x6),.ents (bZ .i64 (fun y=>AV.agg (aD y)) (cD x11 x6 (0,[],false,0))) (cD x11 x6 (0,[],false,0)).length,.ents (bZ .i64 (fun y=>AV.agg (aD y)) (cD x11 x6 (x14.1,x14.2.1,x14.2.2.1,x14.2.2.2.1))) (cD x11 x6 (x14.1,x14.2.1,x14.2.2.1,x14.2.2.2.1)).length,aCZ] [⟨(aST .i64 (fun y=>AV.agg (aD y)) (l:=x11) (q:=x6) (0,[],false,0) (x14.1,x14.2.1,x14.2.2.1,x14.2.2.2.1))⟩,⟨(aOR .i64 (fun y=>AV.agg (aD y)) c6 (0,[],false,0))⟩,⟨(aIN .i64 (fun y=>AV.agg (aD y)) x11 x6)⟩,⟨(qQ .i64 (fun y=>AV.agg (aD y)) c6)⟩,⟨(nF c5)⟩,⟨(sQ k x1 x2 x3 x4 x7 x8 _ e4)⟩,⟨c3⟩,⟨(nF c2)⟩,⟨(kE k x10 x6 x7 (eqI x5 3) _ e1)⟩,⟨(nF c0)⟩] (by kernel_rfl)
       rw[if_neg c5] at h;replace c5:=eqf c5
       obtain rfl:=osi h
       exact Tri.of (x:=(aJS x9 x10 x11 x12)) aK rS [df,(aF7 x13),df,dt,(aNC x14),dt,aCZ] [⟨(nT c5)⟩,⟨(sQ k x1 x2 x3 x4 x7 x8 _ e4)⟩,⟨c3⟩,⟨(nF c2)⟩,⟨(kE k x10 x6 x7 (eqI x5 3) _ e1)⟩,⟨(nF c0)⟩] (by kernel_rfl)
     rw[if_neg c3] at h;replace c3:=eqf c3
     obtain⟨x14,e4,h⟩:=bsm h
     obtain⟨x16,e5,h⟩:=bsm h
     obtain rfl:=osi h
     exact Tri.of (x:=(aJS x9 x10 x11 x12)) aK rS [df,(aF7 x13),df,df,.call ⟨true,[]⟩ (.int .i64 x14) [],.n x2.length,.norm 2 ⟨[(5,[]),(10,[]),(75,[]),(76,[]),(77,[])],[⟨.tmp 5,[],none⟩],false,[],[]⟩,.out (.st .normal (aG8 x9 x11 x12 x13 x16)),aCZ] [⟨(LT.block (nC x2 x5 x6 x7 x8 x9 x10 x11 x12 x13 _ k x14 0 e5))⟩,⟨(aG aC x2)⟩,⟨(zG k x9 x7 _ e4)⟩,⟨c3⟩,⟨(nF c2)⟩,⟨(kE k x10 x6 x7 (eqI x5 3) _ e1)⟩,⟨(nF c0)⟩] (by kernel_rfl)
   rw[if_neg c2] at h;replace c2:=eqf c2
   obtain rfl:=osi h
   exact Tri.of (x:=(aJS x9 x10 x11 x12)) aK rS [df,(aF7 x13),dt,aCZ] [⟨(nT c2)⟩,⟨(kE k x10 x6 x7 (eqI x5 3) _ e1)⟩,⟨(nF c0)⟩] (by kernel_rfl)
 rw[if_neg c0] at h;replace c0:=eqf c0
 obtain rfl:=osi h
 exact Tri.of (x:=(aJS x9 x10 x11 x12)) aK rS [dt,aCZ] [⟨(nT c0)⟩] (by kernel_rfl)
end Go.Ws

namespace Go.Ws
open Go.Proofs
set_option linter.unusedSimpArgs false
set_option linter.unusedVariables false
set_option maxRecDepth 1000000
set_option maxHeartbeats 4000000
noncomputable def aDZ (x9:aL) (x10:aN) (x11:Ty6) (x12:aW):Ctx:=⟨Try.f38,[(.row [(.sl 2 (List.map aC x9)),(.sl 3 (List.map aA x10)),(.mp 1),(.ref 4 2 0 0 x12.length .virt)]),(.map (bZ .i64 (fun y=>AV.agg (aD y)) x11) x11.length),(.arr 4 (List.map aB x12) 0 0 false)],false⟩
def aN1 (x13:Int × aL × Bool × Int × Int):Ans:=.call ⟨true,[]⟩ (.tup [(.agg [(.int .i64 x13.1),(.sl 2 (List.map aC x13.2.1)),(.bool x13.2.2.1),(.int .i64 x13.2.2.2.1)]),(.int .i64 x13.2.2.2.2)]) []
def aIV (x15:aN):Ans:=.call ⟨true,[]⟩ (.sl 3 (List.map aA x15)) []
def aC8 (x13:Int × aL × Bool × Int × aL × Int):Ans:=.call ⟨true,[]⟩ (.tup [(.agg [(.int .i64 x13.1),(.sl 2 (List.map aC x13.2.1)),(.bool x13.2.2.1),(.int .i64 x13.2.2.2.1)]),(.sl 2 (List.map aC x13.2.2.2.2.1)),(.int .i64 x13.2.2.2.2.2)]) []
def aNI (x6:Int) (x11:Ty6) (x13:Int × aL × Bool × Int × aL × Int):Ans:=.ents (bZ .i64 (fun y=>AV.agg (aD y)) (cD x11 x6 (x13.1,x13.2.1,x13.2.2.1,x13.2.2.2.1))) (cD x11 x6 (x13.1,x13.2.1,x13.2.2.1,x13.2.2.2.1)).length
def aMN (x14:aL × Int):Ans:=.call ⟨true,[]⟩ (.tup [(.sl 2 (List.map aC x14.1)),(.int .i64 x14.2)]) []
theorem aEF (k:Nat) (x1:Int) (x2:aL) (x3:Bool) (x4:Int) (x5:Int) (x6:Int) (x7:Int) (x8:Int) (x9:aL) (x10:aN) (x11:Ty6) (x12:aW) (r:aL × aN × Ty6 × Int) (h:mJ k x1 x2 x3 x4 x5 x6 x7 x8 x9 x10 x11 x12=some r):Tri Try.prog 38 [(.hp 0 0),(.agg [(.int .i64 x1),(.sl 2 (List.map aC x2)),(.bool x3),(.int .i64 x4)]),(.agg [(.int .i64 x5),(.int .i64 x6),(.int .u8 x7),(.int .i64 x8)])] [(.row [(.sl 2 (List.map aC x9)),(.sl 3 (List.map aA x10)),(.mp 1),(.ref 4 2 0 0 x12.length .virt)]),(.map (bZ .i64 (fun y=>AV.agg (aD y)) x11) x11.length),(.arr 4 (List.map aB x12) 0 0 false)] (.int .i64 r.2.2.2) [(.row [(.sl 2 (List.map aC r.1)),(.sl 3 (List.map aA r.2.1)),(.mp 1),(.ref 4 2 0 0 x12.length .virt)]),(.map (bZ .i64 (fun y=>AV.agg (aD y)) r.2.2.1) r.2.2.1.length),(.arr 4 (List.map aB x12) 0 0 false)]:=by
 unfold mJ at h
 by_cases c0:eqI x5 4=true
 · rw[if_pos c0] at h
   obtain⟨x13,e1,h⟩:=bsm h
   by_cases c2:eqI x13.2.2.2.2 0=true
   · rw[if_pos c2] at h
     obtain⟨x14,e3,h⟩:=bsm h
     by_cases c4:eqI x13.1 2=true
     · rw[if_pos c4] at h
       obtain⟨x15,e5,h⟩:=bsm h
       obtain rfl:=osi h
       exact Tri.of (x:=(aDZ x9 x10 x11 x12)) aK kO [dt,(aN1 x13),df,.ents (bZ .i64 (fun y=>AV.agg (aD y)) (cD x11 x6 (x13.1,x13.2.1,x13.2.2.1,x13.2.2.2.1))) (cD x11 x6 (x13.1,x13.2.1,x13.2.2.1,x13.2.2.2.1)).length,.call ⟨true,[[],[(0,2)]]⟩ (.tup [(.sl 2 (List.map aC x14.1)),(.int .i64 x14.2)]) [],df,df,df,df,dt,(aIV x15),.norm 0 ⟨[(6,[])],[],false,[],[]⟩] [⟨(mQ k x10 x6 _ e5)⟩,⟨c4⟩,⟨(nF c0)⟩,⟨(nF c0)⟩,⟨(nF c0)⟩,⟨(nF c0)⟩,⟨(jK k x9 [] _ e3)⟩,⟨(rX .i64 (fun y=>AV.agg (aD y)) x11 x6 (x13.1,x13.2.1,x13.2.2.1,x13.2.2.2.1))⟩,⟨(nF c2)⟩,⟨(qK k x1 x2 x3 x4 (!eqI x8 0) _ e1)⟩,⟨c0⟩] (by kernel_rfl)
     rw[if_neg c4] at h;replace c4:=eqf c4
     obtain rfl:=osi h
     exact Tri.of (x:=(aDZ x9 x10 x11 x12)) aK kO [dt,(aN1 x13),df,.ents (bZ .i64 (fun y=>AV.agg (aD y)) (cD x11 x6 (x13.1,x13.2.1,x13.2.2.1,x13.2.2.2.1))) (cD x11 x6 (x13.1,x13.2.1,x13.2.2.1,x13.2.2.2.1)).length,.call ⟨true,[[],[(0,2)]]⟩ (.tup [(.sl 2 (List.map aC x14.1)),(.int .i64 x14.2)]) [],df,df,df,df,df,.norm 0 ⟨[(6,[])],[],false,[],[]⟩] [⟨c4⟩,⟨(nF c0)⟩,⟨(nF c0)⟩,⟨(nF c0)⟩,⟨(nF c0)⟩,⟨(jK k x9 [] _ e3)⟩,⟨(rX .i64 (fun y=>AV.agg (aD y)) x11 x6 (x13.1,x13.2.1,x13.2.2.1,x13.2.2.2.1))⟩,⟨(nF c2)⟩,⟨(qK k x1 x2 x3 x4 (!eqI x8 0) _ e1)⟩,⟨c0⟩] (by kernel_rfl)
   rw[if_neg c2] at h;replace c2:=eqf c2
   obtain rfl:=osi h
   exact Tri.of (x:=(aDZ x9 x10 x11 x12)) aK kO [dt,(aN1 x13),dt,.norm 0 ⟨[(6,[])],[],false,[],[]⟩] [⟨(nT c2)⟩,⟨(qK k x1 x2 x3 x4 (!eqI x8 0) _ e1)⟩,⟨c0⟩] (by kernel_rfl)
 rw[if_neg c0] at h;replace c0:=eqf c0
 by_cases c1:eqI x5 5=true
 · rw[if_pos c1] at h
   obtain⟨x13,e2,h⟩:=bsm h
   by_cases c3:eqI x13.2.2.2.2.2 0=true
   · rw[if_pos c3] at h
     obtain⟨x14,e4,h⟩:=bsm h
     obtain⟨x15,e5,h⟩:=bsm h
     obtain rfl:=osi h
     exact Tri.of (x:=(aDZ x9 x10 x11 x12)) aK kO [df,dt,(aC8 x13),df,(aNI x6 x11 x13),(aMN x14),dt,dt,dt,dt,dt,(aIV x15),.norm 0 ⟨[(6,[])],[],false,[],[]⟩] [⟨(mQ k x10 x6 _ e5)⟩,⟨rT⟩,⟨(nT c0)⟩,⟨(nT c0)⟩,⟨(nT c0)⟩,⟨(nT c0)⟩,⟨(jK k x9 x13.2.2.2.2.1 _ e4)⟩,⟨(rX .i64 (fun y=>AV.agg (aD y)) x11 x6 (x13.1,x13.2.1,x13.2.2.1,x13.2.2.2.1))⟩,⟨(nF c3)⟩,⟨(vF k x1 x2 x3 x4 _ e2)⟩,⟨c1⟩,⟨c0⟩] (by kernel_rfl)
   rw[if_neg c3] at h;replace c3:=eqf c3
   obtain rfl:=osi h
   exact Tri.of (x:=(aDZ x9 x10 x11 x12)) aK kO [df,dt,(aC8 x13),dt,.norm 0 ⟨[(6,[])],[],false,[],[]⟩] [⟨(nT c3)⟩,⟨(vF k x1 x2 x3 x4 _ e2)⟩,⟨c1⟩,⟨c0⟩] (by kernel_rfl)
 rw[if_neg c1] at h;replace c1:=eqf c1
 by_cases c2:eqI x8 1=true
 · rw[if_pos c2] at h
   obtain⟨x13,e3,h⟩:=bsm h
   by_cases c4:eqI x13.2.2.2.2.2 0=true
   · rw[if_pos c4] at h
     obtain⟨x14,e5,h⟩:=bsm h
     obtain⟨x15,e6,h⟩:=bsm h
     obtain rfl:=osi h
     exact Tri.of (x:=(aDZ x9 x10 x11 x12)) aK kO [df,df,dt,dt,dt,dt,dt,(aC8 x13),df,(aNI x6 x11 x13),(aMN x14),dt,dt,dt,dt,dt,(aIV x15),.norm 0 ⟨[(6,[])],[],false,[],[]⟩] [⟨(mQ k x10 x6 _ e6)⟩,⟨rT⟩,⟨(nT c0)⟩,⟨(nT c0)⟩,⟨(nT c0)⟩,⟨(nT c0)⟩,⟨(jK k x9 x13.2.2.2.2.1 _ e5)⟩,⟨(rX .i64 (fun y=>AV.agg (aD y)) x11 x6 (x13.1,x13.2.1,x13.2.2.1,x13.2.2.2.1))⟩,⟨(nF c4)⟩,⟨(kG k x1 x2 x3 x4 x8 _ e3)⟩,⟨rT⟩,⟨c2⟩,⟨c2⟩,⟨c2⟩,⟨c2⟩,⟨c1⟩,⟨c0⟩] (by kernel_rfl)
   rw[if_neg c4] at h;replace c4:=eqf c4
   obtain rfl:=osi h
   exact Tri.of (x:=(aDZ x9 x10 x11 x12)) aK kO [df,df,dt,dt,dt,dt,dt,(aC8 x13),dt,.norm 0 ⟨[(6,[])],[],false,[],[]⟩] [⟨(nT c4)⟩,⟨(kG k x1 x2 x3 x4 x8 _ e3)⟩,⟨rT⟩,⟨c2⟩,⟨c2⟩,⟨c2⟩,⟨c2⟩,⟨c1⟩,⟨c0⟩] (by kernel_rfl)
 rw[if_neg c2] at h;replace c2:=eqf c2
 by_cases c3:eqI x8 2=true
 · rw[if_pos c3] at h
   obtain⟨x13,e4,h⟩:=bsm h
   by_cases c5:eqI x13.2.2.2.2.2 0=true
   · rw[if_pos c5] at h
     obtain⟨x14,e6,h⟩:=bsm h
     obtain⟨x15,e7,h⟩:=bsm h
     obtain rfl:=osi h
     exact Tri.of (x:=(aDZ x9 x10 x11 x12)) aK kO [df,df,df,df,df,df,dt,(aC8 x13),df,(aNI x6 x11 x13),(aMN x14),dt,dt,dt,dt,dt,(aIV x15),.norm 0 ⟨[(6,[])],[],false,[],[]⟩] [⟨(mQ k x10 x6 _ e7)⟩,⟨rT⟩,⟨(nT c0)⟩,⟨(nT c0)⟩,⟨(nT c0)⟩,⟨(nT c0)⟩,⟨(jK k x9 x13.2.2.2.2.1 _ e6)⟩,⟨(rX .i64 (fun y=>AV.agg (aD y)) x11 x6 (x13.1,x13.2.1,x13.2.2.1,x13.2.2.2.1))⟩,⟨(nF c5)⟩,⟨(kG k x1 x2 x3 x4 x8 _ e4)⟩,⟨c3⟩,⟨c2⟩,⟨c2⟩,⟨c2⟩,⟨c2⟩,⟨c1⟩,⟨c0⟩] (by kernel_rfl)
   rw[if_neg c5] at h;replace c5:=eqf c5
   obtain rfl:=osi h
   exact Tri.of (x:=(aDZ x9 x10 x11 x12)) aK kO [df,df,df,df,df,df,dt,(aC8 x13),dt,.norm 0 ⟨[(6,[])],[],false,[],[]⟩] [⟨(nT c5)⟩,⟨(kG k x1 x2 x3 x4 x8 _ e4)⟩,⟨c3⟩,⟨c2⟩,⟨c2⟩,⟨c2⟩,⟨c2⟩,⟨c1⟩,⟨c0⟩] (by kernel_rfl)
 rw[if_neg c3] at h;replace c3:=eqf c3
 obtain rfl:=osi h
 exact Tri.of (x:=(aDZ x9 x10 x11 x12)) aK kO [df,df,df,df,df,df,df,dt,.norm 0 ⟨[(6,[])],[],false,[],[]⟩] [⟨(nT (rfl:eqI 2 0=false))⟩,⟨c3⟩,⟨c2⟩,⟨c2⟩,⟨c2⟩,⟨c2⟩,⟨c1⟩,⟨c0⟩] (by kernel_rfl)
end Go.Ws

namespace Go.Ws
open Go.Proofs
set_option linter.unusedSimpArgs false
set_option linter.unusedVariables false
set_option maxRecDepth 1000000
set_option maxHeartbeats 4000000
noncomputable def X27_8 (x9:aL) (x10:aN) (x11:Ty6) (x12:aW):Ctx:=⟨Try.f27,[(.row [(.sl 2 (List.map aC x9)),(.sl 3 (List.map aA x10)),(.mp 1),(.ref 4 2 0 0 x12.length .virt)]),(.map (bZ .i64 (fun y=>AV.agg (aD y)) x11) x11.length),(.arr 4 (List.map aB x12) 0 0 false)],false⟩
def aIW:Ans:=.norm 0 ⟨[(6,[]),(7,[])],[],false,[],[]⟩
def aTM (x9:aL) (x12:aW) (x13:aN × Ty6 × Int × Int):Ans:=.call ⟨true,[]⟩ (.tup [(.int .i64 x13.2.2.2),(.int .i64 x13.2.2.1)]) [(.row [(.sl 2 (List.map aC x9)),(.sl 3 (List.map aA x13.1)),(.mp 1),(.ref 4 2 0 0 x12.length .virt)]),(.map (bZ .i64 (fun y=>AV.agg (aD y)) x13.2.1) x13.2.1.length),(.arr 4 (List.map aB x12) 0 0 false)]
theorem nN (k:Nat) (x1:Int) (x2:aL) (x3:Bool) (x4:Int) (x5:Int) (x6:Int) (x7:Int) (x8:Int) (x9:aL) (x10:aN) (x11:Ty6) (x12:aW) (r:Int × Int × aN × Ty6 × aL) (h:j8 k x1 x2 x3 x4 x5 x6 x7 x8 x9 x10 x11 x12=some r):Tri Try.prog 27 [(.hp 0 0),(.agg [(.int .i64 x1),(.sl 2 (List.map aC x2)),(.bool x3),(.int .i64 x4)]),(.agg [(.int .i64 x5),(.int .i64 x6),(.int .u8 x7),(.int .i64 x8)])] [(.row [(.sl 2 (List.map aC x9)),(.sl 3 (List.map aA x10)),(.mp 1),(.ref 4 2 0 0 x12.length .virt)]),(.map (bZ .i64 (fun y=>AV.agg (aD y)) x11) x11.length),(.arr 4 (List.map aB x12) 0 0 false)] (.tup [(.int .i64 r.1),(.int .i64 r.2.1)]) [(.row [(.sl 2 (List.map aC r.2.2.2.2)),(.sl 3 (List.map aA r.2.2.1)),(.mp 1),(.ref 4 2 0 0 x12.length .virt)]),(.map (bZ .i64 (fun y=>AV.agg (aD y)) r.2.2.2.1) r.2.2.2.1.length),(.arr 4 (List.map aB x12) 0 0 false)]:=by
 unfold j8 at h
 by_cases c0:eqI x5 1=true
 · rw[if_pos c0] at h
   obtain rfl:=osi h
   exact Tri.of (x:=(X27_8 x9 x10 x11 x12)) aK yT [dt,.ents (bZ .i64 (fun y=>AV.agg (aD y)) (cD x11 x6 (x1,x2,x3,x4))) (cD x11 x6 (x1,x2,x3,x4)).length,aIW] [⟨(rX .i64 (fun y=>AV.agg (aD y)) x11 x6 (x1,x2,x3,x4))⟩,⟨c0⟩] (by kernel_rfl)
 rw[if_neg c0] at h;replace c0:=eqf c0
 by_cases c1:eqI x5 2=true
 · rw[if_pos c1] at h
   obtain⟨x13,e2,h⟩:=bsm h
   obtain rfl:=osi h
   exact Tri.of (x:=(X27_8 x9 x10 x11 x12)) aK yT [df,dt,dt,(aTM x9 x12 x13),aIW] [⟨(uC k x1 x2 x3 x4 x5 x6 x7 x8 x9 x10 x11 x12 _ e2)⟩,⟨c1⟩,⟨c1⟩,⟨c0⟩] (by kernel_rfl)
 rw[if_neg c1] at h;replace c1:=eqf c1
 by_cases c2:eqI x5 3=true
 · rw[if_pos c2] at h
   obtain⟨x13,e3,h⟩:=bsm h
   obtain rfl:=osi h
   exact Tri.of (x:=(X27_8 x9 x10 x11 x12)) aK yT [df,df,dt,(aTM x9 x12 x13),aIW] [⟨(uC k x1 x2 x3 x4 x5 x6 x7 x8 x9 x10 x11 x12 _ e3)⟩,⟨c2⟩,⟨c1⟩,⟨c0⟩] (by kernel_rfl)
 rw[if_neg c2] at h;replace c2:=eqf c2
 obtain⟨x13,e3,h⟩:=bsm h
 obtain rfl:=osi h
 exact Tri.of (x:=(X27_8 x9 x10 x11 x12)) aK yT [df,df,df,.call ⟨true,[]⟩ (.int .i64 x13.2.2.2) [(.row [(.sl 2 (List.map aC x13.1)),(.sl 3 (List.map aA x13.2.1)),(.mp 1),(.ref 4 2 0 0 x12.length .virt)]),(.map (bZ .i64 (fun y=>AV.agg (aD y)) x13.2.2.1) x13.2.2.1.length),(.arr 4 (List.map aB x12) 0 0 false)],aIW] [⟨(aEF k x1 x2 x3 x4 x5 x6 x7 x8 x9 x10 x11 x12 _ e3)⟩,⟨c2⟩,⟨c1⟩,⟨c0⟩] (by kernel_rfl)
end Go.Ws

namespace Go.Ws
open Go.Proofs
set_option linter.unusedSimpArgs false
set_option linter.unusedVariables false
set_option maxRecDepth 1000000
set_option maxHeartbeats 4000000
noncomputable def aDY (x5:aL) (x6:aN) (x7:Ty6) (x8:aW):Ctx:=⟨Try.f14,[(.row [(.sl 2 (List.map aC x5)),(.sl 3 (List.map aA x6)),(.mp 1),(.ref 4 2 0 0 x8.length .virt)]),(.map (bZ .i64 (fun y=>AV.agg (aD y)) x7) x7.length),(.arr 4 (List.map aB x8) 0 0 false)],false⟩
def u3 (x5:aL) (x6:aN) (x7:Ty6) (x8:aW):Ans:=.call ⟨true,[]⟩ (.bool (!false)) [(.row [(.sl 2 (List.map aC x5)),(.sl 3 (List.map aA x6)),(.mp 1),(.ref 4 2 0 0 x8.length .virt)]),(.map (bZ .i64 (fun y=>AV.agg (aD y)) x7) x7.length),(.arr 4 (List.map aB x8) 0 0 false)]
def u7:Ans:=.norm 0 ⟨[(4,[]),(5,[])],[],false,[],[none,none,some 1]⟩
def aNJ (x9:Int × aL × Bool × Int):Ans:=.opt (some (.agg [(.int .i64 x9.1),(.sl 2 (List.map aC x9.2.1)),(.bool x9.2.2.1),(.int .i64 x9.2.2.2)]))
def aRW (x8:aW) (x10:Int × Int × aN × Ty6 × aL):Ans:=.call ⟨true,[]⟩ (.tup [(.int .i64 x10.1),(.int .i64 x10.2.1)]) [(.row [(.sl 2 (List.map aC x10.2.2.2.2)),(.sl 3 (List.map aA x10.2.2.1)),(.mp 1),(.ref 4 2 0 0 x8.length .virt)]),(.map (bZ .i64 (fun y=>AV.agg (aD y)) x10.2.2.2.1) x10.2.2.2.1.length),(.arr 4 (List.map aB x8) 0 0 false)]
def aS0 (x8:aW) (x9:Int × Int × aN × Ty6 × aL):Ans:=.call ⟨true,[]⟩ (.tup [(.int .i64 x9.1),(.int .i64 x9.2.1)]) [(.row [(.sl 2 (List.map aC x9.2.2.2.2)),(.sl 3 (List.map aA x9.2.2.1)),(.mp 1),(.ref 4 2 0 0 x8.length .virt)]),(.map (bZ .i64 (fun y=>AV.agg (aD y)) x9.2.2.2.1) x9.2.2.2.1.length),(.arr 4 (List.map aB x8) 0 0 false)]
theorem yR (k:Nat) (x1:Int) (x2:Int) (x3:Int) (x4:Int) (x5:aL) (x6:aN) (x7:Ty6) (x8:aW) (r:Int × Int × aL × aN × Ty6 × aW) (h:nX k x1 x2 x3 x4 x5 x6 x7 x8=some r):Tri Try.prog 14 [(.hp 0 0),(.agg [(.int .i64 x1),(.int .i64 x2),(.int .u8 x3),(.int .i64 x4)])] [(.row [(.sl 2 (List.map aC x5)),(.sl 3 (List.map aA x6)),(.mp 1),(.ref 4 2 0 0 x8.length .virt)]),(.map (bZ .i64 (fun y=>AV.agg (aD y)) x7) x7.length),(.arr 4 (List.map aB x8) 0 0 false)] (.tup [(.int .i64 r.2.1),(.int .i64 r.1)]) [(.row [(.sl 2 (List.map aC r.2.2.1)),(.sl 3 (List.map aA r.2.2.2.1)),(.mp 1),(.ref 4 2 1 0 r.2.2.2.2.2.length .virt)]),(.map (bZ .i64 (fun y=>AV.agg (aD y)) r.2.2.2.2.1) r.2.2.2.2.1.length),(.arr 4 (List.map aB r.2.2.2.2.2) 1 1 false)]:=by
 unfold nX at h
 by_cases c0:ltI x1 1=true
 · rw[if_pos c0] at h
   obtain rfl:=osi h
   exact Tri.of (x:=(aDY x5 x6 x7 x8)) aK kT [(u3 x5 x6 x7 x8),df,dt,dt,dt,dt,dt,dt,dt,dt,dt,dt,dt,dt,dt,u7] [⟨rT⟩,⟨rT⟩,⟨rT⟩,⟨rT⟩,⟨rT⟩,⟨rT⟩,⟨rT⟩,⟨rT⟩,⟨rT⟩,⟨c0⟩,⟨c0⟩,⟨c0⟩,⟨c0⟩,⟨(nF (nT rfl))⟩,⟨(dW x5 x6 x7 x8)⟩] (by kernel_rfl)
 rw[if_neg c0] at h;replace c0:=eqf c0
 by_cases c1:ltI 6 x1=true
 · rw[if_pos c1] at h
   obtain rfl:=osi h
   exact Tri.of (x:=(aDY x5 x6 x7 x8)) aK kT [(u3 x5 x6 x7 x8),df,df,df,df,df,dt,dt,dt,dt,dt,dt,dt,dt,dt,u7] [⟨rT⟩,⟨rT⟩,⟨rT⟩,⟨rT⟩,⟨rT⟩,⟨c1⟩,⟨c1⟩,⟨c1⟩,⟨c1⟩,⟨c0⟩,⟨c0⟩,⟨c0⟩,⟨c0⟩,⟨(nF (nT rfl))⟩,⟨(dW x5 x6 x7 x8)⟩] (by kernel_rfl)
 rw[if_neg c1] at h;replace c1:=eqf c1
 by_cases c2:ltI x2 0=true
 · rw[if_pos c2] at h
   obtain rfl:=osi h
   exact Tri.of (x:=(aDY x5 x6 x7 x8)) aK kT [(u3 x5 x6 x7 x8),df,df,df,df,df,df,df,df,df,dt,dt,dt,dt,dt,u7] [⟨rT⟩,⟨c2⟩,⟨c2⟩,⟨c2⟩,⟨c2⟩,⟨c1⟩,⟨c1⟩,⟨c1⟩,⟨c1⟩,⟨c0⟩,⟨c0⟩,⟨c0⟩,⟨c0⟩,⟨(nF (nT rfl))⟩,⟨(dW x5 x6 x7 x8)⟩] (by kernel_rfl)
 rw[if_neg c2] at h;replace c2:=eqf c2
 by_cases c3:ltI x2 1000=true
 · rw[if_pos c3] at h
   by_cases c4:vH x7 x2=true
   · rw[if_pos c4] at h
     obtain⟨x9,e5,h⟩:=bsm h
     by_cases c6:eqB true (eqI x1 1)=true
     · rw[if_pos c6] at h
       obtain rfl:=osi h
       exact Tri.of (x:=(aDY x5 x6 x7 x8)) aK kT [(u3 x5 x6 x7 x8),df,df,df,df,df,df,df,df,df,df,df,df,df,df,(aNJ x9),dt,dt,u7] [⟨rT⟩,⟨c6⟩,⟨(qT .i64 (fun y=>AV.agg (aD y)) e5)⟩,⟨(nF c3)⟩,⟨c2⟩,⟨c2⟩,⟨c2⟩,⟨c2⟩,⟨c1⟩,⟨c1⟩,⟨c1⟩,⟨c1⟩,⟨c0⟩,⟨c0⟩,⟨c0⟩,⟨c0⟩,⟨(nF (nT rfl))⟩,⟨(dW x5 x6 x7 x8)⟩] (by kernel_rfl)
     rw[if_neg c6] at h;replace c6:=eqf c6
     obtain⟨x10,e7,h⟩:=bsm h
     by_cases c8:eqI x10.2.1 0=true
     · rw[if_pos c8] at h
       by_cases c9:bB (((x8++[(x1,x2,x3,x4)]).length)*32)=true
       · rw[if_pos c9] at h
         obtain rfl:=osi h
         exact Tri.of (x:=(aDY x5 x6 x7 x8)) aK kT [(u3 x5 x6 x7 x8),df,df,df,df,df,df,df,df,df,df,df,df,df,df,(aNJ x9),df,(aRW x8 x10),df,.rows (List.map aB [(x1,x2,x3,x4)]),.n ((x8++[(x1,x2,x3,x4)]).length),.n x8.length,dt,.rows (List.map aB (x8++[(x1,x2,x3,x4)])),u7] [⟨(f5 aB x8 [(x1,x2,x3,x4)])⟩,⟨(dZ x8.length)⟩,⟨(aG aB x8)⟩,⟨c9⟩,⟨(by simp only[wl,List.length_map,List.map_nil,List.map_cons]<;>omega:x8.length+(List.map aB [(x1,x2,x3,x4)]).length=(x8++[(x1,x2,x3,x4)]).length)⟩,⟨(aQ aB (l:=[(x1,x2,x3,x4)]) (n:=1) rfl)⟩,⟨(a9 aB (Nat.le_refl 1):0+1≤(List.map aB [(x1,x2,x3,x4)]).length)⟩,⟨(nF c8)⟩,⟨(nN k x9.1 x9.2.1 x9.2.2.1 x9.2.2.2 x1 x2 x3 x4 x5 x6 x7 x8 _ e7)⟩,⟨c6⟩,⟨(qT .i64 (fun y=>AV.agg (aD y)) e5)⟩,⟨(nF c3)⟩,⟨c2⟩,⟨c2⟩,⟨c2⟩,⟨c2⟩,⟨c1⟩,⟨c1⟩,⟨c1⟩,⟨c1⟩,⟨c0⟩,⟨c0⟩,⟨c0⟩,⟨c0⟩,⟨(nF (nT rfl))⟩,⟨(dW x5 x6 x7 x8)⟩] (by kernel_rfl)
       rw[if_neg c9] at h;replace c9:=eqf c9
       cases h
     rw[if_neg c8] at h;replace c8:=eqf c8
     obtain rfl:=osi h
     exact Tri.of (x:=(aDY x5 x6 x7 x8)) aK kT [(u3 x5 x6 x7 x8),df,df,df,df,df,df,df,df,df,df,df,df,df,df,(aNJ x9),df,(aRW x8 x10),dt,u7] [⟨(nT c8)⟩,⟨(nN k x9.1 x9.2.1 x9.2.2.1 x9.2.2.2 x1 x2 x3 x4 x5 x6 x7 x8 _ e7)⟩,⟨c6⟩,⟨(qT .i64 (fun y=>AV.agg (aD y)) e5)⟩,⟨(nF c3)⟩,⟨c2⟩,⟨c2⟩,⟨c2⟩,⟨c2⟩,⟨c1⟩,⟨c1⟩,⟨c1⟩,⟨c1⟩,⟨c0⟩,⟨c0⟩,⟨c0⟩,⟨c0⟩,⟨(nF (nT rfl))⟩,⟨(dW x5 x6 x7 x8)⟩] (by kernel_rfl)
   rw[if_neg c4] at h;replace c4:=eqf c4
   by_cases c5:eqB false (eqI x1 1)=true
   · rw[if_pos c5] at h
     obtain rfl:=osi h
     exact Tri.of (x:=(aDY x5 x6 x7 x8)) aK kT [(u3 x5 x6 x7 x8),df,df,df,df,df,df,df,df,df,df,df,df,df,df,.opt none,dt,df,u7] [⟨rF⟩,⟨c5⟩,⟨(qQ .i64 (fun y=>AV.agg (aD y)) c4)⟩,⟨(nF c3)⟩,⟨c2⟩,⟨c2⟩,⟨c2⟩,⟨c2⟩,⟨c1⟩,⟨c1⟩,⟨c1⟩,⟨c1⟩,⟨c0⟩,⟨c0⟩,⟨c0⟩,⟨c0⟩,⟨(nF (nT rfl))⟩,⟨(dW x5 x6 x7 x8)⟩] (by kernel_rfl)
   rw[if_neg c5] at h;replace c5:=eqf c5
   obtain⟨x9,e6,h⟩:=bsm h
   by_cases c7:eqI x9.2.1 0=true
   · rw[if_pos c7] at h
     by_cases c8:bB (((x8++[(x1,x2,x3,x4)]).length)*32)=true
     · rw[if_pos c8] at h
       obtain rfl:=osi h
       exact Tri.of (x:=(aDY x5 x6 x7 x8)) aK kT [(u3 x5 x6 x7 x8),df,df,df,df,df,df,df,df,df,df,df,df,df,df,.opt none,df,(aS0 x8 x9),df,.rows (List.map aB [(x1,x2,x3,x4)]),.n ((x8++[(x1,x2,x3,x4)]).length),.n x8.length,dt,.rows (List.map aB (x8++[(x1,x2,x3,x4)])),u7] [⟨(f5 aB x8 [(x1,x2,x3,x4)])⟩,⟨(dZ x8.length)⟩,⟨(aG aB x8)⟩,⟨c8⟩,⟨(by simp only[wl,List.length_map,List.map_nil,List.map_cons]<;>omega:x8.length+(List.map aB [(x1,x2,x3,x4)]).length=(x8++[(x1,x2,x3,x4)]).length)⟩,⟨(aQ aB (l:=[(x1,x2,x3,x4)]) (n:=1) rfl)⟩,⟨(a9 aB (Nat.le_refl 1):0+1≤(List.map aB [(x1,x2,x3,x4)]).length)⟩,⟨(nF c7)⟩,⟨(nN k 0 [] false 0 x1 x2 x3 x4 x5 x6 x7 x8 _ e6)⟩,⟨c5⟩,⟨(qQ .i64 (fun y=>AV.agg (aD y)) c4)⟩,⟨(nF c3)⟩,⟨c2⟩,⟨c2⟩,⟨c2⟩,⟨c2⟩,⟨c1⟩,⟨c1⟩,⟨c1⟩,⟨c1⟩,⟨c0⟩,⟨c0⟩,⟨c0⟩,⟨c0⟩,⟨(nF (nT rfl))⟩,⟨(dW x5 x6 x7 x8)⟩] (by kernel_rfl)
     rw[if_neg c8] at h;replace c8:=eqf c8
     cases h
   rw[if_neg c7] at h;replace c7:=eqf c7
   obtain rfl:=osi h
   exact Tri.of (x:=(aDY x5 x6 x7 x8)) aK kT [(u3 x5 x6 x7 x8),df,df,df,df,df,df,df,df,df,df,df,df,df,df,.opt none,df,(aS0 x8 x9),dt,u7] [⟨(nT c7)⟩,⟨(nN k 0 [] false 0 x1 x2 x3 x4 x5 x6 x7 x8 _ e6)⟩,⟨c5⟩,⟨(qQ .i64 (fun y=>AV.agg (aD y)) c4)⟩,⟨(nF c3)⟩,⟨c2⟩,⟨c2⟩,⟨c2⟩,⟨c2⟩,⟨c1⟩,⟨c1⟩,⟨c1⟩,⟨c1⟩,⟨c0⟩,⟨c0⟩,⟨c0⟩,⟨c0⟩,⟨(nF (nT rfl))⟩,⟨(dW x5 x6 x7 x8)⟩] (by kernel_rfl)
 rw[if_neg c3] at h;replace c3:=eqf c3
 obtain rfl:=osi h
 exact Tri.of (x:=(aDY x5 x6 x7 x8)) aK kT [(u3 x5 x6 x7 x8),df,df,df,df,df,df,df,df,df,df,df,df,df,dt,u7] [⟨(nT c3)⟩,⟨c2⟩,⟨c2⟩,⟨c2⟩,⟨c2⟩,⟨c1⟩,⟨c1⟩,⟨c1⟩,⟨c1⟩,⟨c0⟩,⟨c0⟩,⟨c0⟩,⟨c0⟩,⟨(nF (nT rfl))⟩,⟨(dW x5 x6 x7 x8)⟩] (by kernel_rfl)
end Go.Ws

namespace Go.Ws
open Go.Proofs
set_option linter.unusedSimpArgs false
set_option linter.unusedVariables false
set_option maxRecDepth 1000000
set_option maxHeartbeats 4000000
noncomputable def X22:Ctx:=⟨Try.f22,[],false⟩
noncomputable def L22_0:Code:=at_ Try.f22 [1,1,0,1,4,5]
def S22_0 (x1:aW) (eE:Int) (fH:aL) (fI:aN) (fA:Ty6) (fB:aW):St:=⟨mkT 26 [(4,(.hp 0 0)),(10,(.sl 4 (List.map aB x1))),(11,(.int .i64 (nI x1.length))),(12,(.int .i64 eE))],[(.row [(.sl 2 (List.map aC fH)),(.sl 3 (List.map aA fI)),(.mp 1),(.ref 4 2 0 0 fB.length .virt)]),(.map (bZ .i64 (fun y=>AV.agg (aD y)) fA) fA.length),(.arr 4 (List.map aB fB) 0 0 false)]⟩
def aOJ (v22002_1:aL) (v22002_2:aN) (aQP:Ty6) (aQQ:aW):St:=⟨mkT 26 [(4,(.hp 0 0))],[(.row [(.sl 2 (List.map aC v22002_1)),(.sl 3 (List.map aA v22002_2)),(.mp 1),(.ref 4 2 0 0 aQQ.length .virt)]),(.map (bZ .i64 (fun y=>AV.agg (aD y)) aQP) aQP.length),(.arr 4 (List.map aB aQQ) 0 0 false)]⟩
def O22_0 (x1:aW) (y:Ty0):GX:=match y with
 | .inl y=>.st (.exit 0) (aOJ y.1 y.2.1 y.2.2.1 y.2.2.2)
 | .inr y=>.fin (Sum.elim (fun y=>(.tup [(.hp 0 0),(.int .i64 0)])) (fun y=>(.tup [.nilp,(.int .i64 4)])) y) (Sum.elim (fun y=>[(.row [(.sl 2 (List.map aC y.1)),(.sl 3 (List.map aA y.2.1)),(.mp 1),(.ref 4 2 0 0 y.2.2.2.length .virt)]),(.map (bZ .i64 (fun y=>AV.agg (aD y)) y.2.2.1) y.2.2.1.length),(.arr 4 (List.map aB y.2.2.2) 0 0 false)]) (fun y=>[]) y)
def A22_0 (dP:Int × Int × aL × aN × Ty6 × aW):Ans:=.call ⟨true,[]⟩ (.tup [(.int .i64 dP.2.1),(.int .i64 dP.1)]) [(.row [(.sl 2 (List.map aC dP.2.2.1)),(.sl 3 (List.map aA dP.2.2.2.1)),(.mp 1),(.ref 4 2 1 0 dP.2.2.2.2.2.length .virt)]),(.map (bZ .i64 (fun y=>AV.agg (aD y)) dP.2.2.2.2.1) dP.2.2.2.2.1.length),(.arr 4 (List.map aB dP.2.2.2.2.2) 1 1 false)]
def A22_1:Ans:=.call ⟨true,[]⟩ (.hp 0 0) [(.row [.nils,.nils,(.mp 1),.nils]),(.map (bZ .i64 (fun y=>AV.agg (aD y)) ([]:Ty6)) ([]:Ty6).length)]
def A22_2:Ans:=.norm 2 ⟨[(4,[]),(10,[]),(11,[]),(12,[])],[⟨.tmp 4,[(0,2),(1,3)],none⟩,⟨.cell 0 2,[],none⟩,⟨.cell 0 3,[],some 4⟩],false,[],[]⟩
theorem tE (x1:aW) (y:Ty0):∀(k:Nat) (eE:Int) (fH:aL) (fI:aN) (fA:Ty6) (fB:aW),gD k x1 eE fH fI fA fB=some y→LT Try.prog X22 L22_0 (S22_0 x1 eE fH fI fA fB) (O22_0 x1 y)
 | 0,eE,fH,fI,fA,fB,h=>by cases h
 | k+1,eE,fH,fI,fA,fB,h=>by
  rw[gD] at h
  by_cases cL0:ltI eE (nI x1.length)=true
  · rw[if_pos cL0] at h
    by_cases cL1:inI eE x1.length=true
    · rw[if_pos cL1] at h
      obtain⟨f9,eL2,h⟩:=bsm h
      obtain⟨dP,eL3,h⟩:=bsm h
      by_cases cL4:eqI dP.1 0=true
      · rw[if_pos cL4] at h
        exact LT.next aK (hs:=⟨[(4,[]),(10,[]),(11,[]),(12,[])],[⟨.tmp 4,[],none⟩,⟨.cell 0 2,[],none⟩,⟨.cell 0 3,[],some 4⟩],false,[],[]⟩) (es:=none) [dt,.n x1.length,.row [(.int .i64 f9.1),(.int .i64 f9.2.1),(.int .u8 f9.2.2.1),(.int .i64 f9.2.2.2)],(A22_0 dP),df,.n dP.2.2.2.2.2.length,.rows (List.map aB dP.2.2.2.2.2)] [⟨(bL aB (l:=dP.2.2.2.2.2) (n:=dP.2.2.2.2.2.length) rfl)⟩,⟨(rfl:dP.2.2.2.2.2.length=dP.2.2.2.2.2.length)⟩,⟨(zle dP.2.2.2.2.2.length)⟩,⟨(nF cL4)⟩,⟨(yR k f9.1 f9.2.1 f9.2.2.1 f9.2.2.2 fH fI fA fB _ eL3)⟩,⟨(aI (e:=aB) eL2 4 0 4 (by decide))⟩,⟨cL1⟩,⟨(aG aB x1)⟩,⟨cL0⟩] (by kernel_rfl) (tE x1 y k (aO .i64 eE 1) dP.2.2.1 dP.2.2.2.1 dP.2.2.2.2.1 dP.2.2.2.2.2 h)
      rw[if_neg cL4] at h;replace cL4:=eqf cL4
      obtain rfl:=osi h
      show LT _ _ _ _ (.fin (.tup [.nilp,(.int .i64 4)]) [])
      exact LT.done aK (hs:=⟨[],[],false,[],[]⟩) (es:=none) [dt,.n x1.length,.row [(.int .i64 f9.1),(.int .i64 f9.2.1),(.int .u8 f9.2.2.1),(.int .i64 f9.2.2.2)],(A22_0 dP),dt,.norm 0 ⟨[(2,[]),(3,[])],[],false,[],[]⟩] [⟨(nT cL4)⟩,⟨(yR k f9.1 f9.2.1 f9.2.2.1 f9.2.2.2 fH fI fA fB _ eL3)⟩,⟨(aI (e:=aB) eL2 4 0 4 (by decide))⟩,⟨cL1⟩,⟨(aG aB x1)⟩,⟨cL0⟩] (by kernel_rfl) (fun s h=>by cases h)
    rw[if_neg cL1] at h;replace cL1:=eqf cL1
    cases h
  rw[if_neg cL0] at h;replace cL0:=eqf cL0
  obtain rfl:=osi h
  show LT _ _ _ _ (.st (.exit 0) (aOJ fH fI fA fB))
  exact LT.done aK (hs:=⟨[],[],false,[],[]⟩) (es:=(some ⟨[(4,[])],[⟨.tmp 4,[],none⟩,⟨.cell 0 2,[],none⟩,⟨.cell 0 3,[],none⟩],false,[],[]⟩)) [df] [⟨cL0⟩] (by kernel_rfl) (fun s h=>by cases h)
theorem s8 (k:Nat) (x1:aW) (r:Ty3) (h:sK k x1=some r):Tri Try.prog 22 [(.sl 4 (List.map aB x1))] [] (Sum.elim (fun y=>(.tup [(.hp 0 0),(.int .i64 0)])) (fun y=>(.tup [.nilp,(.int .i64 4)])) r) (Sum.elim (fun y=>[(.row [(.sl 2 (List.map aC y.1)),(.sl 3 (List.map aA y.2.1)),(.mp 1),(.ref 4 2 0 0 y.2.2.2.length .virt)]),(.map (bZ .i64 (fun y=>AV.agg (aD y)) y.2.2.1) y.2.2.1.length),(.arr 4 (List.map aB y.2.2.2) 0 0 false)]) (fun y=>[]) r):=by
 unfold sK at h
 obtain⟨x2,e0,h⟩:=bsm h
 cases x2 with
 | inl x3 =>
  simp only[Sum.elim_inl] at h
  obtain rfl:=osi h
  exact Tri.of (x:=X22) aK aTB [A22_1,.n x1.length,A22_2,.n 0,.rows (List.map aB []),.out (.st .normal (aOJ x3.1 x3.2.1 x3.2.2.1 x3.2.2.2)),.norm 0 ⟨[(2,[]),(3,[])],[⟨.tmp 2,[],none⟩,⟨.cell 0 2,[],none⟩,⟨.cell 0 3,[],none⟩],false,[],[]⟩] [⟨(LT.block (tE x1 _ k 0 [] [] ([]:Ty6) [] e0))⟩,⟨(bL aB (l:=[]) (n:=0) rfl)⟩,⟨(rfl:0=0)⟩,⟨(zle 0)⟩,⟨(aG aB x1)⟩,⟨(qC)⟩] (by kernel_rfl)
 | inr x3 =>
  simp only[Sum.elim_inr] at h
  obtain rfl:=osi h
  exact Tri.of (x:=X22) aK aTB [A22_1,.n x1.length,A22_2,.n 0,.rows (List.map aB []),.out (.fin (Sum.elim (fun y=>(.tup [(.hp 0 0),(.int .i64 0)])) (fun y=>(.tup [.nilp,(.int .i64 4)])) x3) (Sum.elim (fun y=>[(.row [(.sl 2 (List.map aC y.1)),(.sl 3 (List.map aA y.2.1)),(.mp 1),(.ref 4 2 0 0 y.2.2.2.length .virt)]),(.map (bZ .i64 (fun y=>AV.agg (aD y)) y.2.2.1) y.2.2.1.length),(.arr 4 (List.map aB y.2.2.2) 0 0 false)]) (fun y=>[]) x3))] [⟨(LT.blockFin (id:=0) (tE x1 _ k 0 [] [] ([]:Ty6) [] e0))⟩,⟨(bL aB (l:=[]) (n:=0) rfl)⟩,⟨(rfl:0=0)⟩,⟨(zle 0)⟩,⟨(aG aB x1)⟩,⟨(qC)⟩] (by kernel_rfl)
end Go.Ws

namespace Go.Ws
open Go.Proofs
set_option linter.unusedSimpArgs false
set_option linter.unusedVariables false
set_option maxRecDepth 1000000
set_option maxHeartbeats 4000000
noncomputable def X10:Ctx:=⟨Try.f10,[],true⟩
noncomputable def L10_0:Code:=at_ Try.f10 [1,1,1,1,1,1,0,1,4,5]
def S10_0 (x1:aW) (f3:Bool) (dQ:Int) (fJ:aL) (fK:aN) (fL:Ty7) (fM:aW) (a8:aW):St:=⟨mkT 66 [(3,(.hp 0 0)),(4,(.bool f3)),(5,(.ref 4 1 0 0 a8.length .virt)),(18,(.sl 4 (List.map aB x1))),(19,(.int .i64 (nI x1.length))),(20,(.int .i64 dQ))],[(.row [(.sl 2 (List.map aC fJ)),(.sl 3 (List.map aA fK)),(.sl 5 (List.map aE fL)),(.sl 4 (List.map aB fM))]),(.arr 4 (List.map aB a8) 0 0 true)]⟩
def aC1 (v10002_1:Bool) (v10002_2:aL) (v10002_3:aN) (v10002_4:Ty7) (v10002_5:aW) (aQR:aW):St:=⟨mkT 66 [(3,(.hp 0 0)),(4,(.bool v10002_1)),(5,(.ref 4 1 0 0 aQR.length .virt))],[(.row [(.sl 2 (List.map aC v10002_2)),(.sl 3 (List.map aA v10002_3)),(.sl 5 (List.map aE v10002_4)),(.sl 4 (List.map aB v10002_5))]),(.arr 4 (List.map aB aQR) 0 0 true)]⟩
def O10_0 (x1:aW) (y:Ty2):GX:=.st (.exit 0) (aC1 y.1 y.2.1 y.2.2.1 y.2.2.2.1 y.2.2.2.2.1 y.2.2.2.2.2)
def A10_0 (cW:aL × aN × Ty7 × aW × Int × Int):Ans:=.call ⟨true,[]⟩ (.tup [(.agg [(.sl 2 (List.map aC cW.1)),(.sl 3 (List.map aA cW.2.1)),(.sl 5 (List.map aE cW.2.2.1)),(.sl 4 (List.map aB cW.2.2.2.1))]),(.int .i64 cW.2.2.2.2.1),(.int .i64 cW.2.2.2.2.2)]) []
def A10_1:Ans:=.norm 2 ⟨[(3,[]),(4,[]),(5,[]),(18,[]),(19,[]),(20,[])],[⟨.tmp 3,[(0,2),(1,3),(2,5),(3,4)],none⟩,⟨.tmp 5,[],some 4⟩],true,[],[]⟩
def A10_2 (x6:aL × aN × Ty6 × aW):Ans:=.call ⟨true,[]⟩ (.tup [(.hp 0 0),(.int .i64 0)]) [(.row [(.sl 2 (List.map aC x6.1)),(.sl 3 (List.map aA x6.2.1)),(.mp 1),(.ref 4 2 0 0 x6.2.2.2.length .virt)]),(.map (bZ .i64 (fun y=>AV.agg (aD y)) x6.2.2.1) x6.2.2.1.length),(.arr 4 (List.map aB x6.2.2.2) 0 0 false)]
theorem g5 (x1:aW) (y:Ty2):∀(k:Nat) (f3:Bool) (dQ:Int) (fJ:aL) (fK:aN) (fL:Ty7) (fM:aW) (a8:aW),cG k x1 f3 dQ fJ fK fL fM a8=some y→LT Try.prog X10 L10_0 (S10_0 x1 f3 dQ fJ fK fL fM a8) (O10_0 x1 y)
 | 0,f3,dQ,fJ,fK,fL,fM,a8,h=>by cases h
 | k+1,f3,dQ,fJ,fK,fL,fM,a8,h=>by
  rw[cG] at h
  by_cases cL0:ltI dQ (nI x1.length)=true
  · rw[if_pos cL0] at h
    by_cases cL1:inI dQ x1.length=true
    · rw[if_pos cL1] at h
      obtain⟨aZ,eL2,h⟩:=bsm h
      obtain⟨cW,eL3,h⟩:=bsm h
      by_cases cL4:f3=true
      · rw[if_pos cL4] at h
        by_cases cL5:bB (((a8++[aZ]).length)*32)=true
        · rw[if_pos cL5] at h
          exact LT.next aK (hs:=⟨[(3,[]),(4,[]),(5,[]),(18,[]),(19,[]),(20,[])],[⟨.tmp 3,[],none⟩,⟨.tmp 5,[],some 4⟩],true,[],[]⟩) (es:=none) [dt,.n x1.length,.row [(.int .i64 aZ.1),(.int .i64 aZ.2.1),(.int .u8 aZ.2.2.1),(.int .i64 aZ.2.2.2)],(A10_0 cW),dt,dt,dt,.rows (List.map aB [aZ]),.n ((a8++[aZ]).length),.n a8.length,dt,.rows (List.map aB (a8++[aZ])),.n ((a8++[aZ]).length),.rows (List.map aB (a8++[aZ]))] [⟨(rfl:(List.map aB (a8++[aZ]))=(List.map aB (a8++[aZ])))⟩,⟨(rfl:(a8++[aZ]).length=(a8++[aZ]).length)⟩,⟨(zle ((a8++[aZ]).length))⟩,⟨(f5 aB a8 [aZ])⟩,⟨(dZ a8.length)⟩,⟨(aG aB a8)⟩,⟨cL5⟩,⟨(by simp only[wl,List.length_map,List.map_nil,List.map_cons]<;>omega:a8.length+(List.map aB [aZ]).length=(a8++[aZ]).length)⟩,⟨(aQ aB (l:=[aZ]) (n:=1) rfl)⟩,⟨(a9 aB (Nat.le_refl 1):0+1≤(List.map aB [aZ]).length)⟩,⟨cL4⟩,⟨cL4⟩,⟨cL4⟩,⟨(aHN k fJ fK fL fM aZ.1 aZ.2.1 aZ.2.2.1 aZ.2.2.2 _ eL3)⟩,⟨(aI (e:=aB) eL2 4 0 4 (by decide))⟩,⟨cL1⟩,⟨(aG aB x1)⟩,⟨cL0⟩] (by kernel_rfl) (g5 x1 y k (eqI cW.2.2.2.2.2 0) (aO .i64 dQ 1) cW.1 cW.2.1 cW.2.2.1 cW.2.2.2.1 (a8++[aZ]) h)
        rw[if_neg cL5] at h;replace cL5:=eqf cL5
        cases h
      rw[if_neg cL4] at h;replace cL4:=eqf cL4
      by_cases cL5:bB (((a8++[aZ]).length)*32)=true
      · rw[if_pos cL5] at h
        exact LT.next aK (hs:=⟨[(3,[]),(4,[]),(5,[]),(18,[]),(19,[]),(20,[])],[⟨.tmp 3,[],none⟩,⟨.tmp 5,[],some 4⟩],true,[],[]⟩) (es:=none) [dt,.n x1.length,.row [(.int .i64 aZ.1),(.int .i64 aZ.2.1),(.int .u8 aZ.2.2.1),(.int .i64 aZ.2.2.2)],(A10_0 cW),df,df,df,.rows (List.map aB [aZ]),.n ((a8++[aZ]).length),.n a8.length,dt,.rows (List.map aB (a8++[aZ])),.n ((a8++[aZ]).length),.rows (List.map aB (a8++[aZ]))] [⟨(rfl:(List.map aB (a8++[aZ]))=(List.map aB (a8++[aZ])))⟩,⟨(rfl:(a8++[aZ]).length=(a8++[aZ]).length)⟩,⟨(zle ((a8++[aZ]).length))⟩,⟨(f5 aB a8 [aZ])⟩,⟨(dZ a8.length)⟩,⟨(aG aB a8)⟩,⟨cL5⟩,⟨(by simp only[wl,List.length_map,List.map_nil,List.map_cons]<;>omega:a8.length+(List.map aB [aZ]).length=(a8++[aZ]).length)⟩,⟨(aQ aB (l:=[aZ]) (n:=1) rfl)⟩,⟨(a9 aB (Nat.le_refl 1):0+1≤(List.map aB [aZ]).length)⟩,⟨cL4⟩,⟨cL4⟩,⟨cL4⟩,⟨(aHN k fJ fK fL fM aZ.1 aZ.2.1 aZ.2.2.1 aZ.2.2.2 _ eL3)⟩,⟨(aI (e:=aB) eL2 4 0 4 (by decide))⟩,⟨cL1⟩,⟨(aG aB x1)⟩,⟨cL0⟩] (by kernel_rfl) (g5 x1 y k false (aO .i64 dQ 1) cW.1 cW.2.1 cW.2.2.1 cW.2.2.2.1 (a8++[aZ]) h)
      rw[if_neg cL5] at h;replace cL5:=eqf cL5
      cases h
    rw[if_neg cL1] at h;replace cL1:=eqf cL1
    cases h
  rw[if_neg cL0] at h;replace cL0:=eqf cL0
  obtain rfl:=osi h
  show LT _ _ _ _ (.st (.exit 0) (aC1 f3 fJ fK fL fM a8))
  exact LT.done aK (hs:=⟨[],[],false,[],[]⟩) (es:=(some ⟨[(3,[]),(4,[]),(5,[])],[⟨.tmp 3,[],none⟩,⟨.tmp 5,[],none⟩],true,[],[]⟩)) [df] [⟨cL0⟩] (by kernel_rfl) (fun s h=>by cases h)
theorem aB0 (k:Nat) (x1:aW) (r:Bool) (h:mX k x1=some r):Tri Try.prog 10 [(.sl 4 (List.map aB x1))] [] (.bool r) []:=by
 unfold mX at h
 obtain⟨x2,e0,h⟩:=bsm h
 by_cases c1:x2=true
 · rw[if_pos c1] at h
   by_cases c2:ltI 120 (nI x1.length)=true
   · rw[if_pos c2] at h
     obtain rfl:=osi h
     exact Tri.of (x:=X10) aK aDA [.call ⟨true,[]⟩ (.bool x2) [],df,.n x1.length,dt] [⟨c2⟩,⟨(aG aB x1)⟩,⟨(nF c1)⟩,⟨(oE k _ e0)⟩] (by kernel_rfl)
   rw[if_neg c2] at h;replace c2:=eqf c2
   obtain⟨x4,e3,h⟩:=bsm h
   obtain⟨x5,e5,h⟩:=bsm h
   cases x5 with
   | inl x6 =>
    simp only[Sum.elim_inl] at h
    by_cases c7:x4.1=true
    · rw[if_pos c7] at h
      obtain⟨x7,e8,h⟩:=bsm h
      obtain rfl:=osi h
      exact Tri.of (x:=X10) aK aDA [.call ⟨true,[]⟩ (.bool x2) [],df,.n x1.length,df,.n x1.length,A10_1,.n 0,.rows (List.map aB []),.out (.st .normal (aC1 x4.1 x4.2.1 x4.2.2.1 x4.2.2.2.1 x4.2.2.2.2.1 x4.2.2.2.2.2)),(A10_2 x6),.rows (List.map aB x4.2.2.2.2.2),df,dt,dt,dt,dt,dt,dt,.call ⟨true,[]⟩ (.bool x7) [(.row [(.sl 2 (List.map aC x6.1)),(.sl 3 (List.map aA x6.2.1)),(.mp 1),(.ref 4 2 0 0 x6.2.2.2.length .virt)]),(.map (bZ .i64 (fun y=>AV.agg (aD y)) x6.2.2.1) x6.2.2.1.length),(.arr 4 (List.map aB x6.2.2.2) 0 0 true)],dt] [⟨(nT rfl)⟩,⟨(aKW k x4.2.1 x4.2.2.1 x4.2.2.2.1 x4.2.2.2.2.1 x6.1 x6.2.1 x6.2.2.1 x6.2.2.2 _ e8)⟩,⟨(nT rfl)⟩,⟨(nT rfl)⟩,⟨(nT rfl)⟩,⟨(rfl:eqI 0 0=true)⟩,⟨(rfl:eqI 0 0=true)⟩,⟨(rfl:eqI 0 0=true)⟩,⟨(nF c7)⟩,⟨(s8 k x4.2.2.2.2.2 (.inl x6) e5)⟩,⟨(aQ aB (l:=x4.2.2.2.2.2) (n:=x4.2.2.2.2.2.length) rfl)⟩,⟨(a9 aB (Nat.le_refl x4.2.2.2.2.2.length):0+x4.2.2.2.2.2.length≤(List.map aB x4.2.2.2.2.2).length)⟩,⟨(LT.block (g5 x1 _ k true 0 [] [] [] [] [] e3))⟩,⟨(bL aB (l:=[]) (n:=0) rfl)⟩,⟨(rfl:0=0)⟩,⟨(zle 0)⟩,⟨(aG aB x1)⟩,⟨c2⟩,⟨(aG aB x1)⟩,⟨(nF c1)⟩,⟨(oE k _ e0)⟩] (by kernel_rfl)
    rw[if_neg c7] at h;replace c7:=eqf c7
    obtain rfl:=osi h
    exact Tri.of (x:=X10) aK aDA [.call ⟨true,[]⟩ (.bool x2) [],df,.n x1.length,df,.n x1.length,A10_1,.n 0,.rows (List.map aB []),.out (.st .normal (aC1 x4.1 x4.2.1 x4.2.2.1 x4.2.2.2.1 x4.2.2.2.2.1 x4.2.2.2.2.2)),(A10_2 x6),.rows (List.map aB x4.2.2.2.2.2),dt,df,df,df] [⟨rF⟩,⟨rF⟩,⟨rF⟩,⟨(nT c7)⟩,⟨(s8 k x4.2.2.2.2.2 (.inl x6) e5)⟩,⟨(aQ aB (l:=x4.2.2.2.2.2) (n:=x4.2.2.2.2.2.length) rfl)⟩,⟨(a9 aB (Nat.le_refl x4.2.2.2.2.2.length):0+x4.2.2.2.2.2.length≤(List.map aB x4.2.2.2.2.2).length)⟩,⟨(LT.block (g5 x1 _ k true 0 [] [] [] [] [] e3))⟩,⟨(bL aB (l:=[]) (n:=0) rfl)⟩,⟨(rfl:0=0)⟩,⟨(zle 0)⟩,⟨(aG aB x1)⟩,⟨c2⟩,⟨(aG aB x1)⟩,⟨(nF c1)⟩,⟨(oE k _ e0)⟩] (by kernel_rfl)
   | inr x6 =>
    simp only[Sum.elim_inr] at h
    by_cases c7:x4.1=true
    · rw[if_pos c7] at h
      obtain rfl:=osi h
      exact Tri.of (x:=X10) aK aDA [.call ⟨true,[]⟩ (.bool x2) [],df,.n x1.length,df,.n x1.length,A10_1,.n 0,.rows (List.map aB []),.out (.st .normal (aC1 x4.1 x4.2.1 x4.2.2.1 x4.2.2.2.1 x4.2.2.2.2.1 x4.2.2.2.2.2)),.call ⟨true,[]⟩ (.tup [.nilp,(.int .i64 4)]) [],.rows (List.map aB x4.2.2.2.2.2),df,df,df,df,df,df,df,df] [⟨rF⟩,⟨rF⟩,⟨rF⟩,⟨rF⟩,⟨(rfl:eqI 4 0=false)⟩,⟨(rfl:eqI 4 0=false)⟩,⟨(rfl:eqI 4 0=false)⟩,⟨(nF c7)⟩,⟨(s8 k x4.2.2.2.2.2 (.inr x6) e5)⟩,⟨(aQ aB (l:=x4.2.2.2.2.2) (n:=x4.2.2.2.2.2.length) rfl)⟩,⟨(a9 aB (Nat.le_refl x4.2.2.2.2.2.length):0+x4.2.2.2.2.2.length≤(List.map aB x4.2.2.2.2.2).length)⟩,⟨(LT.block (g5 x1 _ k true 0 [] [] [] [] [] e3))⟩,⟨(bL aB (l:=[]) (n:=0) rfl)⟩,⟨(rfl:0=0)⟩,⟨(zle 0)⟩,⟨(aG aB x1)⟩,⟨c2⟩,⟨(aG aB x1)⟩,⟨(nF c1)⟩,⟨(oE k _ e0)⟩] (by kernel_rfl)
    rw[if_neg c7] at h;replace c7:=eqf c7
    obtain rfl:=osi h
    exact Tri.of (x:=X10) aK aDA [.call ⟨true,[]⟩ (.bool x2) [],df,.n x1.length,df,.n x1.length,A10_1,.n 0,.rows (List.map aB []),.out (.st .normal (aC1 x4.1 x4.2.1 x4.2.2.1 x4.2.2.2.1 x4.2.2.2.2.1 x4.2.2.2.2.2)),.call ⟨true,[]⟩ (.tup [.nilp,(.int .i64 4)]) [],.rows (List.map aB x4.2.2.2.2.2),dt,dt,dt,dt] [⟨rT⟩,⟨rT⟩,⟨rT⟩,⟨(nT c7)⟩,⟨(s8 k x4.2.2.2.2.2 (.inr x6) e5)⟩,⟨(aQ aB (l:=x4.2.2.2.2.2) (n:=x4.2.2.2.2.2.length) rfl)⟩,⟨(a9 aB (Nat.le_refl x4.2.2.2.2.2.length):0+x4.2.2.2.2.2.length≤(List.map aB x4.2.2.2.2.2).length)⟩,⟨(LT.block (g5 x1 _ k true 0 [] [] [] [] [] e3))⟩,⟨(bL aB (l:=[]) (n:=0) rfl)⟩,⟨(rfl:0=0)⟩,⟨(zle 0)⟩,⟨(aG aB x1)⟩,⟨c2⟩,⟨(aG aB x1)⟩,⟨(nF c1)⟩,⟨(oE k _ e0)⟩] (by kernel_rfl)
 rw[if_neg c1] at h;replace c1:=eqf c1
 obtain rfl:=osi h
 exact Tri.of (x:=X10) aK aDA [.call ⟨true,[]⟩ (.bool x2) [],dt] [⟨(nT c1)⟩,⟨(oE k _ e0)⟩] (by kernel_rfl)
end Go.Ws
