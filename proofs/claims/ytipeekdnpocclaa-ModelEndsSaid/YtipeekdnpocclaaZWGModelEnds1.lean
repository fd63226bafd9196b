/-
  Walks, merged.
  Conditions: none.
-/
import Derived.Test.YtipeekdnpocclaaZPre
import Derived.Test.YtipeekdnpocclaaZPure
import Derived.Test.YtipeekdnpocclaaZWGModelEnds0
set_option linter.unusedVariables false
set_option linter.unusedSimpArgs false
namespace Go.Ws
open Go.Proofs
set_option linter.unusedSimpArgs false
set_option linter.unusedVariables false
set_option maxRecDepth 1000000
set_option maxHeartbeats 4000000
noncomputable def aBE (x9:aG) (x10:Ty8) (x11:Ty2) (x12:Ty7):Ctx:=⟨Try.f48,[(.row [(.sl 2 (List.map aB x9)),(.sl 3 (List.map aD x10)),(.mp 1),(.ref 4 2 0 0 x12.length .virt)]),(.map (bA .i64 (fun y=>AV.agg (aC y)) x11) x11.length),(.arr 4 (List.map aA x12) 0 0 true)],false⟩
def aP9 (x13:Int × aG × Bool × Int × Int):Ans:=.call ⟨true,[]⟩ (.tup [(.agg [(.int .i64 x13.1),(.sl 2 (List.map aB x13.2.1)),(.bool x13.2.2.1),(.int .i64 x13.2.2.2.1)]),(.int .i64 x13.2.2.2.2)]) []
def aFW (x15:Ty8):Ans:=.call ⟨true,[]⟩ (.sl 3 (List.map aD x15)) []
def aF3 (x13:Int × aG × Bool × Int × aG × Int):Ans:=.call ⟨true,[]⟩ (.tup [(.agg [(.int .i64 x13.1),(.sl 2 (List.map aB x13.2.1)),(.bool x13.2.2.1),(.int .i64 x13.2.2.2.1)]),(.sl 2 (List.map aB x13.2.2.2.2.1)),(.int .i64 x13.2.2.2.2.2)]) []
def aKQ (x6:Int) (x11:Ty2) (x13:Int × aG × Bool × Int × aG × Int):Ans:=.ents (bA .i64 (fun y=>AV.agg (aC y)) (aR x11 x6 (x13.1,x13.2.1,x13.2.2.1,x13.2.2.2.1))) (aR x11 x6 (x13.1,x13.2.1,x13.2.2.1,x13.2.2.2.1)).length
def aJF (x14:aG × Int):Ans:=.call ⟨true,[]⟩ (.tup [(.sl 2 (List.map aB x14.1)),(.int .i64 x14.2)]) []
theorem aBS (k:Nat) (x1:Int) (x2:aG) (x3:Bool) (x4:Int) (x5:Int) (x6:Int) (x7:Int) (x8:Int) (x9:aG) (x10:Ty8) (x11:Ty2) (x12:Ty7) (r:aG × Ty8 × Ty2 × Int) (h:kU k x1 x2 x3 x4 x5 x6 x7 x8 x9 x10 x11 x12=some r):Tri Try.prog 48 [(.hp 0 0),(.agg [(.int .i64 x1),(.sl 2 (List.map aB x2)),(.bool x3),(.int .i64 x4)]),(.agg [(.int .i64 x5),(.int .i64 x6),(.int .u8 x7),(.int .i64 x8)])] [(.row [(.sl 2 (List.map aB x9)),(.sl 3 (List.map aD x10)),(.mp 1),(.ref 4 2 0 0 x12.length .virt)]),(.map (bA .i64 (fun y=>AV.agg (aC y)) x11) x11.length),(.arr 4 (List.map aA x12) 0 0 true)] (.int .i64 r.2.2.2) [(.row [(.sl 2 (List.map aB r.1)),(.sl 3 (List.map aD r.2.1)),(.mp 1),(.ref 4 2 0 0 x12.length .virt)]),(.map (bA .i64 (fun y=>AV.agg (aC y)) r.2.2.1) r.2.2.1.length),(.arr 4 (List.map aA x12) 0 0 true)]:=by
 unfold kU at h
 by_cases c0:eqI x5 4=true
 · rw[if_pos c0] at h
   obtain⟨x13,e1,h⟩:=bsm h
   let w2:List Prf:=[⟨(aDT k x1 x2 x3 x4 (!eqI x8 0) _ e1)⟩,⟨c0⟩]
   by_cases c2:eqI x13.2.2.2.2 0=true
   · rw[if_pos c2] at h
     obtain⟨x14,e3,h⟩:=bsm h
     let u3:List Ans:=[dt,(aP9 x13),df,.ents (bA .i64 (fun y=>AV.agg (aC y)) (aR x11 x6 (x13.1,x13.2.1,x13.2.2.1,x13.2.2.2.1))) (aR x11 x6 (x13.1,x13.2.1,x13.2.2.1,x13.2.2.2.1)).length,.call ⟨true,[[],[(0,2)]]⟩ (.tup [(.sl 2 (List.map aB x14.1)),(.int .i64 x14.2)]) [],df,df,df,df]
     let w4:List Prf:=[⟨(nF c0)⟩,⟨(nF c0)⟩,⟨(nF c0)⟩,⟨(nF c0)⟩,⟨(iZ k x9 [] _ e3)⟩,⟨(jK .i64 (fun y=>AV.agg (aC y)) x11 x6 (x13.1,x13.2.1,x13.2.2.1,x13.2.2.2.1))⟩,⟨(nF c2)⟩]++w2
     by_cases c4:eqI x13.1 2=true
     · rw[if_pos c4] at h
       obtain⟨x15,e5,h⟩:=bsm h
       obtain rfl:=osi h
       exact Tri.of (x:=(aBE x9 x10 x11 x12)) aE jN (u3++[dt,(aFW x15),.norm 0 ⟨[(6,[])],[],false,[],[]⟩]) ([⟨(kY k x10 x6 _ e5)⟩,⟨c4⟩]++w4) (by kernel_rfl)
     rw[if_neg c4] at h;replace c4:=eqf c4
     obtain rfl:=osi h
     exact Tri.of (x:=(aBE x9 x10 x11 x12)) aE jN (u3++[df,.norm 0 ⟨[(6,[])],[],false,[],[]⟩]) ([⟨c4⟩]++w4) (by kernel_rfl)
   rw[if_neg c2] at h;replace c2:=eqf c2
   obtain rfl:=osi h
   exact Tri.of (x:=(aBE x9 x10 x11 x12)) aE jN [dt,(aP9 x13),dt,.norm 0 ⟨[(6,[])],[],false,[],[]⟩] ([⟨(nT c2)⟩]++w2) (by kernel_rfl)
 rw[if_neg c0] at h;replace c0:=eqf c0
 by_cases c1:eqI x5 5=true
 · rw[if_pos c1] at h
   obtain⟨x13,e2,h⟩:=bsm h
   let w8:List Prf:=[⟨(aBA k x1 x2 x3 x4 _ e2)⟩,⟨c1⟩,⟨c0⟩]
   by_cases c3:eqI x13.2.2.2.2.2 0=true
   · rw[if_pos c3] at h
     obtain⟨x14,e4,h⟩:=bsm h
     obtain⟨x15,e5,h⟩:=bsm h
     obtain rfl:=osi h
     exact Tri.of (x:=(aBE x9 x10 x11 x12)) aE jN [df,dt,(aF3 x13),df,(aKQ x6 x11 x13),(aJF x14),dt,dt,dt,dt,dt,(aFW x15),.norm 0 ⟨[(6,[])],[],false,[],[]⟩] ([⟨(kY k x10 x6 _ e5)⟩,⟨rT⟩,⟨(nT c0)⟩,⟨(nT c0)⟩,⟨(nT c0)⟩,⟨(nT c0)⟩,⟨(iZ k x9 x13.2.2.2.2.1 _ e4)⟩,⟨(jK .i64 (fun y=>AV.agg (aC y)) x11 x6 (x13.1,x13.2.1,x13.2.2.1,x13.2.2.2.1))⟩,⟨(nF c3)⟩]++w8) (by kernel_rfl)
   rw[if_neg c3] at h;replace c3:=eqf c3
   obtain rfl:=osi h
   exact Tri.of (x:=(aBE x9 x10 x11 x12)) aE jN [df,dt,(aF3 x13),dt,.norm 0 ⟨[(6,[])],[],false,[],[]⟩] ([⟨(nT c3)⟩]++w8) (by kernel_rfl)
 rw[if_neg c1] at h;replace c1:=eqf c1
 by_cases c2:eqI x8 1=true
 · rw[if_pos c2] at h
   obtain⟨x13,e3,h⟩:=bsm h
   let u11:List Ans:=[df,df,dt,dt,dt,dt,dt,(aF3 x13)]
   let w12:List Prf:=[⟨(qO k x1 x2 x3 x4 x8 _ e3)⟩,⟨rT⟩,⟨c2⟩,⟨c2⟩,⟨c2⟩,⟨c2⟩,⟨c1⟩,⟨c0⟩]
   by_cases c4:eqI x13.2.2.2.2.2 0=true
   · rw[if_pos c4] at h
     obtain⟨x14,e5,h⟩:=bsm h
     obtain⟨x15,e6,h⟩:=bsm h
     obtain rfl:=osi h
     exact Tri.of (x:=(aBE x9 x10 x11 x12)) aE jN (u11++[df,(aKQ x6 x11 x13),(aJF x14),dt,dt,dt,dt,dt,(aFW x15),.norm 0 ⟨[(6,[])],[],false,[],[]⟩]) ([⟨(kY k x10 x6 _ e6)⟩,⟨rT⟩,⟨(nT c0)⟩,⟨(nT c0)⟩,⟨(nT c0)⟩,⟨(nT c0)⟩,⟨(iZ k x9 x13.2.2.2.2.1 _ e5)⟩,⟨(jK .i64 (fun y=>AV.agg (aC y)) x11 x6 (x13.1,x13.2.1,x13.2.2.1,x13.2.2.2.1))⟩,⟨(nF c4)⟩]++w12) (by kernel_rfl)
   rw[if_neg c4] at h;replace c4:=eqf c4
   obtain rfl:=osi h
   exact Tri.of (x:=(aBE x9 x10 x11 x12)) aE jN (u11++[dt,.norm 0 ⟨[(6,[])],[],false,[],[]⟩]) ([⟨(nT c4)⟩]++w12) (by kernel_rfl)
 rw[if_neg c2] at h;replace c2:=eqf c2
 let w14:List Prf:=[⟨c2⟩,⟨c2⟩,⟨c2⟩,⟨c2⟩,⟨c1⟩,⟨c0⟩]
 by_cases c3:eqI x8 2=true
 · rw[if_pos c3] at h
   obtain⟨x13,e4,h⟩:=bsm h
   let u15:List Ans:=[df,df,df,df,df,df,dt,(aF3 x13)]
   let w16:List Prf:=[⟨(qO k x1 x2 x3 x4 x8 _ e4)⟩,⟨c3⟩]++w14
   by_cases c5:eqI x13.2.2.2.2.2 0=true
   · rw[if_pos c5] at h
     obtain⟨x14,e6,h⟩:=bsm h
     obtain⟨x15,e7,h⟩:=bsm h
     obtain rfl:=osi h
     exact Tri.of (x:=(aBE x9 x10 x11 x12)) aE jN (u15++[df,(aKQ x6 x11 x13),(aJF x14),dt,dt,dt,dt,dt,(aFW x15),.norm 0 ⟨[(6,[])],[],false,[],[]⟩]) ([⟨(kY k x10 x6 _ e7)⟩,⟨rT⟩,⟨(nT c0)⟩,⟨(nT c0)⟩,⟨(nT c0)⟩,⟨(nT c0)⟩,⟨(iZ k x9 x13.2.2.2.2.1 _ e6)⟩,⟨(jK .i64 (fun y=>AV.agg (aC y)) x11 x6 (x13.1,x13.2.1,x13.2.2.1,x13.2.2.2.1))⟩,⟨(nF c5)⟩]++w16) (by kernel_rfl)
   rw[if_neg c5] at h;replace c5:=eqf c5
   obtain rfl:=osi h
   exact Tri.of (x:=(aBE x9 x10 x11 x12)) aE jN (u15++[dt,.norm 0 ⟨[(6,[])],[],false,[],[]⟩]) ([⟨(nT c5)⟩]++w16) (by kernel_rfl)
 rw[if_neg c3] at h;replace c3:=eqf c3
 obtain rfl:=osi h
 exact Tri.of (x:=(aBE x9 x10 x11 x12)) aE jN [df,df,df,df,df,df,df,dt,.norm 0 ⟨[(6,[])],[],false,[],[]⟩] ([⟨(nT (rfl:eqI 2 0=false))⟩,⟨c3⟩]++w14) (by kernel_rfl)
end Go.Ws

namespace Go.Ws
open Go.Proofs
set_option linter.unusedSimpArgs false
set_option linter.unusedVariables false
set_option maxRecDepth 1000000
set_option maxHeartbeats 4000000
noncomputable def X34_4 (x9:aG) (x10:Ty8) (x11:Ty2) (x12:Ty7):Ctx:=⟨Try.f34,[(.row [(.sl 2 (List.map aB x9)),(.sl 3 (List.map aD x10)),(.mp 1),(.ref 4 2 0 0 x12.length .virt)]),(.map (bA .i64 (fun y=>AV.agg (aC y)) x11) x11.length),(.arr 4 (List.map aA x12) 0 0 true)],false⟩
def aF8:Ans:=.norm 0 ⟨[(6,[]),(7,[])],[],false,[],[]⟩
def aPF (x9:aG) (x12:Ty7) (x13:Ty8 × Ty2 × Int × Int):Ans:=.call ⟨true,[]⟩ (.tup [(.int .i64 x13.2.2.2),(.int .i64 x13.2.2.1)]) [(.row [(.sl 2 (List.map aB x9)),(.sl 3 (List.map aD x13.1)),(.mp 1),(.ref 4 2 0 0 x12.length .virt)]),(.map (bA .i64 (fun y=>AV.agg (aC y)) x13.2.1) x13.2.1.length),(.arr 4 (List.map aA x12) 0 0 true)]
theorem tO (k:Nat) (x1:Int) (x2:aG) (x3:Bool) (x4:Int) (x5:Int) (x6:Int) (x7:Int) (x8:Int) (x9:aG) (x10:Ty8) (x11:Ty2) (x12:Ty7) (r:Int × Int × Ty8 × Ty2 × aG) (h:iU k x1 x2 x3 x4 x5 x6 x7 x8 x9 x10 x11 x12=some r):Tri Try.prog 34 [(.hp 0 0),(.agg [(.int .i64 x1),(.sl 2 (List.map aB x2)),(.bool x3),(.int .i64 x4)]),(.agg [(.int .i64 x5),(.int .i64 x6),(.int .u8 x7),(.int .i64 x8)])] [(.row [(.sl 2 (List.map aB x9)),(.sl 3 (List.map aD x10)),(.mp 1),(.ref 4 2 0 0 x12.length .virt)]),(.map (bA .i64 (fun y=>AV.agg (aC y)) x11) x11.length),(.arr 4 (List.map aA x12) 0 0 true)] (.tup [(.int .i64 r.1),(.int .i64 r.2.1)]) [(.row [(.sl 2 (List.map aB r.2.2.2.2)),(.sl 3 (List.map aD r.2.2.1)),(.mp 1),(.ref 4 2 0 0 x12.length .virt)]),(.map (bA .i64 (fun y=>AV.agg (aC y)) r.2.2.2.1) r.2.2.2.1.length),(.arr 4 (List.map aA x12) 0 0 true)]:=by
 unfold iU at h
 by_cases c0:eqI x5 1=true
 · rw[if_pos c0] at h
   obtain rfl:=osi h
   exact Tri.of (x:=(X34_4 x9 x10 x11 x12)) aE vI [dt,.ents (bA .i64 (fun y=>AV.agg (aC y)) (aR x11 x6 (x1,x2,x3,x4))) (aR x11 x6 (x1,x2,x3,x4)).length,aF8] [⟨(jK .i64 (fun y=>AV.agg (aC y)) x11 x6 (x1,x2,x3,x4))⟩,⟨c0⟩] (by kernel_rfl)
 rw[if_neg c0] at h;replace c0:=eqf c0
 by_cases c1:eqI x5 2=true
 · rw[if_pos c1] at h
   obtain⟨x13,e2,h⟩:=bsm h
   obtain rfl:=osi h
   exact Tri.of (x:=(X34_4 x9 x10 x11 x12)) aE vI [df,dt,dt,(aPF x9 x12 x13),aF8] [⟨(rN k x1 x2 x3 x4 x5 x6 x7 x8 x9 x10 x11 x12 _ e2)⟩,⟨c1⟩,⟨c1⟩,⟨c0⟩] (by kernel_rfl)
 rw[if_neg c1] at h;replace c1:=eqf c1
 by_cases c2:eqI x5 3=true
 · rw[if_pos c2] at h
   obtain⟨x13,e3,h⟩:=bsm h
   obtain rfl:=osi h
   exact Tri.of (x:=(X34_4 x9 x10 x11 x12)) aE vI [df,df,dt,(aPF x9 x12 x13),aF8] [⟨(rN k x1 x2 x3 x4 x5 x6 x7 x8 x9 x10 x11 x12 _ e3)⟩,⟨c2⟩,⟨c1⟩,⟨c0⟩] (by kernel_rfl)
 rw[if_neg c2] at h;replace c2:=eqf c2
 obtain⟨x13,e3,h⟩:=bsm h
 obtain rfl:=osi h
 exact Tri.of (x:=(X34_4 x9 x10 x11 x12)) aE vI [df,df,df,.call ⟨true,[]⟩ (.int .i64 x13.2.2.2) [(.row [(.sl 2 (List.map aB x13.1)),(.sl 3 (List.map aD x13.2.1)),(.mp 1),(.ref 4 2 0 0 x12.length .virt)]),(.map (bA .i64 (fun y=>AV.agg (aC y)) x13.2.2.1) x13.2.2.1.length),(.arr 4 (List.map aA x12) 0 0 true)],aF8] [⟨(aBS k x1 x2 x3 x4 x5 x6 x7 x8 x9 x10 x11 x12 _ e3)⟩,⟨c2⟩,⟨c1⟩,⟨c0⟩] (by kernel_rfl)
end Go.Ws

namespace Go.Ws
open Go.Proofs
set_option linter.unusedSimpArgs false
set_option linter.unusedVariables false
set_option maxRecDepth 1000000
set_option maxHeartbeats 4000000
noncomputable def aA9 (x5:aG) (x6:Ty8) (x7:Ty2) (x8:Ty7):Ctx:=⟨Try.f21,[(.row [(.sl 2 (List.map aB x5)),(.sl 3 (List.map aD x6)),(.mp 1),(.ref 4 2 0 0 x8.length .virt)]),(.map (bA .i64 (fun y=>AV.agg (aC y)) x7) x7.length),(.arr 4 (List.map aA x8) 0 0 true)],false⟩
def aO0 (x5:aG) (x6:Ty8) (x7:Ty2) (x8:Ty7):Ans:=.call ⟨true,[]⟩ (.bool (!false)) [(.row [(.sl 2 (List.map aB x5)),(.sl 3 (List.map aD x6)),(.mp 1),(.ref 4 2 0 0 x8.length .virt)]),(.map (bA .i64 (fun y=>AV.agg (aC y)) x7) x7.length),(.arr 4 (List.map aA x8) 0 0 true)]
def sD:Ans:=.norm 0 ⟨[(4,[]),(5,[])],[],false,[],[none,none,some 1]⟩
theorem aDQ (k:Nat) (x1:Int) (x2:Int) (x3:Int) (x4:Int) (x5:aG) (x6:Ty8) (x7:Ty2) (x8:Ty7) (r:Int × Int × aG × Ty8 × Ty2 × Ty7) (h:lW k x1 x2 x3 x4 x5 x6 x7 x8=some r):Tri Try.prog 21 [(.hp 0 0),(.agg [(.int .i64 x1),(.int .i64 x2),(.int .u8 x3),(.int .i64 x4)])] [(.row [(.sl 2 (List.map aB x5)),(.sl 3 (List.map aD x6)),(.mp 1),(.ref 4 2 0 0 x8.length .virt)]),(.map (bA .i64 (fun y=>AV.agg (aC y)) x7) x7.length),(.arr 4 (List.map aA x8) 0 0 true)] (.tup [(.int .i64 r.2.1),(.int .i64 r.1)]) [(.row [(.sl 2 (List.map aB r.2.2.1)),(.sl 3 (List.map aD r.2.2.2.1)),(.mp 1),(.ref 4 2 1 0 r.2.2.2.2.2.length .virt)]),(.map (bA .i64 (fun y=>AV.agg (aC y)) r.2.2.2.2.1) r.2.2.2.2.1.length),(.arr 4 (List.map aA r.2.2.2.2.2) 1 1 true)]:=by
 unfold lW at h
 let w2:List Prf:=[⟨(nF (nT rfl))⟩,⟨(lR x5 x6 x7 x8)⟩]
 by_cases c0:ltI x1 1=true
 · rw[if_pos c0] at h
   obtain rfl:=osi h
   exact Tri.of (x:=(aA9 x5 x6 x7 x8)) aE jG [(aO0 x5 x6 x7 x8),df,dt,dt,dt,dt,dt,dt,dt,dt,dt,dt,dt,dt,dt,sD] ([⟨rT⟩,⟨rT⟩,⟨rT⟩,⟨rT⟩,⟨rT⟩,⟨rT⟩,⟨rT⟩,⟨rT⟩,⟨rT⟩,⟨c0⟩,⟨c0⟩,⟨c0⟩,⟨c0⟩]++w2) (by kernel_rfl)
 rw[if_neg c0] at h;replace c0:=eqf c0
 let u3:List Ans:=[(aO0 x5 x6 x7 x8),df,df,df,df,df]
 by_cases c1:ltI 6 x1=true
 · rw[if_pos c1] at h
   obtain rfl:=osi h
   exact Tri.of (x:=(aA9 x5 x6 x7 x8)) aE jG (u3++[dt,dt,dt,dt,dt,dt,dt,dt,dt,sD]) ([⟨rT⟩,⟨rT⟩,⟨rT⟩,⟨rT⟩,⟨rT⟩,⟨c1⟩,⟨c1⟩,⟨c1⟩,⟨c1⟩,⟨c0⟩,⟨c0⟩,⟨c0⟩,⟨c0⟩]++w2) (by kernel_rfl)
 rw[if_neg c1] at h;replace c1:=eqf c1
 let w6:List Prf:=[⟨c1⟩,⟨c1⟩,⟨c1⟩,⟨c1⟩,⟨c0⟩,⟨c0⟩,⟨c0⟩,⟨c0⟩]++w2
 by_cases c2:ltI x2 0=true
 · rw[if_pos c2] at h
   obtain rfl:=osi h
   exact Tri.of (x:=(aA9 x5 x6 x7 x8)) aE jG (u3++[df,df,df,df,dt,dt,dt,dt,dt,sD]) ([⟨rT⟩,⟨c2⟩,⟨c2⟩,⟨c2⟩,⟨c2⟩]++w6) (by kernel_rfl)
 rw[if_neg c2] at h;replace c2:=eqf c2
 let u7:List Ans:=u3++[df,df,df,df,df,df,df,df]
 by_cases c3:ltI x2 1000=true
 · rw[if_pos c3] at h
   let w10:List Prf:=[⟨(nF c3)⟩,⟨c2⟩,⟨c2⟩,⟨c2⟩,⟨c2⟩]++w6
   by_cases c4:k9 x7 x2=true
   · rw[if_pos c4] at h
     obtain⟨x9,e5,h⟩:=bsm h
     let w12:List Prf:=[⟨(g4 .i64 (fun y=>AV.agg (aC y)) e5)⟩]++w10
     by_cases c6:eqB true (eqI x1 1)=true
     · rw[if_pos c6] at h
       obtain rfl:=osi h
       exact Tri.of (x:=(aA9 x5 x6 x7 x8)) aE jG (u7++[df,.opt (some (.agg [(.int .i64 x9.1),(.sl 2 (List.map aB x9.2.1)),(.bool x9.2.2.1),(.int .i64 x9.2.2.2)])),dt,dt,sD]) ([⟨rT⟩,⟨c6⟩]++w12) (by kernel_rfl)
     rw[if_neg c6] at h;replace c6:=eqf c6
     obtain⟨x10,e7,h⟩:=bsm h
     let u13:List Ans:=u7++[df,.opt (some (.agg [(.int .i64 x9.1),(.sl 2 (List.map aB x9.2.1)),(.bool x9.2.2.1),(.int .i64 x9.2.2.2)])),df,.call ⟨true,[]⟩ (.tup [(.int .i64 x10.1),(.int .i64 x10.2.1)]) [(.row [(.sl 2 (List.map aB x10.2.2.2.2)),(.sl 3 (List.map aD x10.2.2.1)),(.mp 1),(.ref 4 2 0 0 x8.length .virt)]),(.map (bA .i64 (fun y=>AV.agg (aC y)) x10.2.2.2.1) x10.2.2.2.1.length),(.arr 4 (List.map aA x8) 0 0 true)]]
     let w14:List Prf:=[⟨(tO k x9.1 x9.2.1 x9.2.2.1 x9.2.2.2 x1 x2 x3 x4 x5 x6 x7 x8 _ e7)⟩,⟨c6⟩]++w12
     by_cases c8:eqI x10.2.1 0=true
     · rw[if_pos c8] at h
       by_cases c9:cR (((x8++[(x1,x2,x3,x4)]).length)*32)=true
       · rw[if_pos c9] at h
         obtain rfl:=osi h
         exact Tri.of (x:=(aA9 x5 x6 x7 x8)) aE jG (u13++[df,.rows (List.map aA [(x1,x2,x3,x4)]),.n ((x8++[(x1,x2,x3,x4)]).length),.n x8.length,dt,.rows (List.map aA (x8++[(x1,x2,x3,x4)])),sD]) ([⟨(aAV aA x8 [(x1,x2,x3,x4)])⟩,⟨(wT x8.length)⟩,⟨(aS aA x8)⟩,⟨c9⟩,⟨(by simp only[wl,List.length_map,List.map_nil,List.map_cons]<;>omega:x8.length+(List.map aA [(x1,x2,x3,x4)]).length=(x8++[(x1,x2,x3,x4)]).length)⟩,⟨(b8 aA (l:=[(x1,x2,x3,x4)]) (n:=1) rfl)⟩,⟨(eT aA (Nat.le_refl 1):0+1≤(List.map aA [(x1,x2,x3,x4)]).length)⟩,⟨(nF c8)⟩]++w14) (by kernel_rfl)
       rw[if_neg c9] at h;replace c9:=eqf c9
       cases h
     rw[if_neg c8] at h;replace c8:=eqf c8
     obtain rfl:=osi h
     exact Tri.of (x:=(aA9 x5 x6 x7 x8)) aE jG (u13++[dt,sD]) ([⟨(nT c8)⟩]++w14) (by kernel_rfl)
   rw[if_neg c4] at h;replace c4:=eqf c4
   let w16:List Prf:=[⟨(j8 .i64 (fun y=>AV.agg (aC y)) c4)⟩]++w10
   by_cases c5:eqB false (eqI x1 1)=true
   · rw[if_pos c5] at h
     obtain rfl:=osi h
     exact Tri.of (x:=(aA9 x5 x6 x7 x8)) aE jG (u7++[df,.opt none,dt,df,sD]) ([⟨rF⟩,⟨c5⟩]++w16) (by kernel_rfl)
   rw[if_neg c5] at h;replace c5:=eqf c5
   obtain⟨x9,e6,h⟩:=bsm h
   let u17:List Ans:=u7++[df,.opt none,df,.call ⟨true,[]⟩ (.tup [(.int .i64 x9.1),(.int .i64 x9.2.1)]) [(.row [(.sl 2 (List.map aB x9.2.2.2.2)),(.sl 3 (List.map aD x9.2.2.1)),(.mp 1),(.ref 4 2 0 0 x8.length .virt)]),(.map (bA .i64 (fun y=>AV.agg (aC y)) x9.2.2.2.1) x9.2.2.2.1.length),(.arr 4 (List.map aA x8) 0 0 true)]]
   let w18:List Prf:=[⟨(tO k 0 [] false 0 x1 x2 x3 x4 x5 x6 x7 x8 _ e6)⟩,⟨c5⟩]++w16
   by_cases c7:eqI x9.2.1 0=true
   · rw[if_pos c7] at h
     by_cases c8:cR (((x8++[(x1,x2,x3,x4)]).length)*32)=true
     · rw[if_pos c8] at h
       obtain rfl:=osi h
       exact Tri.of (x:=(aA9 x5 x6 x7 x8)) aE jG (u17++[df,.rows (List.map aA [(x1,x2,x3,x4)]),.n ((x8++[(x1,x2,x3,x4)]).length),.n x8.length,dt,.rows (List.map aA (x8++[(x1,x2,x3,x4)])),sD]) ([⟨(aAV aA x8 [(x1,x2,x3,x4)])⟩,⟨(wT x8.length)⟩,⟨(aS aA x8)⟩,⟨c8⟩,⟨(by simp only[wl,List.length_map,List.map_nil,List.map_cons]<;>omega:x8.length+(List.map aA [(x1,x2,x3,x4)]).length=(x8++[(x1,x2,x3,x4)]).length)⟩,⟨(b8 aA (l:=[(x1,x2,x3,x4)]) (n:=1) rfl)⟩,⟨(eT aA (Nat.le_refl 1):0+1≤(List.map aA [(x1,x2,x3,x4)]).length)⟩,⟨(nF c7)⟩]++w18) (by kernel_rfl)
     rw[if_neg c8] at h;replace c8:=eqf c8
     cases h
   rw[if_neg c7] at h;replace c7:=eqf c7
   obtain rfl:=osi h
   exact Tri.of (x:=(aA9 x5 x6 x7 x8)) aE jG (u17++[dt,sD]) ([⟨(nT c7)⟩]++w18) (by kernel_rfl)
 rw[if_neg c3] at h;replace c3:=eqf c3
 obtain rfl:=osi h
 exact Tri.of (x:=(aA9 x5 x6 x7 x8)) aE jG (u7++[dt,sD]) ([⟨(nT c3)⟩,⟨c2⟩,⟨c2⟩,⟨c2⟩,⟨c2⟩]++w6) (by kernel_rfl)
end Go.Ws

namespace Go.Ws
open Go.Proofs
set_option linter.unusedSimpArgs false
set_option linter.unusedVariables false
set_option maxRecDepth 1000000
set_option maxHeartbeats 4000000
noncomputable def X7:Ctx:=⟨Try.f7,[],true⟩
noncomputable def L7_2:Code:=at_ Try.f7 [1,1,1,1,1,1,1,1,0,1,4,5]
def S7_2 (x6:aG × Int) (x9:aG × Ty8 × Ty2 × Ty7) (x11:aG × Int) (eK:Int):St:=⟨mkT 101 [(3,(.hp 0 0)),(6,(.sl 2 (List.map aB x6.1))),(7,(.int .i64 x6.2)),(14,(.sl 2 (List.map aB x11.1))),(15,(.int .i64 x11.2)),(79,(.int .u8 eK))],[(.row [(.sl 2 (List.map aB x9.1)),(.sl 3 (List.map aD x9.2.1)),(.mp 1),(.ref 4 2 0 0 x9.2.2.2.length .virt)]),(.map (bA .i64 (fun y=>AV.agg (aC y)) x9.2.2.1) x9.2.2.1.length),(.arr 4 (List.map aA x9.2.2.2) 0 0 true)]⟩
def aNW (x6:aG × Int) (x11:aG × Int):St:=⟨mkT 101 [(6,(.sl 2 (List.map aB x6.1))),(7,(.int .i64 x6.2)),(14,(.sl 2 (List.map aB x11.1))),(15,(.int .i64 x11.2))],[]⟩
def O7_2 (x6:aG × Int) (x9:aG × Ty8 × Ty2 × Ty7) (x11:aG × Int) (y:xC):GX:=match y with
 | .inl y=>.st (.exit 4) (aNW x6 x11)
 | .inr y=>.fin (.bool y) []
noncomputable def L7_1:Code:=at_ Try.f7 [1,1,1,1,1,1,0,1,4,5]
def S7_1 (x4:aG × Ty8 × Ty2 × Ty7) (x6:aG × Int) (d6:Int) (eC:aG) (eD:Ty8) (dP:Ty2) (dQ:Ty7):St:=⟨mkT 101 [(3,(.hp 0 0)),(6,(.sl 2 (List.map aB x6.1))),(7,(.int .i64 x6.2)),(46,(.ref 4 1 0 0 x4.2.2.2.length .virt)),(47,(.int .i64 (nI x4.2.2.2.length))),(48,(.int .i64 d6))],[(.row [(.sl 2 (List.map aB eC)),(.sl 3 (List.map aD eD)),(.mp 2),(.ref 4 3 0 0 dQ.length .virt)]),(.arr 4 (List.map aA x4.2.2.2) 0 0 false),(.map (bA .i64 (fun y=>AV.agg (aC y)) dP) dP.length),(.arr 4 (List.map aA dQ) 0 0 true)]⟩
def aNE (x6:aG × Int) (v7012_1:aG) (v7012_2:Ty8) (aQJ:Ty2) (aQK:Ty7):St:=⟨mkT 101 [(3,(.hp 0 0)),(6,(.sl 2 (List.map aB x6.1))),(7,(.int .i64 x6.2))],[(.row [(.sl 2 (List.map aB v7012_1)),(.sl 3 (List.map aD v7012_2)),(.mp 1),(.ref 4 2 0 0 aQK.length .virt)]),(.map (bA .i64 (fun y=>AV.agg (aC y)) aQJ) aQJ.length),(.arr 4 (List.map aA aQK) 0 0 true)]⟩
def O7_1 (x4:aG × Ty8 × Ty2 × Ty7) (x6:aG × Int) (y:(Sum (aG × Ty8 × Ty2 × Ty7) (Bool))):GX:=match y with
 | .inl y=>.st (.exit 2) (aNE x6 y.1 y.2.1 y.2.2.1 y.2.2.2)
 | .inr y=>.fin (.bool y) []
noncomputable def L7_0:Code:=at_ Try.f7 [1,1,1,1,0,1,4,5]
def S7_0 (x1:Ty7) (eS:Int) (f6:aG) (gA:Ty8) (fS:Ty2) (fT:Ty7):St:=⟨mkT 101 [(3,(.hp 0 0)),(29,(.sl 4 (List.map aA x1))),(30,(.int .i64 (nI x1.length))),(31,(.int .i64 eS))],[(.row [(.sl 2 (List.map aB f6)),(.sl 3 (List.map aD gA)),(.mp 1),(.ref 4 2 0 0 fT.length .virt)]),(.map (bA .i64 (fun y=>AV.agg (aC y)) fS) fS.length),(.arr 4 (List.map aA fT) 0 0 false)]⟩
def aN9 (v7002_1:aG) (v7002_2:Ty8) (aQL:Ty2) (aQM:Ty7):St:=⟨mkT 101 [(3,(.hp 0 0))],[(.row [(.sl 2 (List.map aB v7002_1)),(.sl 3 (List.map aD v7002_2)),(.mp 1),(.ref 4 2 0 0 aQM.length .virt)]),(.map (bA .i64 (fun y=>AV.agg (aC y)) aQL) aQL.length),(.arr 4 (List.map aA aQM) 0 0 false)]⟩
def O7_0 (x1:Ty7) (y:(aG × Ty8 × Ty2 × Ty7)):GX:=.st (.exit 0) (aN9 y.1 y.2.1 y.2.2.1 y.2.2.2)
def A7_0 (fR:Int × Int × aG × Ty8 × Ty2 × Ty7):Ans:=.call ⟨true,[]⟩ (.tup [(.int .i64 fR.2.1),(.int .i64 fR.1)]) [(.row [(.sl 2 (List.map aB fR.2.2.1)),(.sl 3 (List.map aD fR.2.2.2.1)),(.mp 1),(.ref 4 2 1 0 fR.2.2.2.2.2.length .virt)]),(.map (bA .i64 (fun y=>AV.agg (aC y)) fR.2.2.2.2.1) fR.2.2.2.2.1.length),(.arr 4 (List.map aA fR.2.2.2.2.2) 1 1 true)]
def A7_1 (x4:aG × Ty8 × Ty2 × Ty7):Ans:=.call ⟨true,[]⟩ (.ref 4 3 0 0 x4.2.2.2.length .virt) [(.row [(.sl 2 (List.map aB x4.1)),(.sl 3 (List.map aD x4.2.1)),(.mp 1),(.ref 4 2 0 0 x4.2.2.2.length .virt)]),(.map (bA .i64 (fun y=>AV.agg (aC y)) x4.2.2.1) x4.2.2.1.length),(.arr 4 (List.map aA x4.2.2.2) 0 0 true),(.arr 4 (List.map aA x4.2.2.2) 0 0 false)]
theorem nO (x6:aG × Int) (x9:aG × Ty8 × Ty2 × Ty7) (x11:aG × Int) (y:xC):∀(k:Nat) (eK:Int),cV k x6 x9 x11 eK=some y→LT Try.prog X7 L7_2 (S7_2 x6 x9 x11 eK) (O7_2 x6 x9 x11 y)
 | 0,eK,h=>by cases h
 | k+1,eK,h=>by
  rw[cV] at h
  by_cases cL0:ltI eK 64=true
  · rw[if_pos cL0] at h
    obtain⟨aAW,eL1,h⟩:=bsm h
    obtain⟨aAX,eL2,h⟩:=bsm h
    let u1:List Ans:=[dt,.call ⟨true,[]⟩ (.int .i64 aAW) [(.row [(.sl 2 (List.map aB x9.1)),(.sl 3 (List.map aD x9.2.1)),(.mp 1),(.ref 4 2 0 0 x9.2.2.2.length .virt)]),(.map (bA .i64 (fun y=>AV.agg (aC y)) x9.2.2.1) x9.2.2.1.length),(.arr 4 (List.map aA x9.2.2.2) 0 0 true)],.call ⟨true,[]⟩ (.int .i64 aAX) []]
    let w2:List Prf:=[⟨(aKS k x6.1 eK _ eL2)⟩,⟨(aD4 k eK x9.1 x9.2.1 x9.2.2.1 x9.2.2.2 _ eL1)⟩,⟨cL0⟩]
    by_cases cL3:eqI aAW aAX=true
    · rw[if_pos cL3] at h
      exact LT.next aE (hs:=⟨[(3,[]),(6,[]),(7,[]),(14,[]),(15,[]),(79,[])],[⟨.tmp 3,[],none⟩,⟨.cell 0 2,[],none⟩,⟨.cell 0 3,[],none⟩],false,[],[]⟩) (es:=none) (u1++[df]) ([⟨(nF cL3)⟩]++w2) (by kernel_rfl) (nO x6 x9 x11 y k (aH .u8 eK 1) h)
    rw[if_neg cL3] at h;replace cL3:=eqf cL3
    obtain rfl:=osi h
    show LT _ _ _ _ (.fin (.bool false) [])
    exact LT.done aE (hs:=⟨[],[],false,[],[]⟩) (es:=none) (u1++[dt]) ([⟨(nT cL3)⟩]++w2) (by kernel_rfl) (fun s h=>by cases h)
  rw[if_neg cL0] at h;replace cL0:=eqf cL0
  obtain rfl:=osi h
  show LT _ _ _ _ (.st (.exit 4) (aNW x6 x11))
  exact LT.done aE (hs:=⟨[],[],false,[],[]⟩) (es:=(some ⟨[(6,[]),(7,[]),(14,[]),(15,[])],[],false,[],[]⟩)) [df] [⟨cL0⟩] (by kernel_rfl) (fun s h=>by cases h)
theorem kO (x4:aG × Ty8 × Ty2 × Ty7) (x6:aG × Int) (y:(Sum (aG × Ty8 × Ty2 × Ty7) (Bool))):∀(k:Nat) (d6:Int) (eC:aG) (eD:Ty8) (dP:Ty2) (dQ:Ty7),cI k x4 x6 d6 eC eD dP dQ=some y→LT Try.prog X7 L7_1 (S7_1 x4 x6 d6 eC eD dP dQ) (O7_1 x4 x6 y)
 | 0,d6,eC,eD,dP,dQ,h=>by cases h
 | k+1,d6,eC,eD,dP,dQ,h=>by
  rw[cI] at h
  by_cases cL0:ltI d6 (nI x4.2.2.2.length)=true
  · rw[if_pos cL0] at h
    by_cases cL1:inI d6 x4.2.2.2.length=true
    · rw[if_pos cL1] at h
      obtain⟨pQ,eL2,h⟩:=bsm h
      obtain⟨rG,eL3,h⟩:=bsm h
      let u3:List Ans:=[dt,.row [(.int .i64 pQ.1),(.int .i64 pQ.2.1),(.int .u8 pQ.2.2.1),(.int .i64 pQ.2.2.2)],.call ⟨true,[]⟩ (.tup [(.agg [(.int .i64 rG.1),(.ref 2 3 0 0 rG.2.2.2.1.length .virt),(.bool rG.2.1),(.int .i64 rG.2.2.1)]),(.bool rG.2.2.2.2)]) [(.row [(.sl 2 (List.map aB eC)),(.sl 3 (List.map aD eD)),(.mp 1),(.ref 4 2 0 0 dQ.length .virt)]),(.map (bA .i64 (fun y=>AV.agg (aC y)) dP) dP.length),(.arr 4 (List.map aA dQ) 0 0 true),(.arr 2 (List.map aB rG.2.2.2.1) 0 0 false)]]
      let w4:List Prf:=[⟨(aDE k pQ.2.1 eC eD dP dQ _ eL3)⟩,⟨(b7 (e:=aA) eL2 4 0 4 (by decide))⟩,⟨cL1⟩,⟨cL0⟩]
      by_cases cL4:eqI rG.1 3=true
      · rw[if_pos cL4] at h
        exact LT.next aE (hs:=⟨[(3,[]),(6,[]),(7,[]),(46,[]),(47,[]),(48,[])],[⟨.tmp 3,[],none⟩,⟨.tmp 46,[],none⟩,⟨.cell 0 2,[],none⟩,⟨.cell 0 3,[],none⟩],false,[],[]⟩) (es:=none) (u3++[df]) ([⟨(nF cL4)⟩]++w4) (by kernel_rfl) (kO x4 x6 y k (aH .i64 d6 1) eC eD dP dQ h)
      rw[if_neg cL4] at h;replace cL4:=eqf cL4
      obtain⟨fR,eL5,h⟩:=bsm h
      let w6:List Prf:=[⟨(aDQ k 6 pQ.2.1 0 2 eC eD dP dQ _ eL5)⟩,⟨(nT cL4)⟩]++w4
      by_cases cL6:eqI fR.1 0=true
      · rw[if_pos cL6] at h
        exact LT.next aE (hs:=⟨[(3,[]),(6,[]),(7,[]),(46,[]),(47,[]),(48,[])],[⟨.tmp 3,[],none⟩,⟨.tmp 46,[],none⟩,⟨.cell 0 2,[],none⟩,⟨.cell 0 3,[],none⟩],false,[],[]⟩) (es:=none) (u3++[dt,(A7_0 fR),df]) ([⟨(nF cL6)⟩]++w6) (by kernel_rfl) (kO x4 x6 y k (aH .i64 d6 1) fR.2.2.1 fR.2.2.2.1 fR.2.2.2.2.1 fR.2.2.2.2.2 h)
      rw[if_neg cL6] at h;replace cL6:=eqf cL6
      obtain rfl:=osi h
      show LT _ _ _ _ (.fin (.bool false) [])
      exact LT.done aE (hs:=⟨[],[],false,[],[]⟩) (es:=none) (u3++[dt,(A7_0 fR),dt]) ([⟨(nT cL6)⟩]++w6) (by kernel_rfl) (fun s h=>by cases h)
    rw[if_neg cL1] at h;replace cL1:=eqf cL1
    cases h
  rw[if_neg cL0] at h;replace cL0:=eqf cL0
  obtain rfl:=osi h
  show LT _ _ _ _ (.st (.exit 2) (aNE x6 eC eD dP dQ))
  exact LT.done aE (hs:=⟨[],[],false,[],[]⟩) (es:=(some ⟨[(3,[]),(6,[]),(7,[])],[⟨.tmp 3,[],none⟩,⟨.cell 0 2,[],none⟩,⟨.cell 0 3,[],none⟩],false,[],[]⟩)) [df] [⟨cL0⟩] (by kernel_rfl) (fun s h=>by cases h)
theorem rL (x1:Ty7) (y:(aG × Ty8 × Ty2 × Ty7)):∀(k:Nat) (eS:Int) (f6:aG) (gA:Ty8) (fS:Ty2) (fT:Ty7),cU k x1 eS f6 gA fS fT=some y→LT Try.prog X7 L7_0 (S7_0 x1 eS f6 gA fS fT) (O7_0 x1 y)
 | 0,eS,f6,gA,fS,fT,h=>by cases h
 | k+1,eS,f6,gA,fS,fT,h=>by
  rw[cU] at h
  by_cases cL0:ltI eS (nI x1.length)=true
  · rw[if_pos cL0] at h
    by_cases cL1:inI eS x1.length=true
    · rw[if_pos cL1] at h
      obtain⟨kP,eL2,h⟩:=bsm h
      obtain⟨fM,eL3,h⟩:=bsm h
      exact LT.next aE (hs:=⟨[(3,[]),(29,[]),(30,[]),(31,[])],[⟨.tmp 3,[],none⟩,⟨.cell 0 2,[],none⟩,⟨.cell 0 3,[],some 4⟩],false,[],[]⟩) (es:=none) [dt,.n x1.length,.row [(.int .i64 kP.1),(.int .i64 kP.2.1),(.int .u8 kP.2.2.1),(.int .i64 kP.2.2.2)],.call ⟨true,[]⟩ (.tup [(.int .i64 fM.2.1),(.int .i64 fM.1)]) [(.row [(.sl 2 (List.map aB fM.2.2.1)),(.sl 3 (List.map aD fM.2.2.2.1)),(.mp 1),(.ref 4 2 1 0 fM.2.2.2.2.2.length .virt)]),(.map (bA .i64 (fun y=>AV.agg (aC y)) fM.2.2.2.2.1) fM.2.2.2.2.1.length),(.arr 4 (List.map aA fM.2.2.2.2.2) 1 1 false)],.n fM.2.2.2.2.2.length,.rows (List.map aA fM.2.2.2.2.2)] [⟨(fF aA (l:=fM.2.2.2.2.2) (n:=fM.2.2.2.2.2.length) rfl)⟩,⟨(rfl:fM.2.2.2.2.2.length=fM.2.2.2.2.2.length)⟩,⟨(zle fM.2.2.2.2.2.length)⟩,⟨(vE k kP.1 kP.2.1 kP.2.2.1 kP.2.2.2 f6 gA fS fT _ eL3)⟩,⟨(b7 (e:=aA) eL2 4 0 4 (by decide))⟩,⟨cL1⟩,⟨(aS aA x1)⟩,⟨cL0⟩] (by kernel_rfl) (rL x1 y k (aH .i64 eS 1) fM.2.2.1 fM.2.2.2.1 fM.2.2.2.2.1 fM.2.2.2.2.2 h)
    rw[if_neg cL1] at h;replace cL1:=eqf cL1
    cases h
  rw[if_neg cL0] at h;replace cL0:=eqf cL0
  obtain rfl:=osi h
  show LT _ _ _ _ (.st (.exit 0) (aN9 f6 gA fS fT))
  exact LT.done aE (hs:=⟨[],[],false,[],[]⟩) (es:=(some ⟨[(3,[])],[⟨.tmp 3,[],none⟩,⟨.cell 0 2,[],none⟩,⟨.cell 0 3,[],none⟩],false,[],[]⟩)) [df] [⟨cL0⟩] (by kernel_rfl) (fun s h=>by cases h)
theorem aBM (k:Nat) (x1:Ty7) (r:Bool) (h:mY k x1=some r):Tri Try.prog 7 [(.sl 4 (List.map aA x1))] [] (.bool r) []:=by
 unfold mY at h
 obtain⟨x2,e0,h⟩:=bsm h
 let u7:List Ans:=[.call ⟨true,[]⟩ (.bool x2) []]
 by_cases c1:x2=true
 · rw[if_pos c1] at h
   let u9:List Ans:=u7++[df,.call ⟨true,[]⟩ (.hp 0 0) [(.row [.nils,.nils,(.mp 1),.nils]),(.map (bA .i64 (fun y=>AV.agg (aC y)) ([]:Ty2)) ([]:Ty2).length)],df,df,.n x1.length,df,df]
   let w10:List Prf:=[⟨rF⟩,⟨rF⟩,⟨(aS aA x1)⟩,⟨rF⟩,⟨rF⟩,⟨(aE8)⟩,⟨(nF c1)⟩,⟨(zQ k _ e0)⟩]
   by_cases c2:ltI 100 (nI x1.length)=true
   · rw[if_pos c2] at h
     obtain rfl:=osi h
     exact Tri.of (x:=X7) aE aB3 (u9++[dt]) ([⟨c2⟩]++w10) (by kernel_rfl)
   rw[if_neg c2] at h;replace c2:=eqf c2
   obtain⟨x4,e3,h⟩:=bsm h
   obtain⟨x5,e5,h⟩:=bsm h
   obtain⟨x6,e6,h⟩:=bsm h
   obtain⟨x7,e7,h⟩:=bsm h
   let u11:List Ans:=u9++[df,.n x1.length,.norm 2 ⟨[(3,[]),(29,[]),(30,[]),(31,[])],[⟨.tmp 3,[(0,2),(1,3)],none⟩,⟨.cell 0 2,[],none⟩,⟨.cell 0 3,[],some 4⟩],false,[],[]⟩,.n 0,.rows (List.map aA []),.out (.st .normal (aN9 x4.1 x4.2.1 x4.2.2.1 x4.2.2.2)),(A7_1 x4),.call ⟨true,[]⟩ (.tup [(.sl 2 (List.map aB x6.1)),(.int .i64 x6.2)]) [],.rows (List.map aA x4.2.2.2),(A7_1 x4),.norm 8 ⟨[(3,[]),(6,[]),(7,[]),(46,[]),(47,[]),(48,[])],[⟨.tmp 3,[],none⟩,⟨.tmp 46,[],none⟩,⟨.cell 0 2,[],none⟩,⟨.cell 0 3,[],none⟩],false,[],[]⟩]
   let w12:List Prf:=[⟨(uU k x4.1 x4.2.1 x4.2.2.1 x4.2.2.2 _ e7)⟩,⟨(pK k x4.2.2.2 _ e6)⟩,⟨(b8 aA (l:=x4.2.2.2) (n:=x4.2.2.2.length) rfl)⟩,⟨(eT aA (Nat.le_refl x4.2.2.2.length):0+x4.2.2.2.length≤(List.map aA x4.2.2.2).length)⟩,⟨(aD8 k x4.1 x4.2.1 x4.2.2.1 x4.2.2.2 _ e5)⟩,⟨(LT.block (rL x1 _ k 0 [] [] ([]:Ty2) [] e3))⟩,⟨(fF aA (l:=[]) (n:=0) rfl)⟩,⟨(rfl:0=0)⟩,⟨(zle 0)⟩,⟨(aS aA x1)⟩,⟨c2⟩]++w10
   obtain⟨x8,e8,h⟩:=bsm h
   cases x8 with
   | inl x9 =>
    simp only[Sum.elim_inl] at h
    obtain⟨x10,e10,h⟩:=bsm h
    obtain⟨x11,e11,h⟩:=bsm h
    let u13:List Ans:=u11++[.out (.st .normal (aNE x6 x9.1 x9.2.1 x9.2.2.1 x9.2.2.2)),.call ⟨true,[]⟩ (.ref 4 3 0 0 x9.2.2.2.length .virt) [(.row [(.sl 2 (List.map aB x9.1)),(.sl 3 (List.map aD x9.2.1)),(.mp 1),(.ref 4 2 0 0 x9.2.2.2.length .virt)]),(.map (bA .i64 (fun y=>AV.agg (aC y)) x9.2.2.1) x9.2.2.1.length),(.arr 4 (List.map aA x9.2.2.2) 0 0 true),(.arr 4 (List.map aA x9.2.2.2) 0 0 false)],.call ⟨true,[]⟩ (.tup [(.sl 2 (List.map aB x11.1)),(.int .i64 x11.2)]) [],.rows (List.map aA x9.2.2.2),.norm 14 ⟨[(3,[]),(6,[]),(7,[]),(14,[]),(15,[]),(79,[])],[⟨.tmp 3,[],none⟩,⟨.cell 0 2,[],none⟩,⟨.cell 0 3,[],none⟩],false,[],[]⟩]
    let w14:List Prf:=[⟨(pK k x9.2.2.2 _ e11)⟩,⟨(b8 aA (l:=x9.2.2.2) (n:=x9.2.2.2.length) rfl)⟩,⟨(eT aA (Nat.le_refl x9.2.2.2.length):0+x9.2.2.2.length≤(List.map aA x9.2.2.2).length)⟩,⟨(uU k x9.1 x9.2.1 x9.2.2.1 x9.2.2.2 _ e10)⟩,⟨(LT.block (kO x4 x6 _ k 0 x4.1 x4.2.1 x4.2.2.1 x4.2.2.2 e8))⟩]++w12
    obtain⟨x12,e12,h⟩:=bsm h
    cases x12 with
    | inl x13 =>
     simp only[Sum.elim_inl] at h
     let u15:List Ans:=u13++[.out (.st .normal (aNW x6 x11))]
     let w16:List Prf:=[⟨(LT.block (nO x6 x9 x11 _ k 0 e12))⟩]++w14
     by_cases c14:eqI x6.2 0=true
     · rw[if_pos c14] at h
       by_cases c15:eqI x11.2 0=true
       · rw[if_pos c15] at h
         obtain⟨x14,e16,h⟩:=bsm h
         obtain rfl:=osi h
         exact Tri.of (x:=X7) aE aB3 (u15++[dt,dt,dt,dt,dt,dt,.call ⟨true,[]⟩ (.bool x14) [],dt]) ([⟨c15⟩,⟨(aIC k x6.1 x11.1 _ e16)⟩,⟨c15⟩,⟨c15⟩,⟨c15⟩,⟨c14⟩,⟨c14⟩,⟨c14⟩]++w16) (by kernel_rfl)
       rw[if_neg c15] at h;replace c15:=eqf c15
       obtain rfl:=osi h
       exact Tri.of (x:=X7) aE aB3 (u15++[dt,dt,dt,df,df,df,df]) ([⟨c15⟩,⟨c15⟩,⟨c15⟩,⟨c15⟩,⟨c14⟩,⟨c14⟩,⟨c14⟩]++w16) (by kernel_rfl)
     rw[if_neg c14] at h;replace c14:=eqf c14
     obtain rfl:=osi h
     exact Tri.of (x:=X7) aE aB3 (u15++[df,df,df,df,df,df,df]) ([⟨rF⟩,⟨rF⟩,⟨rF⟩,⟨rF⟩,⟨c14⟩,⟨c14⟩,⟨c14⟩]++w16) (by kernel_rfl)
    | inr x13 =>
     simp only[Sum.elim_inr] at h
     obtain rfl:=osi h
     exact Tri.of (x:=X7) aE aB3 (u13++[.out (.fin (.bool x13) [])]) ([⟨(LT.blockFin (id:=4) (nO x6 x9 x11 _ k 0 e12))⟩]++w14) (by kernel_rfl)
   | inr x9 =>
    simp only[Sum.elim_inr] at h
    obtain rfl:=osi h
    exact Tri.of (x:=X7) aE aB3 (u11++[.out (.fin (.bool x9) [])]) ([⟨(LT.blockFin (id:=2) (kO x4 x6 _ k 0 x4.1 x4.2.1 x4.2.2.1 x4.2.2.2 e8))⟩]++w12) (by kernel_rfl)
 rw[if_neg c1] at h;replace c1:=eqf c1
 obtain rfl:=osi h
 exact Tri.of (x:=X7) aE aB3 (u7++[dt]) [⟨(nT c1)⟩,⟨(zQ k _ e0)⟩] (by kernel_rfl)
end Go.Ws
