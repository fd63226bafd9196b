/-
  Walks, merged.
  Conditions: none.
-/
import Derived.Test.YtojldadifhneeaaZPre
import Derived.Test.YtojldadifhneeaaZPure
import Derived.Test.YtojldadifhneeaaZWGSiteNobody0
set_option linter.unusedVariables false
set_option linter.unusedSimpArgs false
namespace Go.Ws
open Go.Proofs
set_option linter.unusedSimpArgs false
set_option linter.unusedVariables false
set_option maxRecDepth 1000000
set_option maxHeartbeats 4000000
noncomputable def zP (x5:aG) (x6:aJ) (x7:Ty6) (x8:aZ):Ctx:=⟨Try.f14,[(.row [(.sl 2 (List.map aA x5)),(.sl 3 (List.map aD x6)),(.mp 1),(.ref 4 2 1 0 x8.length .virt)]),(.map (bU .i64 (fun y=>AV.agg (aB y)) x7) x7.length),(.arr 4 (List.map aC x8) 1 1 true)],false⟩
def sG (x5:aG) (x6:aJ) (x7:Ty6) (x8:aZ):Ans:=.call ⟨true,[]⟩ (.bool (!false)) [(.row [(.sl 2 (List.map aA x5)),(.sl 3 (List.map aD x6)),(.mp 1),(.ref 4 2 1 0 x8.length .virt)]),(.map (bU .i64 (fun y=>AV.agg (aB y)) x7) x7.length),(.arr 4 (List.map aC x8) 1 1 true)]
def sE:Ans:=.norm 0 ⟨[(4,[]),(5,[])],[],false,[],[none,none,some 2]⟩
def aIE (x9:Int × aG × Bool × Int):Ans:=.opt (some (.agg [(.int .i64 x9.1),(.sl 2 (List.map aA x9.2.1)),(.bool x9.2.2.1),(.int .i64 x9.2.2.2)]))
def aMV (x8:aZ) (x10:Int × Int × aJ × Ty6 × aG):Ans:=.call ⟨true,[]⟩ (.tup [(.int .i64 x10.1),(.int .i64 x10.2.1)]) [(.row [(.sl 2 (List.map aA x10.2.2.2.2)),(.sl 3 (List.map aD x10.2.2.1)),(.mp 1),(.ref 4 2 1 0 x8.length .virt)]),(.map (bU .i64 (fun y=>AV.agg (aB y)) x10.2.2.2.1) x10.2.2.2.1.length),(.arr 4 (List.map aC x8) 1 1 true)]
def aL0 (x8:aZ) (x9:Int × Int × aJ × Ty6 × aG):Ans:=.call ⟨true,[]⟩ (.tup [(.int .i64 x9.1),(.int .i64 x9.2.1)]) [(.row [(.sl 2 (List.map aA x9.2.2.2.2)),(.sl 3 (List.map aD x9.2.2.1)),(.mp 1),(.ref 4 2 1 0 x8.length .virt)]),(.map (bU .i64 (fun y=>AV.agg (aB y)) x9.2.2.2.1) x9.2.2.2.1.length),(.arr 4 (List.map aC x8) 1 1 true)]
theorem gE (k:Nat) (x1:Int) (x2:Int) (x3:Int) (x4:Int) (x5:aG) (x6:aJ) (x7:Ty6) (x8:aZ) (r:Int × Int × aG × aJ × Ty6 × aZ) (h:kC k x1 x2 x3 x4 x5 x6 x7 x8=some r):Tri Try.prog 14 [(.hp 0 0),(.agg [(.int .i64 x1),(.int .i64 x2),(.int .u8 x3),(.int .i64 x4)])] [(.row [(.sl 2 (List.map aA x5)),(.sl 3 (List.map aD x6)),(.mp 1),(.ref 4 2 1 0 x8.length .virt)]),(.map (bU .i64 (fun y=>AV.agg (aB y)) x7) x7.length),(.arr 4 (List.map aC x8) 1 1 true)] (.tup [(.int .i64 r.2.1),(.int .i64 r.1)]) [(.row [(.sl 2 (List.map aA r.2.2.1)),(.sl 3 (List.map aD r.2.2.2.1)),(.mp 1),(.ref 4 2 2 0 r.2.2.2.2.2.length .virt)]),(.map (bU .i64 (fun y=>AV.agg (aB y)) r.2.2.2.2.1) r.2.2.2.2.1.length),(.arr 4 (List.map aC r.2.2.2.2.2) 2 2 true)]:=by
 unfold kC at h
 by_cases c0:ltI x1 1=true
 · rw[if_pos c0] at h
   obtain rfl:=osi h
   exact Tri.of (x:=(zP x5 x6 x7 x8)) aF gG [(sG x5 x6 x7 x8),df,dt,dt,dt,dt,dt,dt,dt,dt,dt,dt,dt,dt,dt,sE] [⟨rT⟩,⟨rT⟩,⟨rT⟩,⟨rT⟩,⟨rT⟩,⟨rT⟩,⟨rT⟩,⟨rT⟩,⟨rT⟩,⟨c0⟩,⟨c0⟩,⟨c0⟩,⟨c0⟩,⟨(nF (nT rfl))⟩,⟨(dP x5 x6 x7 x8)⟩] (by kernel_rfl)
 rw[if_neg c0] at h;replace c0:=eqf c0
 by_cases c1:ltI 6 x1=true
 · rw[if_pos c1] at h
   obtain rfl:=osi h
   exact Tri.of (x:=(zP x5 x6 x7 x8)) aF gG [(sG x5 x6 x7 x8),df,df,df,df,df,dt,dt,dt,dt,dt,dt,dt,dt,dt,sE] [⟨rT⟩,⟨rT⟩,⟨rT⟩,⟨rT⟩,⟨rT⟩,⟨c1⟩,⟨c1⟩,⟨c1⟩,⟨c1⟩,⟨c0⟩,⟨c0⟩,⟨c0⟩,⟨c0⟩,⟨(nF (nT rfl))⟩,⟨(dP x5 x6 x7 x8)⟩] (by kernel_rfl)
 rw[if_neg c1] at h;replace c1:=eqf c1
 by_cases c2:ltI x2 0=true
 · rw[if_pos c2] at h
   obtain rfl:=osi h
   exact Tri.of (x:=(zP x5 x6 x7 x8)) aF gG [(sG x5 x6 x7 x8),df,df,df,df,df,df,df,df,df,dt,dt,dt,dt,dt,sE] [⟨rT⟩,⟨c2⟩,⟨c2⟩,⟨c2⟩,⟨c2⟩,⟨c1⟩,⟨c1⟩,⟨c1⟩,⟨c1⟩,⟨c0⟩,⟨c0⟩,⟨c0⟩,⟨c0⟩,⟨(nF (nT rfl))⟩,⟨(dP x5 x6 x7 x8)⟩] (by kernel_rfl)
 rw[if_neg c2] at h;replace c2:=eqf c2
 by_cases c3:ltI x2 1000=true
 · rw[if_pos c3] at h
   by_cases c4:s5 x7 x2=true
   · rw[if_pos c4] at h
     obtain⟨x9,e5,h⟩:=bsm h
     by_cases c6:eqB true (eqI x1 1)=true
     · rw[if_pos c6] at h
       obtain rfl:=osi h
       exact Tri.of (x:=(zP x5 x6 x7 x8)) aF gG [(sG x5 x6 x7 x8),df,df,df,df,df,df,df,df,df,df,df,df,df,df,(aIE x9),dt,dt,sE] [⟨rT⟩,⟨c6⟩,⟨(oK .i64 (fun y=>AV.agg (aB y)) e5)⟩,⟨(nF c3)⟩,⟨c2⟩,⟨c2⟩,⟨c2⟩,⟨c2⟩,⟨c1⟩,⟨c1⟩,⟨c1⟩,⟨c1⟩,⟨c0⟩,⟨c0⟩,⟨c0⟩,⟨c0⟩,⟨(nF (nT rfl))⟩,⟨(dP x5 x6 x7 x8)⟩] (by kernel_rfl)
     rw[if_neg c6] at h;replace c6:=eqf c6
     obtain⟨x10,e7,h⟩:=bsm h
     by_cases c8:eqI x10.2.1 0=true
     · rw[if_pos c8] at h
       by_cases c9:cV (((x8++[(x1,x2,x3,x4)]).length)*32)=true
       · rw[if_pos c9] at h
         obtain rfl:=osi h
         exact Tri.of (x:=(zP x5 x6 x7 x8)) aF gG [(sG x5 x6 x7 x8),df,df,df,df,df,df,df,df,df,df,df,df,df,df,(aIE x9),df,(aMV x8 x10),df,.rows (List.map aC [(x1,x2,x3,x4)]),.n ((x8++[(x1,x2,x3,x4)]).length),.n x8.length,dt,.rows (List.map aC (x8++[(x1,x2,x3,x4)])),sE] [⟨(aBY aC x8 [(x1,x2,x3,x4)])⟩,⟨(yD x8.length)⟩,⟨(aL aC x8)⟩,⟨c9⟩,⟨(by simp only[wl,List.length_map,List.map_nil,List.map_cons]<;>omega:x8.length+(List.map aC [(x1,x2,x3,x4)]).length=(x8++[(x1,x2,x3,x4)]).length)⟩,⟨(bC aC (l:=[(x1,x2,x3,x4)]) (n:=1) rfl)⟩,⟨(cY aC (Nat.le_refl 1):0+1≤(List.map aC [(x1,x2,x3,x4)]).length)⟩,⟨(nF c8)⟩,⟨(lP k x9.1 x9.2.1 x9.2.2.1 x9.2.2.2 x1 x2 x3 x4 x5 x6 x7 x8 _ e7)⟩,⟨c6⟩,⟨(oK .i64 (fun y=>AV.agg (aB y)) e5)⟩,⟨(nF c3)⟩,⟨c2⟩,⟨c2⟩,⟨c2⟩,⟨c2⟩,⟨c1⟩,⟨c1⟩,⟨c1⟩,⟨c1⟩,⟨c0⟩,⟨c0⟩,⟨c0⟩,⟨c0⟩,⟨(nF (nT rfl))⟩,⟨(dP x5 x6 x7 x8)⟩] (by kernel_rfl)
       rw[if_neg c9] at h;replace c9:=eqf c9
       cases h
     rw[if_neg c8] at h;replace c8:=eqf c8
     obtain rfl:=osi h
     exact Tri.of (x:=(zP x5 x6 x7 x8)) aF gG [(sG x5 x6 x7 x8),df,df,df,df,df,df,df,df,df,df,df,df,df,df,(aIE x9),df,(aMV x8 x10),dt,sE] [⟨(nT c8)⟩,⟨(lP k x9.1 x9.2.1 x9.2.2.1 x9.2.2.2 x1 x2 x3 x4 x5 x6 x7 x8 _ e7)⟩,⟨c6⟩,⟨(oK .i64 (fun y=>AV.agg (aB y)) e5)⟩,⟨(nF c3)⟩,⟨c2⟩,⟨c2⟩,⟨c2⟩,⟨c2⟩,⟨c1⟩,⟨c1⟩,⟨c1⟩,⟨c1⟩,⟨c0⟩,⟨c0⟩,⟨c0⟩,⟨c0⟩,⟨(nF (nT rfl))⟩,⟨(dP x5 x6 x7 x8)⟩] (by kernel_rfl)
   rw[if_neg c4] at h;replace c4:=eqf c4
   by_cases c5:eqB false (eqI x1 1)=true
   · rw[if_pos c5] at h
     obtain rfl:=osi h
     exact Tri.of (x:=(zP x5 x6 x7 x8)) aF gG [(sG x5 x6 x7 x8),df,df,df,df,df,df,df,df,df,df,df,df,df,df,.opt none,dt,df,sE] [⟨rF⟩,⟨c5⟩,⟨(oP .i64 (fun y=>AV.agg (aB y)) c4)⟩,⟨(nF c3)⟩,⟨c2⟩,⟨c2⟩,⟨c2⟩,⟨c2⟩,⟨c1⟩,⟨c1⟩,⟨c1⟩,⟨c1⟩,⟨c0⟩,⟨c0⟩,⟨c0⟩,⟨c0⟩,⟨(nF (nT rfl))⟩,⟨(dP x5 x6 x7 x8)⟩] (by kernel_rfl)
   rw[if_neg c5] at h;replace c5:=eqf c5
   obtain⟨x9,e6,h⟩:=bsm h
   by_cases c7:eqI x9.2.1 0=true
   · rw[if_pos c7] at h
     by_cases c8:cV (((x8++[(x1,x2,x3,x4)]).length)*32)=true
     · rw[if_pos c8] at h
       obtain rfl:=osi h
       exact Tri.of (x:=(zP x5 x6 x7 x8)) aF gG [(sG x5 x6 x7 x8),df,df,df,df,df,df,df,df,df,df,df,df,df,df,.opt none,df,(aL0 x8 x9),df,.rows (List.map aC [(x1,x2,x3,x4)]),.n ((x8++[(x1,x2,x3,x4)]).length),.n x8.length,dt,.rows (List.map aC (x8++[(x1,x2,x3,x4)])),sE] [⟨(aBY aC x8 [(x1,x2,x3,x4)])⟩,⟨(yD x8.length)⟩,⟨(aL aC x8)⟩,⟨c8⟩,⟨(by simp only[wl,List.length_map,List.map_nil,List.map_cons]<;>omega:x8.length+(List.map aC [(x1,x2,x3,x4)]).length=(x8++[(x1,x2,x3,x4)]).length)⟩,⟨(bC aC (l:=[(x1,x2,x3,x4)]) (n:=1) rfl)⟩,⟨(cY aC (Nat.le_refl 1):0+1≤(List.map aC [(x1,x2,x3,x4)]).length)⟩,⟨(nF c7)⟩,⟨(lP k 0 [] false 0 x1 x2 x3 x4 x5 x6 x7 x8 _ e6)⟩,⟨c5⟩,⟨(oP .i64 (fun y=>AV.agg (aB y)) c4)⟩,⟨(nF c3)⟩,⟨c2⟩,⟨c2⟩,⟨c2⟩,⟨c2⟩,⟨c1⟩,⟨c1⟩,⟨c1⟩,⟨c1⟩,⟨c0⟩,⟨c0⟩,⟨c0⟩,⟨c0⟩,⟨(nF (nT rfl))⟩,⟨(dP x5 x6 x7 x8)⟩] (by kernel_rfl)
     rw[if_neg c8] at h;replace c8:=eqf c8
     cases h
   rw[if_neg c7] at h;replace c7:=eqf c7
   obtain rfl:=osi h
   exact Tri.of (x:=(zP x5 x6 x7 x8)) aF gG [(sG x5 x6 x7 x8),df,df,df,df,df,df,df,df,df,df,df,df,df,df,.opt none,df,(aL0 x8 x9),dt,sE] [⟨(nT c7)⟩,⟨(lP k 0 [] false 0 x1 x2 x3 x4 x5 x6 x7 x8 _ e6)⟩,⟨c5⟩,⟨(oP .i64 (fun y=>AV.agg (aB y)) c4)⟩,⟨(nF c3)⟩,⟨c2⟩,⟨c2⟩,⟨c2⟩,⟨c2⟩,⟨c1⟩,⟨c1⟩,⟨c1⟩,⟨c1⟩,⟨c0⟩,⟨c0⟩,⟨c0⟩,⟨c0⟩,⟨(nF (nT rfl))⟩,⟨(dP x5 x6 x7 x8)⟩] (by kernel_rfl)
 rw[if_neg c3] at h;replace c3:=eqf c3
 obtain rfl:=osi h
 exact Tri.of (x:=(zP x5 x6 x7 x8)) aF gG [(sG x5 x6 x7 x8),df,df,df,df,df,df,df,df,df,df,df,df,df,dt,sE] [⟨(nT c3)⟩,⟨c2⟩,⟨c2⟩,⟨c2⟩,⟨c2⟩,⟨c1⟩,⟨c1⟩,⟨c1⟩,⟨c1⟩,⟨c0⟩,⟨c0⟩,⟨c0⟩,⟨c0⟩,⟨(nF (nT rfl))⟩,⟨(dP x5 x6 x7 x8)⟩] (by kernel_rfl)
end Go.Ws

namespace Go.Ws
open Go.Proofs
set_option linter.unusedSimpArgs false
set_option linter.unusedVariables false
set_option maxRecDepth 1000000
set_option maxHeartbeats 4000000
noncomputable def X26_5 (x1:aG) (x2:aJ) (x3:Ty6) (x4:aZ):Ctx:=⟨Try.f26,[(.row [(.sl 2 (List.map aA x1)),(.sl 3 (List.map aD x2)),(.mp 1),(.ref 4 2 2 0 x4.length .virt)]),(.map (bU .i64 (fun y=>AV.agg (aB y)) x3) x3.length),(.arr 4 (List.map aC x4) 2 2 true)],false⟩
theorem zE (x1:aG) (x2:aJ) (x3:Ty6) (x4:aZ):Tri Try.prog 26 [(.hp 0 0)] [(.row [(.sl 2 (List.map aA x1)),(.sl 3 (List.map aD x2)),(.mp 1),(.ref 4 2 2 0 x4.length .virt)]),(.map (bU .i64 (fun y=>AV.agg (aB y)) x3) x3.length),(.arr 4 (List.map aC x4) 2 2 true)] (.bool (!false)) [(.row [(.sl 2 (List.map aA x1)),(.sl 3 (List.map aD x2)),(.mp 1),(.ref 4 2 2 0 x4.length .virt)]),(.map (bU .i64 (fun y=>AV.agg (aB y)) x3) x3.length),(.arr 4 (List.map aC x4) 2 2 true)]:=by
 obtain⟨r,h⟩:∃r,rU x1 x2 x3 x4=r:=⟨_,rfl⟩
 try rw[h]
 unfold rU at h
 obtain rfl:=h
 exact Tri.of (x:=(X26_5 x1 x2 x3 x4)) aF aA1 [dt,dt,dt,dt,dt,dt,.norm 0 ⟨[(2,[])],[],false,[],[]⟩] [⟨(nT rfl)⟩,⟨(nT rfl)⟩,⟨(nT rfl)⟩,⟨(nT rfl)⟩,⟨(nT rfl)⟩,⟨(nT rfl)⟩] (by kernel_rfl)
end Go.Ws

namespace Go.Ws
open Go.Proofs
set_option linter.unusedSimpArgs false
set_option linter.unusedVariables false
set_option maxRecDepth 1000000
set_option maxHeartbeats 4000000
noncomputable def X26_9:Ctx:=⟨Try.f26,[],true⟩
theorem fE:Tri Try.prog 26 [.nilp] [] (.bool (bG)) []:=by
 obtain⟨r,h⟩:∃r,bG=r:=⟨_,rfl⟩
 try rw[h]
 unfold bG at h
 obtain rfl:=h
 exact Tri.of (x:=X26_9) aF aA1 [df,df,df,df,df,df] [⟨(nF rfl)⟩,⟨(nF rfl)⟩,⟨(nF rfl)⟩,⟨(nF rfl)⟩,⟨(nF rfl)⟩,⟨(nF rfl)⟩] (by kernel_rfl)
end Go.Ws

namespace Go.Ws
open Go.Proofs
set_option linter.unusedSimpArgs false
set_option linter.unusedVariables false
set_option maxRecDepth 1000000
set_option maxHeartbeats 4000000
noncomputable def aJE:Ctx:=⟨Try.f14,[],true⟩
def aB9:Ans:=.call ⟨true,[]⟩ (.bool bG) []
theorem i7 (k:Nat) (x1:Int) (x2:Int) (x3:Int) (x4:Int) (r:Int × Int) (h:mB k x1 x2 x3 x4=some r):Tri Try.prog 14 [.nilp,(.agg [(.int .i64 x1),(.int .i64 x2),(.int .u8 x3),(.int .i64 x4)])] [] (.tup [(.int .i64 r.1),(.int .i64 r.2)]) []:=by
 unfold mB at h
 by_cases c0:bG=true
 · rw[if_pos c0] at h
   by_cases c1:ltI x1 1=true
   · rw[if_pos c1] at h
     obtain rfl:=osi h
     exact Tri.of (x:=aJE) aF gG [aB9,df,dt,dt,dt,dt,dt,dt,dt,dt,dt,dt,dt,dt,dt] [⟨rT⟩,⟨rT⟩,⟨rT⟩,⟨rT⟩,⟨rT⟩,⟨rT⟩,⟨rT⟩,⟨rT⟩,⟨rT⟩,⟨c1⟩,⟨c1⟩,⟨c1⟩,⟨c1⟩,⟨(nF c0)⟩,⟨(fE)⟩] (by kernel_rfl)
   rw[if_neg c1] at h;replace c1:=eqf c1
   by_cases c2:ltI 6 x1=true
   · rw[if_pos c2] at h
     obtain rfl:=osi h
     exact Tri.of (x:=aJE) aF gG [aB9,df,df,df,df,df,dt,dt,dt,dt,dt,dt,dt,dt,dt] [⟨rT⟩,⟨rT⟩,⟨rT⟩,⟨rT⟩,⟨rT⟩,⟨c2⟩,⟨c2⟩,⟨c2⟩,⟨c2⟩,⟨c1⟩,⟨c1⟩,⟨c1⟩,⟨c1⟩,⟨(nF c0)⟩,⟨(fE)⟩] (by kernel_rfl)
   rw[if_neg c2] at h;replace c2:=eqf c2
   by_cases c3:ltI x2 0=true
   · rw[if_pos c3] at h
     obtain rfl:=osi h
     exact Tri.of (x:=aJE) aF gG [aB9,df,df,df,df,df,df,df,df,df,dt,dt,dt,dt,dt] [⟨rT⟩,⟨c3⟩,⟨c3⟩,⟨c3⟩,⟨c3⟩,⟨c2⟩,⟨c2⟩,⟨c2⟩,⟨c2⟩,⟨c1⟩,⟨c1⟩,⟨c1⟩,⟨c1⟩,⟨(nF c0)⟩,⟨(fE)⟩] (by kernel_rfl)
   rw[if_neg c3] at h;replace c3:=eqf c3
   by_cases c4:ltI x2 1000=true
   · rw[if_pos c4] at h
     cases h
   rw[if_neg c4] at h;replace c4:=eqf c4
   obtain rfl:=osi h
   exact Tri.of (x:=aJE) aF gG [aB9,df,df,df,df,df,df,df,df,df,df,df,df,df,dt] [⟨(nT c4)⟩,⟨c3⟩,⟨c3⟩,⟨c3⟩,⟨c3⟩,⟨c2⟩,⟨c2⟩,⟨c2⟩,⟨c2⟩,⟨c1⟩,⟨c1⟩,⟨c1⟩,⟨c1⟩,⟨(nF c0)⟩,⟨(fE)⟩] (by kernel_rfl)
 rw[if_neg c0] at h;replace c0:=eqf c0
 obtain rfl:=osi h
 exact Tri.of (x:=aJE) aF gG [aB9,dt] [⟨(nT c0)⟩,⟨(fE)⟩] (by kernel_rfl)
end Go.Ws

namespace Go.Ws
open Go.Proofs
set_option linter.unusedSimpArgs false
set_option linter.unusedVariables false
set_option maxRecDepth 1000000
set_option maxHeartbeats 4000000
noncomputable def X16_3:Ctx:=⟨Try.f16,[],true⟩
theorem iD (k:Nat) (x1:Int) (r:Int × aG × Bool × Int × Bool) (h:j5 k x1=some r):Tri Try.prog 16 [.nilp,(.int .i64 x1)] [] (.tup [(.agg [(.int .i64 r.1),(.sl 2 (List.map aA r.2.1)),(.bool r.2.2.1),(.int .i64 r.2.2.2.1)]),(.bool r.2.2.2.2)]) []:=by
 unfold j5 at h
 by_cases c0:bG=true
 · rw[if_pos c0] at h
   cases h
 rw[if_neg c0] at h;replace c0:=eqf c0
 obtain rfl:=osi h
 exact Tri.of (x:=X16_3) aF aD4 [.call ⟨true,[]⟩ (.bool bG) [],dt,.norm 0 ⟨[(4,[]),(5,[])],[⟨.tmp 4,[(1,2)],none⟩],false,[],[]⟩] [⟨(nT c0)⟩,⟨(fE)⟩] (by kernel_rfl)
end Go.Ws

namespace Go.Ws
open Go.Proofs
set_option linter.unusedSimpArgs false
set_option linter.unusedVariables false
set_option maxRecDepth 1000000
set_option maxHeartbeats 4000000
noncomputable def X20_2:Ctx:=⟨Try.f20,[],true⟩
theorem pZ (k:Nat) (x1:Int) (r:Int) (h:kP k x1=some r):Tri Try.prog 20 [.nilp,(.int .u8 x1)] [] (.int .i64 r) []:=by
 unfold kP at h
 by_cases c0:bG=true
 · rw[if_pos c0] at h
   cases h
 rw[if_neg c0] at h;replace c0:=eqf c0
 obtain rfl:=osi h
 exact Tri.of (x:=X20_2) aF aD2 [.call ⟨true,[]⟩ (.bool bG) [],dt] [⟨(nT c0)⟩,⟨(fE)⟩] (by kernel_rfl)
end Go.Ws

namespace Go.Ws
open Go.Proofs
set_option linter.unusedSimpArgs false
set_option linter.unusedVariables false
set_option maxRecDepth 1000000
set_option maxHeartbeats 4000000
noncomputable def X21_3:Ctx:=⟨Try.f21,[],true⟩
theorem t9 (k:Nat) (r:aZ) (h:kS k=some r):Tri Try.prog 21 [.nilp] [] (.sl 4 (List.map aC r)) []:=by
 unfold kS at h
 by_cases c0:bG=true
 · rw[if_pos c0] at h
   cases h
 rw[if_neg c0] at h;replace c0:=eqf c0
 obtain rfl:=osi h
 exact Tri.of (x:=X21_3) aF aHN [.call ⟨true,[]⟩ (.bool bG) [],dt,.norm 0 ⟨[(2,[(0,4)])],[],false,[],[]⟩] [⟨(nT c0)⟩,⟨(fE)⟩] (by kernel_rfl)
end Go.Ws

namespace Go.Ws
open Go.Proofs
set_option linter.unusedSimpArgs false
set_option linter.unusedVariables false
set_option maxRecDepth 1000000
set_option maxHeartbeats 4000000
noncomputable def X26_10:Ctx:=⟨Try.f26,[(.row [.nils,.nils,.mapn,.nils])],false⟩
theorem k7:Tri Try.prog 26 [(.hp 0 0)] [(.row [.nils,.nils,.mapn,.nils])] (.bool (!true)) [(.row [.nils,.nils,.mapn,.nils])]:=by
 obtain⟨r,h⟩:∃r,rC=r:=⟨_,rfl⟩
 try rw[h]
 unfold rC at h
 obtain rfl:=h
 exact Tri.of (x:=X26_10) aF aA1 [dt,dt,dt,dt,dt,dt,.norm 0 ⟨[(2,[])],[],false,[],[]⟩] [⟨(nT rfl)⟩,⟨(nT rfl)⟩,⟨(nT rfl)⟩,⟨(nT rfl)⟩,⟨(nT rfl)⟩,⟨(nT rfl)⟩] (by kernel_rfl)
end Go.Ws

namespace Go.Ws
open Go.Proofs
set_option linter.unusedSimpArgs false
set_option linter.unusedVariables false
set_option maxRecDepth 1000000
set_option maxHeartbeats 4000000
noncomputable def X14_10:Ctx:=⟨Try.f14,[(.row [.nils,.nils,.mapn,.nils])],false⟩
theorem aAC (x1:Int) (x2:Int) (x3:Int) (x4:Int):Tri Try.prog 14 [(.hp 0 0),(.agg [(.int .i64 x1),(.int .i64 x2),(.int .u8 x3),(.int .i64 x4)])] [(.row [.nils,.nils,.mapn,.nils])] (.tup [(.int .i64 0),(.int .i64 1)]) [(.row [.nils,.nils,.mapn,.nils])]:=by
 obtain⟨r,h⟩:∃r,s7 x1 x2 x3 x4=r:=⟨_,rfl⟩
 try rw[h]
 unfold s7 at h
 obtain rfl:=h
 exact Tri.of (x:=X14_10) aF gG [.call ⟨true,[]⟩ (.bool (!true)) [(.row [.nils,.nils,.mapn,.nils])],dt,.norm 0 ⟨[(4,[]),(5,[])],[],false,[],[]⟩] [⟨(nT (nF rfl))⟩,⟨(k7)⟩] (by kernel_rfl)
end Go.Ws

namespace Go.Ws
open Go.Proofs
set_option linter.unusedSimpArgs false
set_option linter.unusedVariables false
set_option maxRecDepth 1000000
set_option maxHeartbeats 4000000
noncomputable def X16_4:Ctx:=⟨Try.f16,[(.row [.nils,.nils,.mapn,.nils])],false⟩
theorem zJ (x1:Int):Tri Try.prog 16 [(.hp 0 0),(.int .i64 x1)] [(.row [.nils,.nils,.mapn,.nils])] (.tup [(.agg [(.int .i64 0),.nils,(.bool false),(.int .i64 0)]),(.bool false)]) [(.row [.nils,.nils,.mapn,.nils])]:=by
 obtain⟨r,h⟩:∃r,rJ x1=r:=⟨_,rfl⟩
 try rw[h]
 unfold rJ at h
 obtain rfl:=h
 exact Tri.of (x:=X16_4) aF aD4 [.call ⟨true,[]⟩ (.bool (!true)) [(.row [.nils,.nils,.mapn,.nils])],dt,.norm 0 ⟨[(4,[]),(5,[])],[⟨.tmp 4,[],none⟩],false,[],[]⟩] [⟨(nT (nF rfl))⟩,⟨(k7)⟩] (by kernel_rfl)
end Go.Ws

namespace Go.Ws
open Go.Proofs
set_option linter.unusedSimpArgs false
set_option linter.unusedVariables false
set_option maxRecDepth 1000000
set_option maxHeartbeats 4000000
noncomputable def X20_3:Ctx:=⟨Try.f20,[(.row [.nils,.nils,.mapn,.nils])],false⟩
theorem z7 (x1:Int):Tri Try.prog 20 [(.hp 0 0),(.int .u8 x1)] [(.row [.nils,.nils,.mapn,.nils])] (.int .i64 0) [(.row [.nils,.nils,.mapn,.nils])]:=by
 obtain⟨r,h⟩:∃r,s8 x1=r:=⟨_,rfl⟩
 try rw[h]
 unfold s8 at h
 obtain rfl:=h
 exact Tri.of (x:=X20_3) aF aD2 [.call ⟨true,[]⟩ (.bool (!true)) [(.row [.nils,.nils,.mapn,.nils])],dt,.norm 0 ⟨[(4,[])],[],false,[],[]⟩] [⟨(nT (nF rfl))⟩,⟨(k7)⟩] (by kernel_rfl)
end Go.Ws

namespace Go.Ws
open Go.Proofs
set_option linter.unusedSimpArgs false
set_option linter.unusedVariables false
set_option maxRecDepth 1000000
set_option maxHeartbeats 4000000
noncomputable def X21_4:Ctx:=⟨Try.f21,[(.row [.nils,.nils,.mapn,.nils])],false⟩
theorem aAA:Tri Try.prog 21 [(.hp 0 0)] [(.row [.nils,.nils,.mapn,.nils])] .nils [(.row [.nils,.nils,.mapn,.nils])]:=by
 obtain⟨r,h⟩:∃r,s6=r:=⟨_,rfl⟩
 try rw[h]
 unfold s6 at h
 obtain rfl:=h
 exact Tri.of (x:=X21_4) aF aHN [.call ⟨true,[]⟩ (.bool (!true)) [(.row [.nils,.nils,.mapn,.nils])],dt,.norm 0 ⟨[(2,[])],[],false,[],[]⟩] [⟨(nT (nF rfl))⟩,⟨(k7)⟩] (by kernel_rfl)
end Go.Ws

namespace Go.Ws
open Go.Proofs
set_option linter.unusedSimpArgs false
set_option linter.unusedVariables false
set_option maxRecDepth 1000000
set_option maxHeartbeats 4000000
noncomputable def X20_4 (x2:aG) (x3:aJ) (x4:Ty6) (x5:aZ):Ctx:=⟨Try.f20,[(.row [(.sl 2 (List.map aA x2)),(.sl 3 (List.map aD x3)),(.mp 1),(.ref 4 2 2 0 x5.length .virt)]),(.map (bU .i64 (fun y=>AV.agg (aB y)) x4) x4.length),(.arr 4 (List.map aC x5) 2 2 true)],false⟩
theorem mZ (k:Nat) (x1:Int) (x2:aG) (x3:aJ) (x4:Ty6) (x5:aZ) (r:Int) (h:jJ k x1 x2 x3 x4 x5=some r):Tri Try.prog 20 [(.hp 0 0),(.int .u8 x1)] [(.row [(.sl 2 (List.map aA x2)),(.sl 3 (List.map aD x3)),(.mp 1),(.ref 4 2 2 0 x5.length .virt)]),(.map (bU .i64 (fun y=>AV.agg (aB y)) x4) x4.length),(.arr 4 (List.map aC x5) 2 2 true)] (.int .i64 r) [(.row [(.sl 2 (List.map aA x2)),(.sl 3 (List.map aD x3)),(.mp 1),(.ref 4 2 2 0 x5.length .virt)]),(.map (bU .i64 (fun y=>AV.agg (aB y)) x4) x4.length),(.arr 4 (List.map aC x5) 2 2 true)]:=by
 unfold jJ at h
 obtain⟨x6,e0,h⟩:=bsm h
 obtain rfl:=osi h
 exact Tri.of (x:=(X20_4 x2 x3 x4 x5)) aF aD2 [.call ⟨true,[]⟩ (.bool (!false)) [(.row [(.sl 2 (List.map aA x2)),(.sl 3 (List.map aD x3)),(.mp 1),(.ref 4 2 2 0 x5.length .virt)]),(.map (bU .i64 (fun y=>AV.agg (aB y)) x4) x4.length),(.arr 4 (List.map aC x5) 2 2 true)],df,.call ⟨true,[]⟩ (.int .i64 x6) [],.norm 0 ⟨[(4,[])],[],false,[],[]⟩] [⟨(sD k x2 x1 _ e0)⟩,⟨(nF (nT rfl))⟩,⟨(zE x2 x3 x4 x5)⟩] (by kernel_rfl)
end Go.Ws

namespace Go.Ws
open Go.Proofs
set_option linter.unusedSimpArgs false
set_option linter.unusedVariables false
set_option maxRecDepth 1000000
set_option maxHeartbeats 4000000
noncomputable def X5:Ctx:=⟨Try.f5,[],true⟩
noncomputable def L5_3:Code:=at_ Try.f5 [1,1,1,1,1,1,0,1,4,5]
def S5_3 (cB:Int) (eX:aG) (eY:aJ) (eZ:aG) (fA:aJ) (eN:Ty6) (eO:aZ) (eP:Ty6) (eQ:aZ):St:=⟨mkT 133 [(11,(.hp 0 0)),(12,(.hp 1 0)),(85,(.int .u8 cB))],[(.row [(.sl 2 (List.map aA eX)),(.sl 3 (List.map aD eY)),(.mp 2),(.ref 4 3 0 0 eO.length .virt)]),(.row [(.sl 2 (List.map aA eZ)),(.sl 3 (List.map aD fA)),(.mp 4),(.ref 4 5 0 0 eQ.length .virt)]),(.map (bU .i64 (fun y=>AV.agg (aB y)) eN) eN.length),(.arr 4 (List.map aC eO) 0 0 true),(.map (bU .i64 (fun y=>AV.agg (aB y)) eP) eP.length),(.arr 4 (List.map aC eQ) 0 0 true)]⟩
def aLQ (v5032_1:aG) (v5032_2:aJ) (v5032_3:aG) (v5032_4:aJ) (aNC:Ty6) (aND:aZ) (aNE:Ty6) (aNF:aZ):St:=⟨mkT 133 [(11,(.hp 0 0)),(12,(.hp 1 0))],[(.row [(.sl 2 (List.map aA v5032_1)),(.sl 3 (List.map aD v5032_2)),(.mp 2),(.ref 4 3 0 0 aND.length .virt)]),(.row [(.sl 2 (List.map aA v5032_3)),(.sl 3 (List.map aD v5032_4)),(.mp 4),(.ref 4 5 0 0 aNF.length .virt)]),(.map (bU .i64 (fun y=>AV.agg (aB y)) aNC) aNC.length),(.arr 4 (List.map aC aND) 0 0 true),(.map (bU .i64 (fun y=>AV.agg (aB y)) aNE) aNE.length),(.arr 4 (List.map aC aNF) 0 0 true)]⟩
def O5_3 (y:Ty1):GX:=match y with
 | .inl y=>.st (.exit 2) (aLQ y.1 y.2.1 y.2.2.1 y.2.2.2.1 y.2.2.2.2.1 y.2.2.2.2.2.1 y.2.2.2.2.2.2.1 y.2.2.2.2.2.2.2)
 | .inr y=>.fin (.bool y) []
noncomputable def L5_2:Code:=at_ Try.f5 [1,1,0,1,4,5]
def S5_2 (x1:aZ) (x2:Int) (x3:Int) (x4:Int) (x5:Int):St:=⟨mkT 133 [(0,(.sl 4 (List.map aC x1))),(3,(.hp 0 0)),(25,(.ps [.nilp,(.hp 1 0)])),(26,(.int .i64 2)),(27,(.int .i64 2))],[(.row [(.int .i64 x2),(.int .i64 x3),(.int .u8 x4),(.int .i64 x5)]),(.row [.nils,.nils,.mapn,.nils])]⟩
def E5_2_0 (x1:aZ) (x2:Int) (x3:Int) (x4:Int) (x5:Int):St:=⟨mkT 133 [(0,(.sl 4 (List.map aC x1))),(3,(.hp 0 0))],[(.row [(.int .i64 x2),(.int .i64 x3),(.int .u8 x4),(.int .i64 x5)])]⟩
def O5_2 (x1:aZ) (x2:Int) (x3:Int) (x4:Int) (x5:Int) (y:(Unit)):GX:=.st (.exit 0) (E5_2_0 x1 x2 x3 x4 x5)
noncomputable def L5_1:Code:=at_ Try.f5 [1,1,0,1,4,5]
def S5_1 (x1:aZ) (x2:Int) (x3:Int) (x4:Int) (x5:Int):St:=⟨mkT 133 [(0,(.sl 4 (List.map aC x1))),(3,(.hp 0 0)),(25,(.ps [.nilp,(.hp 1 0)])),(26,(.int .i64 2)),(27,(.int .i64 1))],[(.row [(.int .i64 x2),(.int .i64 x3),(.int .u8 x4),(.int .i64 x5)]),(.row [.nils,.nils,.mapn,.nils])]⟩
def E5_1_0 (x1:aZ) (x2:Int) (x3:Int) (x4:Int) (x5:Int):St:=⟨mkT 133 [(0,(.sl 4 (List.map aC x1))),(3,(.hp 0 0))],[(.row [(.int .i64 x2),(.int .i64 x3),(.int .u8 x4),(.int .i64 x5)])]⟩
def O5_1 (x1:aZ) (x2:Int) (x3:Int) (x4:Int) (x5:Int) (y:(Unit)):GX:=.st (.exit 0) (E5_1_0 x1 x2 x3 x4 x5)
noncomputable def L5_0:Code:=at_ Try.f5 [1,1,0,1,4,5]
def S5_0 (x1:aZ) (x2:Int) (x3:Int) (x4:Int) (x5:Int):St:=⟨mkT 133 [(0,(.sl 4 (List.map aC x1))),(3,(.hp 0 0)),(25,(.ps [.nilp,(.hp 1 0)])),(26,(.int .i64 2)),(27,(.int .i64 0))],[(.row [(.int .i64 x2),(.int .i64 x3),(.int .u8 x4),(.int .i64 x5)]),(.row [.nils,.nils,.mapn,.nils])]⟩
def aEU (x1:aZ) (x2:Int) (x3:Int) (x4:Int) (x5:Int):St:=⟨mkT 133 [(0,(.sl 4 (List.map aC x1))),(3,(.hp 0 0))],[(.row [(.int .i64 x2),(.int .i64 x3),(.int .u8 x4),(.int .i64 x5)])]⟩
def O5_0 (x1:aZ) (x2:Int) (x3:Int) (x4:Int) (x5:Int) (y:zH):GX:=match y with
 | .inl y=>.st (.exit 0) (aEU x1 x2 x3 x4 x5)
 | .inr y=>.fin (.bool y) []
def A5_0 (dB:Int × Int × aG × aJ × Ty6 × aZ):Ans:=.call ⟨true,[]⟩ (.tup [(.int .i64 dB.2.1),(.int .i64 dB.1)]) [(.row [(.sl 2 (List.map aA dB.2.2.1)),(.sl 3 (List.map aD dB.2.2.2.1)),(.mp 1),(.ref 4 2 1 0 dB.2.2.2.2.2.length .virt)]),(.map (bU .i64 (fun y=>AV.agg (aB y)) dB.2.2.2.2.1) dB.2.2.2.2.1.length),(.arr 4 (List.map aC dB.2.2.2.2.2) 1 1 true)]
def A5_1 (dC:Int × Int × aG × aJ × Ty6 × aZ):Ans:=.call ⟨true,[]⟩ (.tup [(.int .i64 dC.2.1),(.int .i64 dC.1)]) [(.row [(.sl 2 (List.map aA dC.2.2.1)),(.sl 3 (List.map aD dC.2.2.2.1)),(.mp 1),(.ref 4 2 1 0 dC.2.2.2.2.2.length .virt)]),(.map (bU .i64 (fun y=>AV.agg (aB y)) dC.2.2.2.2.1) dC.2.2.2.2.1.length),(.arr 4 (List.map aC dC.2.2.2.2.2) 1 1 true)]
def A5_2 (bE:Int × Int × aG × aJ × Ty6 × aZ):Ans:=.call ⟨true,[]⟩ (.tup [(.int .i64 bE.2.1),(.int .i64 bE.1)]) [(.row [(.sl 2 (List.map aA bE.2.2.1)),(.sl 3 (List.map aD bE.2.2.2.1)),(.mp 1),(.ref 4 2 2 0 bE.2.2.2.2.2.length .virt)]),(.map (bU .i64 (fun y=>AV.agg (aB y)) bE.2.2.2.2.1) bE.2.2.2.2.1.length),(.arr 4 (List.map aC bE.2.2.2.2.2) 2 2 true)]
def A5_3 (bF:Int × Int × aG × aJ × Ty6 × aZ):Ans:=.call ⟨true,[]⟩ (.tup [(.int .i64 bF.2.1),(.int .i64 bF.1)]) [(.row [(.sl 2 (List.map aA bF.2.2.1)),(.sl 3 (List.map aD bF.2.2.2.1)),(.mp 1),(.ref 4 2 2 0 bF.2.2.2.2.2.length .virt)]),(.map (bU .i64 (fun y=>AV.agg (aB y)) bF.2.2.2.2.1) bF.2.2.2.2.1.length),(.arr 4 (List.map aC bF.2.2.2.2.2) 2 2 true)]
def A5_4 (bE:Int × Int × aG × aJ × Ty6 × aZ) (tQ:Int):Ans:=.call ⟨true,[]⟩ (.int .i64 tQ) [(.row [(.sl 2 (List.map aA bE.2.2.1)),(.sl 3 (List.map aD bE.2.2.2.1)),(.mp 1),(.ref 4 2 2 0 bE.2.2.2.2.2.length .virt)]),(.map (bU .i64 (fun y=>AV.agg (aB y)) bE.2.2.2.2.1) bE.2.2.2.2.1.length),(.arr 4 (List.map aC bE.2.2.2.2.2) 2 2 true)]
def A5_5 (bF:Int × Int × aG × aJ × Ty6 × aZ) (tR:Int):Ans:=.call ⟨true,[]⟩ (.int .i64 tR) [(.row [(.sl 2 (List.map aA bF.2.2.1)),(.sl 3 (List.map aD bF.2.2.2.1)),(.mp 1),(.ref 4 2 2 0 bF.2.2.2.2.2.length .virt)]),(.map (bU .i64 (fun y=>AV.agg (aB y)) bF.2.2.2.2.1) bF.2.2.2.2.1.length),(.arr 4 (List.map aC bF.2.2.2.2.2) 2 2 true)]
def A5_6 (lG:Int × Int):Ans:=.call ⟨true,[]⟩ (.tup [(.int .i64 lG.1),(.int .i64 lG.2)]) []
def A5_7 (lH:Int × aG × Bool × Int × Bool):Ans:=.call ⟨true,[]⟩ (.tup [(.agg [(.int .i64 lH.1),(.sl 2 (List.map aA lH.2.1)),(.bool lH.2.2.1),(.int .i64 lH.2.2.2.1)]),(.bool lH.2.2.2.2)]) []
def A5_8:Ans:=.norm 2 ⟨[(0,[]),(3,[]),(25,[]),(26,[]),(27,[])],[⟨.tmp 3,[],none⟩,⟨.tcell 25 1,[],none⟩],true,[],[]⟩
def A5_9 (x9:aG × aJ × Ty6 × aZ):Ans:=.call ⟨true,[]⟩ (.hp 0 0) [(.row [(.sl 2 (List.map aA x9.1)),(.sl 3 (List.map aD x9.2.1)),(.mp 1),(.ref 4 2 0 0 x9.2.2.2.length .virt)]),(.map (bU .i64 (fun y=>AV.agg (aB y)) x9.2.2.1) x9.2.2.1.length),(.arr 4 (List.map aC x9.2.2.2) 0 0 true)]
def A5_10 (x10:aG × aJ × Ty6 × aZ):Ans:=.call ⟨true,[]⟩ (.hp 0 0) [(.row [(.sl 2 (List.map aA x10.1)),(.sl 3 (List.map aD x10.2.1)),(.mp 1),(.ref 4 2 0 0 x10.2.2.2.length .virt)]),(.map (bU .i64 (fun y=>AV.agg (aB y)) x10.2.2.1) x10.2.2.1.length),(.arr 4 (List.map aC x10.2.2.2) 0 0 true)]
def A5_11 (x11:Int × Int × aG × aJ × Ty6 × aZ):Ans:=.call ⟨true,[]⟩ (.tup [(.int .i64 x11.2.1),(.int .i64 x11.1)]) [(.row [(.sl 2 (List.map aA x11.2.2.1)),(.sl 3 (List.map aD x11.2.2.2.1)),(.mp 1),(.ref 4 2 1 0 x11.2.2.2.2.2.length .virt)]),(.map (bU .i64 (fun y=>AV.agg (aB y)) x11.2.2.2.2.1) x11.2.2.2.2.1.length),(.arr 4 (List.map aC x11.2.2.2.2.2) 1 1 true)]
def A5_12:Ans:=.norm 8 ⟨[(11,[]),(12,[]),(85,[])],[⟨.tmp 11,[],none⟩,⟨.tmp 12,[],none⟩,⟨.cell 0 2,[],none⟩,⟨.cell 0 3,[],none⟩,⟨.cell 1 2,[],none⟩,⟨.cell 1 3,[],none⟩],true,[],[]⟩
theorem mP (y:Ty1):∀(k:Nat) (cB:Int) (eX:aG) (eY:aJ) (eZ:aG) (fA:aJ) (eN:Ty6) (eO:aZ) (eP:Ty6) (eQ:aZ),cL k cB eX eY eZ fA eN eO eP eQ=some y→LT Try.prog X5 L5_3 (S5_3 cB eX eY eZ fA eN eO eP eQ) (O5_3 y)
 | 0,cB,eX,eY,eZ,fA,eN,eO,eP,eQ,h=>by cases h
 | k+1,cB,eX,eY,eZ,fA,eN,eO,eP,eQ,h=>by
  rw[cL] at h
  by_cases cL0:ltI cB 8=true
  · rw[if_pos cL0] at h
    obtain⟨dB,eL1,h⟩:=bsm h
    obtain⟨dC,eL2,h⟩:=bsm h
    obtain⟨bE,eL3,h⟩:=bsm h
    obtain⟨bF,eL4,h⟩:=bsm h
    by_cases cL5:eqI bE.2.1 bF.2.1=true
    · rw[if_pos cL5] at h
      by_cases cL6:eqI bE.1 bF.1=true
      · rw[if_pos cL6] at h
        obtain⟨tQ,eL7,h⟩:=bsm h
        obtain⟨tR,eL8,h⟩:=bsm h
        by_cases cL9:eqI tQ tR=true
        · rw[if_pos cL9] at h
          exact LT.next aF (hs:=⟨[(11,[]),(12,[]),(85,[])],[⟨.tmp 11,[],none⟩,⟨.tmp 12,[],none⟩,⟨.cell 0 2,[],none⟩,⟨.cell 0 3,[],none⟩,⟨.cell 1 2,[],none⟩,⟨.cell 1 3,[],none⟩],true,[],[]⟩) (es:=none) [dt,(A5_0 dB),(A5_1 dC),(A5_2 bE),(A5_3 bF),df,df,df,df,df,df,df,(A5_4 bE tQ),df,df,df,(A5_5 bF tR),df,df,df] [⟨(nF cL9)⟩,⟨(nF cL6)⟩,⟨(nF cL6)⟩,⟨(mZ k cB bF.2.2.1 bF.2.2.2.1 bF.2.2.2.2.1 bF.2.2.2.2.2 _ eL8)⟩,⟨(nF cL6)⟩,⟨(nF cL6)⟩,⟨(nF cL6)⟩,⟨(mZ k cB bE.2.2.1 bE.2.2.2.1 bE.2.2.2.2.1 bE.2.2.2.2.2 _ eL7)⟩,⟨(nF cL6)⟩,⟨(nF cL6)⟩,⟨(nF cL6)⟩,⟨(nF cL5)⟩,⟨(nF cL5)⟩,⟨(nF cL5)⟩,⟨(nF cL5)⟩,⟨(gE k 2 999 cB 0 dC.2.2.1 dC.2.2.2.1 dC.2.2.2.2.1 dC.2.2.2.2.2 _ eL4)⟩,⟨(gE k 2 999 cB 0 dB.2.2.1 dB.2.2.2.1 dB.2.2.2.2.1 dB.2.2.2.2.2 _ eL3)⟩,⟨(b8 k 1 999 0 0 eZ fA eP eQ _ eL2)⟩,⟨(b8 k 1 999 0 0 eX eY eN eO _ eL1)⟩,⟨cL0⟩] (by kernel_rfl) (mP y k (aI .u8 cB 1) bE.2.2.1 bE.2.2.2.1 bF.2.2.1 bF.2.2.2.1 bE.2.2.2.2.1 bE.2.2.2.2.2 bF.2.2.2.2.1 bF.2.2.2.2.2 h)
        rw[if_neg cL9] at h;replace cL9:=eqf cL9
        obtain rfl:=osi h
        show LT _ _ _ _ (.fin (.bool false) [])
        exact LT.done aF (hs:=⟨[],[],false,[],[]⟩) (es:=none) [dt,(A5_0 dB),(A5_1 dC),(A5_2 bE),(A5_3 bF),df,df,df,df,df,df,df,(A5_4 bE tQ),df,df,df,(A5_5 bF tR),df,df,dt] [⟨(nT cL9)⟩,⟨(nF cL6)⟩,⟨(nF cL6)⟩,⟨(mZ k cB bF.2.2.1 bF.2.2.2.1 bF.2.2.2.2.1 bF.2.2.2.2.2 _ eL8)⟩,⟨(nF cL6)⟩,⟨(nF cL6)⟩,⟨(nF cL6)⟩,⟨(mZ k cB bE.2.2.1 bE.2.2.2.1 bE.2.2.2.2.1 bE.2.2.2.2.2 _ eL7)⟩,⟨(nF cL6)⟩,⟨(nF cL6)⟩,⟨(nF cL6)⟩,⟨(nF cL5)⟩,⟨(nF cL5)⟩,⟨(nF cL5)⟩,⟨(nF cL5)⟩,⟨(gE k 2 999 cB 0 dC.2.2.1 dC.2.2.2.1 dC.2.2.2.2.1 dC.2.2.2.2.2 _ eL4)⟩,⟨(gE k 2 999 cB 0 dB.2.2.1 dB.2.2.2.1 dB.2.2.2.2.1 dB.2.2.2.2.2 _ eL3)⟩,⟨(b8 k 1 999 0 0 eZ fA eP eQ _ eL2)⟩,⟨(b8 k 1 999 0 0 eX eY eN eO _ eL1)⟩,⟨cL0⟩] (by kernel_rfl) (fun s h=>by cases h)
      rw[if_neg cL6] at h;replace cL6:=eqf cL6
      obtain rfl:=osi h
      show LT _ _ _ _ (.fin (.bool false) [])
      exact LT.done aF (hs:=⟨[],[],false,[],[]⟩) (es:=none) [dt,(A5_0 dB),(A5_1 dC),(A5_2 bE),(A5_3 bF),df,df,df,df,dt,dt,dt,dt,dt,dt,dt,dt,dt] [⟨rT⟩,⟨(nT cL6)⟩,⟨(nT cL6)⟩,⟨(nT cL6)⟩,⟨(nT cL6)⟩,⟨(nT cL6)⟩,⟨(nT cL6)⟩,⟨(nT cL6)⟩,⟨(nT cL6)⟩,⟨(nF cL5)⟩,⟨(nF cL5)⟩,⟨(nF cL5)⟩,⟨(nF cL5)⟩,⟨(gE k 2 999 cB 0 dC.2.2.1 dC.2.2.2.1 dC.2.2.2.2.1 dC.2.2.2.2.2 _ eL4)⟩,⟨(gE k 2 999 cB 0 dB.2.2.1 dB.2.2.2.1 dB.2.2.2.2.1 dB.2.2.2.2.2 _ eL3)⟩,⟨(b8 k 1 999 0 0 eZ fA eP eQ _ eL2)⟩,⟨(b8 k 1 999 0 0 eX eY eN eO _ eL1)⟩,⟨cL0⟩] (by kernel_rfl) (fun s h=>by cases h)
    rw[if_neg cL5] at h;replace cL5:=eqf cL5
    obtain rfl:=osi h
    show LT _ _ _ _ (.fin (.bool false) [])
    exact LT.done aF (hs:=⟨[],[],false,[],[]⟩) (es:=none) [dt,(A5_0 dB),(A5_1 dC),(A5_2 bE),(A5_3 bF),dt,dt,dt,dt,dt,dt,dt,dt,dt,dt,dt,dt,dt] [⟨rT⟩,⟨rT⟩,⟨rT⟩,⟨rT⟩,⟨rT⟩,⟨rT⟩,⟨rT⟩,⟨rT⟩,⟨rT⟩,⟨(nT cL5)⟩,⟨(nT cL5)⟩,⟨(nT cL5)⟩,⟨(nT cL5)⟩,⟨(gE k 2 999 cB 0 dC.2.2.1 dC.2.2.2.1 dC.2.2.2.2.1 dC.2.2.2.2.2 _ eL4)⟩,⟨(gE k 2 999 cB 0 dB.2.2.1 dB.2.2.2.1 dB.2.2.2.2.1 dB.2.2.2.2.2 _ eL3)⟩,⟨(b8 k 1 999 0 0 eZ fA eP eQ _ eL2)⟩,⟨(b8 k 1 999 0 0 eX eY eN eO _ eL1)⟩,⟨cL0⟩] (by kernel_rfl) (fun s h=>by cases h)
  rw[if_neg cL0] at h;replace cL0:=eqf cL0
  obtain rfl:=osi h
  show LT _ _ _ _ (.st (.exit 2) (aLQ eX eY eZ fA eN eO eP eQ))
  exact LT.done aF (hs:=⟨[],[],false,[],[]⟩) (es:=(some ⟨[(11,[]),(12,[])],[⟨.tmp 11,[],none⟩,⟨.tmp 12,[],none⟩,⟨.cell 0 2,[],none⟩,⟨.cell 0 3,[],none⟩,⟨.cell 1 2,[],none⟩,⟨.cell 1 3,[],none⟩],true,[],[]⟩)) [df] [⟨cL0⟩] (by kernel_rfl) (fun s h=>by cases h)
theorem wM (x1:aZ) (x2:Int) (x3:Int) (x4:Int) (x5:Int) (y:(Unit)):∀(k:Nat),cZ k x1 x2 x3 x4 x5=some y→LT Try.prog X5 L5_2 (S5_2 x1 x2 x3 x4 x5) (O5_2 x1 x2 x3 x4 x5 y)
 | 0,h=>by cases h
 | k+1,h=>by
  rw[cZ] at h
  obtain rfl:=osi h
  show LT _ _ _ _ (.st (.exit 0) (E5_2_0 x1 x2 x3 x4 x5))
  exact LT.done aF (hs:=⟨[],[],false,[],[]⟩) (es:=(some ⟨[(0,[]),(3,[])],[⟨.tmp 3,[],none⟩],true,[],[]⟩)) [df] [⟨(rfl:ltI 2 2=false)⟩] (by kernel_rfl) (fun s h=>by cases h)
theorem w7 (x1:aZ) (x2:Int) (x3:Int) (x4:Int) (x5:Int) (y:(Unit)):∀(k:Nat),cW k x1 x2 x3 x4 x5=some y→LT Try.prog X5 L5_1 (S5_1 x1 x2 x3 x4 x5) (O5_1 x1 x2 x3 x4 x5 y)
 | 0,h=>by cases h
 | k+1,h=>by
  rw[cW] at h
  obtain⟨aNA,eL0,h⟩:=bsm h
  obtain rfl:=osi h
  show LT _ _ _ _ (.st (.exit 0) (E5_1_0 x1 x2 x3 x4 x5))
  exact LT.next aF (hs:=⟨[(0,[]),(3,[]),(25,[]),(26,[]),(27,[])],[⟨.tmp 3,[],none⟩,⟨.tcell 25 1,[],none⟩],true,[],[]⟩) (es:=none) [dt,.call ⟨true,[]⟩ (.tup [(.int .i64 0),(.int .i64 1)]) [(.row [.nils,.nils,.mapn,.nils])],.call ⟨true,[]⟩ (.tup [(.agg [(.int .i64 0),.nils,(.bool false),(.int .i64 0)]),(.bool false)]) [(.row [.nils,.nils,.mapn,.nils])],df,df,df,df,df,df,df,df,df,.call ⟨true,[]⟩ (.int .i64 0) [(.row [.nils,.nils,.mapn,.nils])],df,df,df,df,.call ⟨true,[]⟩ .nils [(.row [.nils,.nils,.mapn,.nils])],df,df,df,df] [⟨(nF (rfl:eqI 0 0=true))⟩,⟨(nF (rfl:eqI 0 0=true))⟩,⟨(nF (rfl:eqI 0 0=true))⟩,⟨(nF (rfl:eqI 0 0=true))⟩,⟨(aAA)⟩,⟨(nF (rfl:eqI 0 0=true))⟩,⟨(nF (rfl:eqI 0 0=true))⟩,⟨rF⟩,⟨rF⟩,⟨(z7 x4)⟩,⟨rF⟩,⟨rF⟩,⟨rF⟩,⟨rF⟩,⟨(nF (rfl:eqI 1 1=true))⟩,⟨(nF (rfl:eqI 1 1=true))⟩,⟨(nF (rfl:eqI 0 0=true))⟩,⟨(nF (rfl:eqI 0 0=true))⟩,⟨(nF (rfl:eqI 0 0=true))⟩,⟨(zJ x3)⟩,⟨(aAC x2 x3 x4 x5)⟩,⟨(rfl:ltI 1 2=true)⟩] (by kernel_rfl) (wM x1 x2 x3 x4 x5 _ k eL0)
theorem jU (x1:aZ) (x2:Int) (x3:Int) (x4:Int) (x5:Int) (y:zH):∀(k:Nat),cX k x1 x2 x3 x4 x5=some y→LT Try.prog X5 L5_0 (S5_0 x1 x2 x3 x4 x5) (O5_0 x1 x2 x3 x4 x5 y)
 | 0,h=>by cases h
 | k+1,h=>by
  rw[cX] at h
  obtain⟨lG,eL0,h⟩:=bsm h
  obtain⟨lH,eL1,h⟩:=bsm h
  by_cases cL2:eqI lG.1 0=true
  · rw[if_pos cL2] at h
    by_cases cL3:eqI lG.2 1=true
    · rw[if_pos cL3] at h
      by_cases cL4:lH.2.2.2.2=true
      · rw[if_pos cL4] at h
        obtain rfl:=osi h
        show LT _ _ _ _ (.fin (.bool false) [])
        exact LT.done aF (hs:=⟨[],[],false,[],[]⟩) (es:=none) [dt,(A5_6 lG),(A5_7 lH),df,df,df,df,df,dt,dt,dt,dt,dt,dt,dt,dt,dt,dt,dt,dt] [⟨rT⟩,⟨rT⟩,⟨rT⟩,⟨rT⟩,⟨rT⟩,⟨rT⟩,⟨cL4⟩,⟨cL4⟩,⟨cL4⟩,⟨cL4⟩,⟨cL4⟩,⟨cL4⟩,⟨(nF cL3)⟩,⟨(nF cL3)⟩,⟨(nF cL2)⟩,⟨(nF cL2)⟩,⟨(nF cL2)⟩,⟨(iD k x3 _ eL1)⟩,⟨(i7 k x2 x3 x4 x5 _ eL0)⟩,⟨(rfl:ltI 0 2=true)⟩] (by kernel_rfl) (fun s h=>by cases h)
      rw[if_neg cL4] at h;replace cL4:=eqf cL4
      obtain⟨vC,eL5,h⟩:=bsm h
      by_cases cL6:eqI vC 0=true
      · rw[if_pos cL6] at h
        obtain⟨rE,eL7,h⟩:=bsm h
        by_cases cL8:eqI (nI rE.length) 0=true
        · rw[if_pos cL8] at h
          obtain⟨aNB,eL9,h⟩:=bsm h
          obtain rfl:=osi h
          show LT _ _ _ _ (.st (.exit 0) (aEU x1 x2 x3 x4 x5))
          exact LT.next aF (hs:=⟨[(0,[]),(3,[]),(25,[]),(26,[]),(27,[])],[⟨.tmp 3,[],none⟩,⟨.tcell 25 1,[],none⟩],true,[],[]⟩) (es:=none) [dt,(A5_6 lG),(A5_7 lH),df,df,df,df,df,df,df,df,df,.call ⟨true,[]⟩ (.int .i64 vC) [],df,df,df,df,.call ⟨true,[]⟩ (.sl 4 (List.map aC rE)) [],df,.n rE.length,df,df,df] [⟨(nF cL8)⟩,⟨(nF cL6)⟩,⟨(nF cL6)⟩,⟨(aL aC rE)⟩,⟨(nF cL6)⟩,⟨(t9 k _ eL7)⟩,⟨(nF cL6)⟩,⟨(nF cL6)⟩,⟨cL4⟩,⟨cL4⟩,⟨(pZ k x4 _ eL5)⟩,⟨cL4⟩,⟨cL4⟩,⟨cL4⟩,⟨cL4⟩,⟨(nF cL3)⟩,⟨(nF cL3)⟩,⟨(nF cL2)⟩,⟨(nF cL2)⟩,⟨(nF cL2)⟩,⟨(iD k x3 _ eL1)⟩,⟨(i7 k x2 x3 x4 x5 _ eL0)⟩,⟨(rfl:ltI 0 2=true)⟩] (by kernel_rfl) (w7 x1 x2 x3 x4 x5 _ k eL9)
        rw[if_neg cL8] at h;replace cL8:=eqf cL8
        obtain rfl:=osi h
        show LT _ _ _ _ (.fin (.bool false) [])
        exact LT.done aF (hs:=⟨[],[],false,[],[]⟩) (es:=none) [dt,(A5_6 lG),(A5_7 lH),df,df,df,df,df,df,df,df,df,.call ⟨true,[]⟩ (.int .i64 vC) [],df,df,df,df,.call ⟨true,[]⟩ (.sl 4 (List.map aC rE)) [],df,.n rE.length,df,df,dt] [⟨(nT cL8)⟩,⟨(nF cL6)⟩,⟨(nF cL6)⟩,⟨(aL aC rE)⟩,⟨(nF cL6)⟩,⟨(t9 k _ eL7)⟩,⟨(nF cL6)⟩,⟨(nF cL6)⟩,⟨cL4⟩,⟨cL4⟩,⟨(pZ k x4 _ eL5)⟩,⟨cL4⟩,⟨cL4⟩,⟨cL4⟩,⟨cL4⟩,⟨(nF cL3)⟩,⟨(nF cL3)⟩,⟨(nF cL2)⟩,⟨(nF cL2)⟩,⟨(nF cL2)⟩,⟨(iD k x3 _ eL1)⟩,⟨(i7 k x2 x3 x4 x5 _ eL0)⟩,⟨(rfl:ltI 0 2=true)⟩] (by kernel_rfl) (fun s h=>by cases h)
      rw[if_neg cL6] at h;replace cL6:=eqf cL6
      obtain rfl:=osi h
      show LT _ _ _ _ (.fin (.bool false) [])
      exact LT.done aF (hs:=⟨[],[],false,[],[]⟩) (es:=none) [dt,(A5_6 lG),(A5_7 lH),df,df,df,df,df,df,df,df,df,.call ⟨true,[]⟩ (.int .i64 vC) [],df,df,dt,dt,dt,dt,dt,dt] [⟨rT⟩,⟨(nT cL6)⟩,⟨(nT cL6)⟩,⟨(nT cL6)⟩,⟨(nT cL6)⟩,⟨(nT cL6)⟩,⟨cL4⟩,⟨cL4⟩,⟨(pZ k x4 _ eL5)⟩,⟨cL4⟩,⟨cL4⟩,⟨cL4⟩,⟨cL4⟩,⟨(nF cL3)⟩,⟨(nF cL3)⟩,⟨(nF cL2)⟩,⟨(nF cL2)⟩,⟨(nF cL2)⟩,⟨(iD k x3 _ eL1)⟩,⟨(i7 k x2 x3 x4 x5 _ eL0)⟩,⟨(rfl:ltI 0 2=true)⟩] (by kernel_rfl) (fun s h=>by cases h)
    rw[if_neg cL3] at h;replace cL3:=eqf cL3
    obtain rfl:=osi h
    show LT _ _ _ _ (.fin (.bool false) [])
    exact LT.done aF (hs:=⟨[],[],false,[],[]⟩) (es:=none) [dt,(A5_6 lG),(A5_7 lH),df,df,df,dt,dt,dt,dt,dt,dt,dt,dt,dt,dt,dt,dt,dt,dt] [⟨rT⟩,⟨rT⟩,⟨rT⟩,⟨rT⟩,⟨rT⟩,⟨rT⟩,⟨rT⟩,⟨rT⟩,⟨rT⟩,⟨rT⟩,⟨rT⟩,⟨rT⟩,⟨(nT cL3)⟩,⟨(nT cL3)⟩,⟨(nF cL2)⟩,⟨(nF cL2)⟩,⟨(nF cL2)⟩,⟨(iD k x3 _ eL1)⟩,⟨(i7 k x2 x3 x4 x5 _ eL0)⟩,⟨(rfl:ltI 0 2=true)⟩] (by kernel_rfl) (fun s h=>by cases h)
  rw[if_neg cL2] at h;replace cL2:=eqf cL2
  obtain rfl:=osi h
  show LT _ _ _ _ (.fin (.bool false) [])
  exact LT.done aF (hs:=⟨[],[],false,[],[]⟩) (es:=none) [dt,(A5_6 lG),(A5_7 lH),dt,dt,dt,dt,dt,dt,dt,dt,dt,dt,dt,dt,dt,dt,dt,dt,dt] [⟨rT⟩,⟨rT⟩,⟨rT⟩,⟨rT⟩,⟨rT⟩,⟨rT⟩,⟨rT⟩,⟨rT⟩,⟨rT⟩,⟨rT⟩,⟨rT⟩,⟨rT⟩,⟨rT⟩,⟨rT⟩,⟨(nT cL2)⟩,⟨(nT cL2)⟩,⟨(nT cL2)⟩,⟨(iD k x3 _ eL1)⟩,⟨(i7 k x2 x3 x4 x5 _ eL0)⟩,⟨(rfl:ltI 0 2=true)⟩] (by kernel_rfl) (fun s h=>by cases h)
theorem zL (k:Nat) (x1:aZ) (x2:Int) (x3:Int) (x4:Int) (x5:Int) (r:Bool) (h:l9 k x1 x2 x3 x4 x5=some r):Tri Try.prog 5 [(.sl 4 (List.map aC x1)),(.agg [(.int .i64 x2),(.int .i64 x3),(.int .u8 x4),(.int .i64 x5)])] [] (.bool r) []:=by
 unfold l9 at h
 obtain⟨x6,e0,h⟩:=bsm h
 by_cases c1:x6=true
 · rw[if_pos c1] at h
   obtain⟨x7,e2,h⟩:=bsm h
   cases x7 with
   | inl x8 =>
    simp only[Sum.elim_inl] at h
    obtain⟨x9,e4,h⟩:=bsm h
    obtain⟨x10,e5,h⟩:=bsm h
    obtain⟨x11,e6,h⟩:=bsm h
    by_cases c7:eqI x11.1 0=true
    · rw[if_pos c7] at h
      obtain rfl:=osi h
      exact Tri.of (x:=X5) aF aFD [.call ⟨true,[]⟩ (.bool x6) [],df,A5_8,.out (.st .normal (aEU x1 x2 x3 x4 x5)),(A5_9 x9),(A5_10 x10),df,df,df,df,(A5_11 x11),dt] [⟨c7⟩,⟨(b8 k x2 x3 x4 x5 x9.1 x9.2.1 x9.2.2.1 x9.2.2.2 _ e6)⟩,⟨rF⟩,⟨rF⟩,⟨rF⟩,⟨rF⟩,⟨(kO k x1 _ e5)⟩,⟨(kO k x1 _ e4)⟩,⟨(LT.block (jU x1 x2 x3 x4 x5 _ k e2))⟩,⟨(nF c1)⟩,⟨(oD k _ e0)⟩] (by kernel_rfl)
    rw[if_neg c7] at h;replace c7:=eqf c7
    obtain⟨x12,e8,h⟩:=bsm h
    cases x12 with
    | inl x13 =>
     simp only[Sum.elim_inl] at h
     obtain⟨x14,e10,h⟩:=bsm h
     obtain⟨x15,e11,h⟩:=bsm h
     obtain rfl:=osi h
     exact Tri.of (x:=X5) aF aFD [.call ⟨true,[]⟩ (.bool x6) [],df,A5_8,.out (.st .normal (aEU x1 x2 x3 x4 x5)),(A5_9 x9),(A5_10 x10),df,df,df,df,(A5_11 x11),df,A5_12,.out (.st .normal (aLQ x13.1 x13.2.1 x13.2.2.1 x13.2.2.2.1 x13.2.2.2.2.1 x13.2.2.2.2.2.1 x13.2.2.2.2.2.2.1 x13.2.2.2.2.2.2.2)),.call ⟨true,[]⟩ (.ref 4 3 0 0 x13.2.2.2.2.2.1.length .virt) [(.row [(.sl 2 (List.map aA x13.1)),(.sl 3 (List.map aD x13.2.1)),(.mp 1),(.ref 4 2 0 0 x13.2.2.2.2.2.1.length .virt)]),(.map (bU .i64 (fun y=>AV.agg (aB y)) x13.2.2.2.2.1) x13.2.2.2.2.1.length),(.arr 4 (List.map aC x13.2.2.2.2.2.1) 0 0 true),(.arr 4 (List.map aC x13.2.2.2.2.2.1) 0 0 false)],.call ⟨true,[]⟩ (.ref 4 3 0 0 x13.2.2.2.2.2.2.2.length .virt) [(.row [(.sl 2 (List.map aA x13.2.2.1)),(.sl 3 (List.map aD x13.2.2.2.1)),(.mp 1),(.ref 4 2 0 0 x13.2.2.2.2.2.2.2.length .virt)]),(.map (bU .i64 (fun y=>AV.agg (aB y)) x13.2.2.2.2.2.2.1) x13.2.2.2.2.2.2.1.length),(.arr 4 (List.map aC x13.2.2.2.2.2.2.2) 0 0 true),(.arr 4 (List.map aC x13.2.2.2.2.2.2.2) 0 0 false)]] [⟨(rR k x13.2.2.1 x13.2.2.2.1 x13.2.2.2.2.2.2.1 x13.2.2.2.2.2.2.2 _ e11)⟩,⟨(rR k x13.1 x13.2.1 x13.2.2.2.2.1 x13.2.2.2.2.2.1 _ e10)⟩,⟨(LT.block (mP _ k 0 x11.2.2.1 x11.2.2.2.1 x10.1 x10.2.1 x11.2.2.2.2.1 x11.2.2.2.2.2 x10.2.2.1 x10.2.2.2 e8))⟩,⟨c7⟩,⟨(b8 k x2 x3 x4 x5 x9.1 x9.2.1 x9.2.2.1 x9.2.2.2 _ e6)⟩,⟨rF⟩,⟨rF⟩,⟨rF⟩,⟨rF⟩,⟨(kO k x1 _ e5)⟩,⟨(kO k x1 _ e4)⟩,⟨(LT.block (jU x1 x2 x3 x4 x5 _ k e2))⟩,⟨(nF c1)⟩,⟨(oD k _ e0)⟩] (by kernel_rfl)
    | inr x13 =>
     simp only[Sum.elim_inr] at h
     obtain rfl:=osi h
     exact Tri.of (x:=X5) aF aFD [.call ⟨true,[]⟩ (.bool x6) [],df,A5_8,.out (.st .normal (aEU x1 x2 x3 x4 x5)),(A5_9 x9),(A5_10 x10),df,df,df,df,(A5_11 x11),df,A5_12,.out (.fin (.bool x13) [])] [⟨(LT.blockFin (id:=2) (mP _ k 0 x11.2.2.1 x11.2.2.2.1 x10.1 x10.2.1 x11.2.2.2.2.1 x11.2.2.2.2.2 x10.2.2.1 x10.2.2.2 e8))⟩,⟨c7⟩,⟨(b8 k x2 x3 x4 x5 x9.1 x9.2.1 x9.2.2.1 x9.2.2.2 _ e6)⟩,⟨rF⟩,⟨rF⟩,⟨rF⟩,⟨rF⟩,⟨(kO k x1 _ e5)⟩,⟨(kO k x1 _ e4)⟩,⟨(LT.block (jU x1 x2 x3 x4 x5 _ k e2))⟩,⟨(nF c1)⟩,⟨(oD k _ e0)⟩] (by kernel_rfl)
   | inr x8 =>
    simp only[Sum.elim_inr] at h
    obtain rfl:=osi h
    exact Tri.of (x:=X5) aF aFD [.call ⟨true,[]⟩ (.bool x6) [],df,A5_8,.out (.fin (.bool x8) [])] [⟨(LT.blockFin (id:=0) (jU x1 x2 x3 x4 x5 _ k e2))⟩,⟨(nF c1)⟩,⟨(oD k _ e0)⟩] (by kernel_rfl)
 rw[if_neg c1] at h;replace c1:=eqf c1
 obtain rfl:=osi h
 exact Tri.of (x:=X5) aF aFD [.call ⟨true,[]⟩ (.bool x6) [],dt] [⟨(nT c1)⟩,⟨(oD k _ e0)⟩] (by kernel_rfl)
end Go.Ws
