/-
  Walks, merged.
  Conditions: none.
-/
import Derived.Test.YtojldadifhneeaaZPre
import Derived.Test.YtojldadifhneeaaZPure
import Derived.Test.YtojldadifhneeaaZWGSiteAlone0
set_option linter.unusedVariables false
set_option linter.unusedSimpArgs false
namespace Go.Ws
open Go.Proofs
set_option linter.unusedSimpArgs false
set_option linter.unusedVariables false
set_option maxRecDepth 1000000
set_option maxHeartbeats 4000000
noncomputable def X26_4 (x1:Ty16) (x2:Ty12) (x3:Ty6) (x4:Ty11):Ctx:=⟨Try.f26,[(.row [(.sl 2 (List.map e_u8_i64 x1)),(.sl 3 (List.map e_u8_i64_b x2)),(.mp 1),(.ref 4 2 1 0 x4.length .virt)]),(.map (encM .i64 (fun y=>AV.agg (e_i64_Lu8i64E_b_i64 y)) x3) x3.length),(.arr 4 (List.map e_i64_i64_u8_i64 x4) 1 1 true)],false⟩
theorem ok_site_Site_good_4 (x1:Ty16) (x2:Ty12) (x3:Ty6) (x4:Ty11):Tri Try.prog 26 [(.hp 0 0)] [(.row [(.sl 2 (List.map e_u8_i64 x1)),(.sl 3 (List.map e_u8_i64_b x2)),(.mp 1),(.ref 4 2 1 0 x4.length .virt)]),(.map (encM .i64 (fun y=>AV.agg (e_i64_Lu8i64E_b_i64 y)) x3) x3.length),(.arr 4 (List.map e_i64_i64_u8_i64 x4) 1 1 true)] (.bool (!false)) [(.row [(.sl 2 (List.map e_u8_i64 x1)),(.sl 3 (List.map e_u8_i64_b x2)),(.mp 1),(.ref 4 2 1 0 x4.length .virt)]),(.map (encM .i64 (fun y=>AV.agg (e_i64_Lu8i64E_b_i64 y)) x3) x3.length),(.arr 4 (List.map e_i64_i64_u8_i64 x4) 1 1 true)]:=by
 obtain⟨r,h⟩:∃r,site_Site_good_4 x1 x2 x3 x4=r:=⟨_,rfl⟩
 try rw[h]
 unfold site_Site_good_4 at h
 obtain rfl:=h
 exact Tri.of (x:=(X26_4 x1 x2 x3 x4)) mixed facts26 [dt,dt,dt,dt,dt,dt,.norm 0 ⟨[(2,[])],[],false,[],[]⟩] [⟨(nT rfl)⟩,⟨(nT rfl)⟩,⟨(nT rfl)⟩,⟨(nT rfl)⟩,⟨(nT rfl)⟩,⟨(nT rfl)⟩] (by kernel_rfl)
end Go.Ws

namespace Go.Ws
open Go.Proofs
set_option linter.unusedSimpArgs false
set_option linter.unusedVariables false
set_option maxRecDepth 1000000
set_option maxHeartbeats 4000000
noncomputable def X37_4 (x9:Ty16) (x10:Ty12) (x11:Ty6) (x12:Ty11):Ctx:=⟨Try.f37,[(.row [(.sl 2 (List.map e_u8_i64 x9)),(.sl 3 (List.map e_u8_i64_b x10)),(.mp 1),(.ref 4 2 1 0 x12.length .virt)]),(.map (encM .i64 (fun y=>AV.agg (e_i64_Lu8i64E_b_i64 y)) x11) x11.length),(.arr 4 (List.map e_i64_i64_u8_i64 x12) 1 1 true)],false⟩
noncomputable def L37_4_0:Code:=at_ Try.f37 [1,1,1,1,1,1,1,0,1,4,5]
def S37_4_0 (x2:Ty16) (x5:Int) (x6:Int) (x7:Int) (x8:Int) (x9:Ty16) (x11:Ty6) (x12:Ty11) (x13:Ty12 × Int) (v437001_1:Int) (v437001_2:Int):St:=⟨mkT 92 [(5,(.hp 3 0)),(10,(.int .i64 v437001_1)),(75,(.sl 2 (List.map e_u8_i64 x2))),(76,(.int .i64 (nI x2.length))),(77,(.int .i64 v437001_2))],[(.row [(.sl 2 (List.map e_u8_i64 x9)),(.sl 3 (List.map e_u8_i64_b x13.1)),(.mp 1),(.ref 4 2 1 0 x12.length .virt)]),(.map (encM .i64 (fun y=>AV.agg (e_i64_Lu8i64E_b_i64 y)) x11) x11.length),(.arr 4 (List.map e_i64_i64_u8_i64 x12) 1 1 true),(.row [(.int .i64 x5),(.int .i64 x6),(.int .u8 x7),(.int .i64 x8)])]⟩
def E37_4_0_0 (x9:Ty16) (x11:Ty6) (x12:Ty11) (x13:Ty12 × Int) (v437002_1:Int):St:=⟨mkT 92 [(10,(.int .i64 v437002_1))],[(.row [(.sl 2 (List.map e_u8_i64 x9)),(.sl 3 (List.map e_u8_i64_b x13.1)),(.mp 1),(.ref 4 2 1 0 x12.length .virt)]),(.map (encM .i64 (fun y=>AV.agg (e_i64_Lu8i64E_b_i64 y)) x11) x11.length),(.arr 4 (List.map e_i64_i64_u8_i64 x12) 1 1 true)]⟩
def O37_4_0 (x2:Ty16) (x5:Int) (x6:Int) (x7:Int) (x8:Int) (x9:Ty16) (x10:Ty12) (x11:Ty6) (x12:Ty11) (x13:Ty12 × Int) (y:(Int)):GX:=.st (.exit 0) (E37_4_0_0 x9 x11 x12 x13 y)
def A37_4_0 (x13:Ty12 × Int):Ans:=.call ⟨true,[]⟩ (.tup [(.sl 3 (List.map e_u8_i64_b x13.1)),(.int .i64 x13.2)]) []
def A37_4_1 (x14:Int × Ty16 × Bool × Int × Int):Ans:=.call ⟨true,[]⟩ (.tup [(.agg [(.int .i64 x14.1),(.sl 2 (List.map e_u8_i64 x14.2.1)),(.bool x14.2.2.1),(.int .i64 x14.2.2.2.1)]),(.int .i64 x14.2.2.2.2)]) []
def A37_4_2:Ans:=.norm 0 ⟨[(6,[]),(7,[])],[],false,[],[]⟩
theorem ok_site_Site_access_4_l0 (x2:Ty16) (x5:Int) (x6:Int) (x7:Int) (x8:Int) (x9:Ty16) (x10:Ty12) (x11:Ty6) (x12:Ty11) (x13:Ty12 × Int) (y:(Int)):∀(k:Nat) (v437001_1:Int) (v437001_2:Int),site_Site_access_4_l0 k x2 x5 x6 x7 x8 x9 x10 x11 x12 x13 v437001_1 v437001_2=some y→LT Try.prog (X37_4 x9 x10 x11 x12) L37_4_0 (S37_4_0 x2 x5 x6 x7 x8 x9 x11 x12 x13 v437001_1 v437001_2) (O37_4_0 x2 x5 x6 x7 x8 x9 x10 x11 x12 x13 y)
 | 0,v437001_1,v437001_2,h=>by cases h
 | k+1,v437001_1,v437001_2,h=>by
  rw[site_Site_access_4_l0] at h
  by_cases cL0:ltI v437001_2 (nI x2.length)=true
  · rw[if_pos cL0] at h
    by_cases cL1:inI v437001_2 x2.length=true
    · rw[if_pos cL1] at h
      obtain⟨v437000_1,eL2,h⟩:=bsm h
      by_cases cL3:eqI v437000_1.1 x7=true
      · rw[if_pos cL3] at h
        exact LT.next mixed (hs:=⟨[(5,[]),(10,[]),(75,[]),(76,[]),(77,[])],[⟨.tmp 5,[],none⟩],false,[],[]⟩) (es:=none) [dt,.n x2.length,.row [(.int .u8 v437000_1.1),(.int .i64 v437000_1.2)],dt] [⟨cL3⟩,⟨(cells_map (e:=e_u8_i64) eL2 2 0 2 (by decide))⟩,⟨cL1⟩,⟨(len_map e_u8_i64 x2)⟩,⟨cL0⟩] (by kernel_rfl) (ok_site_Site_access_4_l0 x2 x5 x6 x7 x8 x9 x10 x11 x12 x13 y k (iadd .i64 v437001_1 v437000_1.2) (iadd .i64 v437001_2 1) h)
      rw[if_neg cL3] at h;replace cL3:=eqf cL3
      exact LT.next mixed (hs:=⟨[(5,[]),(10,[]),(75,[]),(76,[]),(77,[])],[⟨.tmp 5,[],none⟩],false,[],[]⟩) (es:=none) [dt,.n x2.length,.row [(.int .u8 v437000_1.1),(.int .i64 v437000_1.2)],df] [⟨cL3⟩,⟨(cells_map (e:=e_u8_i64) eL2 2 0 2 (by decide))⟩,⟨cL1⟩,⟨(len_map e_u8_i64 x2)⟩,⟨cL0⟩] (by kernel_rfl) (ok_site_Site_access_4_l0 x2 x5 x6 x7 x8 x9 x10 x11 x12 x13 y k v437001_1 (iadd .i64 v437001_2 1) h)
    rw[if_neg cL1] at h;replace cL1:=eqf cL1
    cases h
  rw[if_neg cL0] at h;replace cL0:=eqf cL0
  obtain rfl:=osi h
  show LT _ _ _ _ (.st (.exit 0) (E37_4_0_0 x9 x11 x12 x13 v437001_1))
  exact LT.done mixed (hs:=⟨[],[],false,[],[]⟩) (es:=(some ⟨[(10,[])],[],false,[],[]⟩)) [df] [⟨cL0⟩] (by kernel_rfl) (fun s h=>by cases h)
theorem ok_site_Site_access_4 (k:Nat) (x1:Int) (x2:Ty16) (x3:Bool) (x4:Int) (x5:Int) (x6:Int) (x7:Int) (x8:Int) (x9:Ty16) (x10:Ty12) (x11:Ty6) (x12:Ty11) (r:Ty12 × Ty6 × Int × Int) (h:site_Site_access_4 k x1 x2 x3 x4 x5 x6 x7 x8 x9 x10 x11 x12=some r):Tri Try.prog 37 [(.hp 0 0),(.agg [(.int .i64 x1),(.sl 2 (List.map e_u8_i64 x2)),(.bool x3),(.int .i64 x4)]),(.agg [(.int .i64 x5),(.int .i64 x6),(.int .u8 x7),(.int .i64 x8)])] [(.row [(.sl 2 (List.map e_u8_i64 x9)),(.sl 3 (List.map e_u8_i64_b x10)),(.mp 1),(.ref 4 2 1 0 x12.length .virt)]),(.map (encM .i64 (fun y=>AV.agg (e_i64_Lu8i64E_b_i64 y)) x11) x11.length),(.arr 4 (List.map e_i64_i64_u8_i64 x12) 1 1 true)] (.tup [(.int .i64 r.2.2.2),(.int .i64 r.2.2.1)]) [(.row [(.sl 2 (List.map e_u8_i64 x9)),(.sl 3 (List.map e_u8_i64_b r.1)),(.mp 1),(.ref 4 2 1 0 x12.length .virt)]),(.map (encM .i64 (fun y=>AV.agg (e_i64_Lu8i64E_b_i64 y)) r.2.1) r.2.1.length),(.arr 4 (List.map e_i64_i64_u8_i64 x12) 1 1 true)]:=by
 unfold site_Site_access_4 at h
 by_cases c0:eqI x1 0=true
 · rw[if_pos c0] at h
   obtain⟨x13,e1,h⟩:=bsm h
   by_cases c2:eqI x13.2 0=true
   · rw[if_pos c2] at h
     by_cases c3:eqI x5 3=true
     · rw[if_pos c3] at h
       obtain⟨x14,e4,h⟩:=bsm h
       by_cases c5:eqI x14.2.2.2.2 0=true
       · rw[if_pos c5] at h
         by_cases c6:mHas x11 x6=true
         · rw[if_pos c6] at h
           obtain⟨x15,e7,h⟩:=bsm h
           obtain rfl:=osi h
           exact Tri.of (x:=(X37_4 x9 x10 x11 x12)) mixed facts37 [df,(A37_4_0 x13),df,dt,(A37_4_1 x14),df,.opt (some (.agg [(.int .i64 x15.1),(.sl 2 (List.map e_u8_i64 x15.2.1)),(.bool x15.2.2.1),(.int .i64 x15.2.2.2)])),.n (mIx x11 x6),.ents (encM .i64 (fun y=>AV.agg (e_i64_Lu8i64E_b_i64 y)) x11) x11.length,.ents (encM .i64 (fun y=>AV.agg (e_i64_Lu8i64E_b_i64 y)) (mPut x11 x6 (x14.1,x14.2.1,x14.2.2.1,x14.2.2.2.1))) (mPut x11 x6 (x14.1,x14.2.1,x14.2.2.1,x14.2.2.2.1)).length,A37_4_2] [⟨(sb_some .i64 (fun y=>AV.agg (e_i64_Lu8i64E_b_i64 y)) e7 (x14.1,x14.2.1,x14.2.2.1,x14.2.2.2.1))⟩,⟨(ent_some .i64 (fun y=>AV.agg (e_i64_Lu8i64E_b_i64 y)) e7 (.agg [(.int .i64 0),(.sl 2 (List.map e_u8_i64 [])),(.bool false),(.int .i64 0)]))⟩,⟨(idx_enc .i64 (fun y=>AV.agg (e_i64_Lu8i64E_b_i64 y)) x11 x6)⟩,⟨(look_some .i64 (fun y=>AV.agg (e_i64_Lu8i64E_b_i64 y)) e7)⟩,⟨(nF c5)⟩,⟨(ok_part_Add k x1 x2 x3 x4 x7 x8 _ e4)⟩,⟨c3⟩,⟨(nF c2)⟩,⟨(ok_lock_Take k x10 x6 x7 (eqI x5 3) _ e1)⟩,⟨(nF c0)⟩] (by kernel_rfl)
         rw[if_neg c6] at h;replace c6:=eqf c6
         obtain rfl:=osi h
         exact Tri.of (x:=(X37_4 x9 x10 x11 x12)) mixed facts37 [df,(A37_4_0 x13),df,dt,(A37_4_1 x14),df,.opt none,.n (mIx x11 x6),.ents (encM .i64 (fun y=>AV.agg (e_i64_Lu8i64E_b_i64 y)) (mPut x11 x6 (0,[],false,0))) (mPut x11 x6 (0,[],false,0)).length,.ents (encM .i64 (fun y=>AV.agg (e_i64_Lu8i64E_b_i64 y)) (mPut x11 x6 (x14.1,x14.2.1,x14.2.2.1,x14.2.2.2.1))) (mPut x11 x6 (x14.1,x14.2.1,x14.2.2.1,x14.2.2.2.1)).length,A37_4_2] [⟨(sb_none .i64 (fun y=>AV.agg (e_i64_Lu8i64E_b_i64 y)) (l:=x11) (q:=x6) (0,[],false,0) (x14.1,x14.2.1,x14.2.2.1,x14.2.2.2.1))⟩,⟨(ent_none .i64 (fun y=>AV.agg (e_i64_Lu8i64E_b_i64 y)) c6 (0,[],false,0))⟩,⟨(idx_enc .i64 (fun y=>AV.agg (e_i64_Lu8i64E_b_i64 y)) x11 x6)⟩,⟨(look_none .i64 (fun y=>AV.agg (e_i64_Lu8i64E_b_i64 y)) c6)⟩,⟨(nF c5)⟩,⟨(ok_part_Add k x1 x2 x3 x4 x7 x8 _ e4)⟩,⟨c3⟩,⟨(nF c2)⟩,⟨(ok_lock_Take k x10 x6 x7 (eqI x5 3) _ e1)⟩,⟨(nF c0)⟩] (by kernel_rfl)
       rw[if_neg c5] at h;replace c5:=eqf c5
       obtain rfl:=osi h
       exact Tri.of (x:=(X37_4 x9 x10 x11 x12)) mixed facts37 [df,(A37_4_0 x13),df,dt,(A37_4_1 x14),dt,A37_4_2] [⟨(nT c5)⟩,⟨(ok_part_Add k x1 x2 x3 x4 x7 x8 _ e4)⟩,⟨c3⟩,⟨(nF c2)⟩,⟨(ok_lock_Take k x10 x6 x7 (eqI x5 3) _ e1)⟩,⟨(nF c0)⟩] (by kernel_rfl)
     rw[if_neg c3] at h;replace c3:=eqf c3
     obtain⟨x14,e4,h⟩:=bsm h
     obtain⟨x16,e5,h⟩:=bsm h
     obtain rfl:=osi h
     exact Tri.of (x:=(X37_4 x9 x10 x11 x12)) mixed facts37 [df,(A37_4_0 x13),df,df,.call ⟨true,[]⟩ (.int .i64 x14) [],.n x2.length,.norm 2 ⟨[(5,[]),(10,[]),(75,[]),(76,[]),(77,[])],[⟨.tmp 5,[],none⟩],false,[],[]⟩,.out (.st .normal (E37_4_0_0 x9 x11 x12 x13 x16)),A37_4_2] [⟨(LT.block (ok_site_Site_access_4_l0 x2 x5 x6 x7 x8 x9 x10 x11 x12 x13 _ k x14 0 e5))⟩,⟨(len_map e_u8_i64 x2)⟩,⟨(ok_ledger_Get k x9 x7 _ e4)⟩,⟨c3⟩,⟨(nF c2)⟩,⟨(ok_lock_Take k x10 x6 x7 (eqI x5 3) _ e1)⟩,⟨(nF c0)⟩] (by kernel_rfl)
   rw[if_neg c2] at h;replace c2:=eqf c2
   obtain rfl:=osi h
   exact Tri.of (x:=(X37_4 x9 x10 x11 x12)) mixed facts37 [df,(A37_4_0 x13),dt,A37_4_2] [⟨(nT c2)⟩,⟨(ok_lock_Take k x10 x6 x7 (eqI x5 3) _ e1)⟩,⟨(nF c0)⟩] (by kernel_rfl)
 rw[if_neg c0] at h;replace c0:=eqf c0
 obtain rfl:=osi h
 exact Tri.of (x:=(X37_4 x9 x10 x11 x12)) mixed facts37 [dt,A37_4_2] [⟨(nT c0)⟩] (by kernel_rfl)
end Go.Ws

namespace Go.Ws
open Go.Proofs
set_option linter.unusedSimpArgs false
set_option linter.unusedVariables false
set_option maxRecDepth 1000000
set_option maxHeartbeats 4000000
noncomputable def X38_4 (x9:Ty16) (x10:Ty12) (x11:Ty6) (x12:Ty11):Ctx:=⟨Try.f38,[(.row [(.sl 2 (List.map e_u8_i64 x9)),(.sl 3 (List.map e_u8_i64_b x10)),(.mp 1),(.ref 4 2 1 0 x12.length .virt)]),(.map (encM .i64 (fun y=>AV.agg (e_i64_Lu8i64E_b_i64 y)) x11) x11.length),(.arr 4 (List.map e_i64_i64_u8_i64 x12) 1 1 true)],false⟩
def A38_4_0 (x13:Int × Ty16 × Bool × Int × Int):Ans:=.call ⟨true,[]⟩ (.tup [(.agg [(.int .i64 x13.1),(.sl 2 (List.map e_u8_i64 x13.2.1)),(.bool x13.2.2.1),(.int .i64 x13.2.2.2.1)]),(.int .i64 x13.2.2.2.2)]) []
def A38_4_1 (x15:Ty12):Ans:=.call ⟨true,[]⟩ (.sl 3 (List.map e_u8_i64_b x15)) []
def A38_4_2 (x13:Int × Ty16 × Bool × Int × Ty16 × Int):Ans:=.call ⟨true,[]⟩ (.tup [(.agg [(.int .i64 x13.1),(.sl 2 (List.map e_u8_i64 x13.2.1)),(.bool x13.2.2.1),(.int .i64 x13.2.2.2.1)]),(.sl 2 (List.map e_u8_i64 x13.2.2.2.2.1)),(.int .i64 x13.2.2.2.2.2)]) []
def A38_4_3 (x6:Int) (x11:Ty6) (x13:Int × Ty16 × Bool × Int × Ty16 × Int):Ans:=.ents (encM .i64 (fun y=>AV.agg (e_i64_Lu8i64E_b_i64 y)) (mPut x11 x6 (x13.1,x13.2.1,x13.2.2.1,x13.2.2.2.1))) (mPut x11 x6 (x13.1,x13.2.1,x13.2.2.1,x13.2.2.2.1)).length
def A38_4_4 (x14:Ty16 × Int):Ans:=.call ⟨true,[]⟩ (.tup [(.sl 2 (List.map e_u8_i64 x14.1)),(.int .i64 x14.2)]) []
theorem ok_site_Site_end_4 (k:Nat) (x1:Int) (x2:Ty16) (x3:Bool) (x4:Int) (x5:Int) (x6:Int) (x7:Int) (x8:Int) (x9:Ty16) (x10:Ty12) (x11:Ty6) (x12:Ty11) (r:Ty16 × Ty12 × Ty6 × Int) (h:site_Site_end_4 k x1 x2 x3 x4 x5 x6 x7 x8 x9 x10 x11 x12=some r):Tri Try.prog 38 [(.hp 0 0),(.agg [(.int .i64 x1),(.sl 2 (List.map e_u8_i64 x2)),(.bool x3),(.int .i64 x4)]),(.agg [(.int .i64 x5),(.int .i64 x6),(.int .u8 x7),(.int .i64 x8)])] [(.row [(.sl 2 (List.map e_u8_i64 x9)),(.sl 3 (List.map e_u8_i64_b x10)),(.mp 1),(.ref 4 2 1 0 x12.length .virt)]),(.map (encM .i64 (fun y=>AV.agg (e_i64_Lu8i64E_b_i64 y)) x11) x11.length),(.arr 4 (List.map e_i64_i64_u8_i64 x12) 1 1 true)] (.int .i64 r.2.2.2) [(.row [(.sl 2 (List.map e_u8_i64 r.1)),(.sl 3 (List.map e_u8_i64_b r.2.1)),(.mp 1),(.ref 4 2 1 0 x12.length .virt)]),(.map (encM .i64 (fun y=>AV.agg (e_i64_Lu8i64E_b_i64 y)) r.2.2.1) r.2.2.1.length),(.arr 4 (List.map e_i64_i64_u8_i64 x12) 1 1 true)]:=by
 unfold site_Site_end_4 at h
 by_cases c0:eqI x5 4=true
 · rw[if_pos c0] at h
   obtain⟨x13,e1,h⟩:=bsm h
   by_cases c2:eqI x13.2.2.2.2 0=true
   · rw[if_pos c2] at h
     obtain⟨x14,e3,h⟩:=bsm h
     by_cases c4:eqI x13.1 2=true
     · rw[if_pos c4] at h
       obtain⟨x15,e5,h⟩:=bsm h
       obtain rfl:=osi h
       exact Tri.of (x:=(X38_4 x9 x10 x11 x12)) mixed facts38 [dt,(A38_4_0 x13),df,.ents (encM .i64 (fun y=>AV.agg (e_i64_Lu8i64E_b_i64 y)) (mPut x11 x6 (x13.1,x13.2.1,x13.2.2.1,x13.2.2.2.1))) (mPut x11 x6 (x13.1,x13.2.1,x13.2.2.1,x13.2.2.2.1)).length,.call ⟨true,[[],[(0,2)]]⟩ (.tup [(.sl 2 (List.map e_u8_i64 x14.1)),(.int .i64 x14.2)]) [],df,df,df,df,dt,(A38_4_1 x15),.norm 0 ⟨[(6,[])],[],false,[],[]⟩] [⟨(ok_lock_Free k x10 x6 _ e5)⟩,⟨c4⟩,⟨(nF c0)⟩,⟨(nF c0)⟩,⟨(nF c0)⟩,⟨(nF c0)⟩,⟨(ok_ledger_Put k x9 [] _ e3)⟩,⟨(put_enc .i64 (fun y=>AV.agg (e_i64_Lu8i64E_b_i64 y)) x11 x6 (x13.1,x13.2.1,x13.2.2.1,x13.2.2.2.1))⟩,⟨(nF c2)⟩,⟨(ok_part_Vote k x1 x2 x3 x4 (!eqI x8 0) _ e1)⟩,⟨c0⟩] (by kernel_rfl)
     rw[if_neg c4] at h;replace c4:=eqf c4
     obtain rfl:=osi h
     exact Tri.of (x:=(X38_4 x9 x10 x11 x12)) mixed facts38 [dt,(A38_4_0 x13),df,.ents (encM .i64 (fun y=>AV.agg (e_i64_Lu8i64E_b_i64 y)) (mPut x11 x6 (x13.1,x13.2.1,x13.2.2.1,x13.2.2.2.1))) (mPut x11 x6 (x13.1,x13.2.1,x13.2.2.1,x13.2.2.2.1)).length,.call ⟨true,[[],[(0,2)]]⟩ (.tup [(.sl 2 (List.map e_u8_i64 x14.1)),(.int .i64 x14.2)]) [],df,df,df,df,df,.norm 0 ⟨[(6,[])],[],false,[],[]⟩] [⟨c4⟩,⟨(nF c0)⟩,⟨(nF c0)⟩,⟨(nF c0)⟩,⟨(nF c0)⟩,⟨(ok_ledger_Put k x9 [] _ e3)⟩,⟨(put_enc .i64 (fun y=>AV.agg (e_i64_Lu8i64E_b_i64 y)) x11 x6 (x13.1,x13.2.1,x13.2.2.1,x13.2.2.2.1))⟩,⟨(nF c2)⟩,⟨(ok_part_Vote k x1 x2 x3 x4 (!eqI x8 0) _ e1)⟩,⟨c0⟩] (by kernel_rfl)
   rw[if_neg c2] at h;replace c2:=eqf c2
   obtain rfl:=osi h
   exact Tri.of (x:=(X38_4 x9 x10 x11 x12)) mixed facts38 [dt,(A38_4_0 x13),dt,.norm 0 ⟨[(6,[])],[],false,[],[]⟩] [⟨(nT c2)⟩,⟨(ok_part_Vote k x1 x2 x3 x4 (!eqI x8 0) _ e1)⟩,⟨c0⟩] (by kernel_rfl)
 rw[if_neg c0] at h;replace c0:=eqf c0
 by_cases c1:eqI x5 5=true
 · rw[if_pos c1] at h
   obtain⟨x13,e2,h⟩:=bsm h
   by_cases c3:eqI x13.2.2.2.2.2 0=true
   · rw[if_pos c3] at h
     obtain⟨x14,e4,h⟩:=bsm h
     obtain⟨x15,e5,h⟩:=bsm h
     obtain rfl:=osi h
     exact Tri.of (x:=(X38_4 x9 x10 x11 x12)) mixed facts38 [df,dt,(A38_4_2 x13),df,(A38_4_3 x6 x11 x13),(A38_4_4 x14),dt,dt,dt,dt,dt,(A38_4_1 x15),.norm 0 ⟨[(6,[])],[],false,[],[]⟩] [⟨(ok_lock_Free k x10 x6 _ e5)⟩,⟨rT⟩,⟨(nT c0)⟩,⟨(nT c0)⟩,⟨(nT c0)⟩,⟨(nT c0)⟩,⟨(ok_ledger_Put k x9 x13.2.2.2.2.1 _ e4)⟩,⟨(put_enc .i64 (fun y=>AV.agg (e_i64_Lu8i64E_b_i64 y)) x11 x6 (x13.1,x13.2.1,x13.2.2.1,x13.2.2.2.1))⟩,⟨(nF c3)⟩,⟨(ok_part_Local k x1 x2 x3 x4 _ e2)⟩,⟨c1⟩,⟨c0⟩] (by kernel_rfl)
   rw[if_neg c3] at h;replace c3:=eqf c3
   obtain rfl:=osi h
   exact Tri.of (x:=(X38_4 x9 x10 x11 x12)) mixed facts38 [df,dt,(A38_4_2 x13),dt,.norm 0 ⟨[(6,[])],[],false,[],[]⟩] [⟨(nT c3)⟩,⟨(ok_part_Local k x1 x2 x3 x4 _ e2)⟩,⟨c1⟩,⟨c0⟩] (by kernel_rfl)
 rw[if_neg c1] at h;replace c1:=eqf c1
 by_cases c2:eqI x8 1=true
 · rw[if_pos c2] at h
   obtain⟨x13,e3,h⟩:=bsm h
   by_cases c4:eqI x13.2.2.2.2.2 0=true
   · rw[if_pos c4] at h
     obtain⟨x14,e5,h⟩:=bsm h
     obtain⟨x15,e6,h⟩:=bsm h
     obtain rfl:=osi h
     exact Tri.of (x:=(X38_4 x9 x10 x11 x12)) mixed facts38 [df,df,dt,dt,dt,dt,dt,(A38_4_2 x13),df,(A38_4_3 x6 x11 x13),(A38_4_4 x14),dt,dt,dt,dt,dt,(A38_4_1 x15),.norm 0 ⟨[(6,[])],[],false,[],[]⟩] [⟨(ok_lock_Free k x10 x6 _ e6)⟩,⟨rT⟩,⟨(nT c0)⟩,⟨(nT c0)⟩,⟨(nT c0)⟩,⟨(nT c0)⟩,⟨(ok_ledger_Put k x9 x13.2.2.2.2.1 _ e5)⟩,⟨(put_enc .i64 (fun y=>AV.agg (e_i64_Lu8i64E_b_i64 y)) x11 x6 (x13.1,x13.2.1,x13.2.2.1,x13.2.2.2.1))⟩,⟨(nF c4)⟩,⟨(ok_part_Decide k x1 x2 x3 x4 x8 _ e3)⟩,⟨rT⟩,⟨c2⟩,⟨c2⟩,⟨c2⟩,⟨c2⟩,⟨c1⟩,⟨c0⟩] (by kernel_rfl)
   rw[if_neg c4] at h;replace c4:=eqf c4
   obtain rfl:=osi h
   exact Tri.of (x:=(X38_4 x9 x10 x11 x12)) mixed facts38 [df,df,dt,dt,dt,dt,dt,(A38_4_2 x13),dt,.norm 0 ⟨[(6,[])],[],false,[],[]⟩] [⟨(nT c4)⟩,⟨(ok_part_Decide k x1 x2 x3 x4 x8 _ e3)⟩,⟨rT⟩,⟨c2⟩,⟨c2⟩,⟨c2⟩,⟨c2⟩,⟨c1⟩,⟨c0⟩] (by kernel_rfl)
 rw[if_neg c2] at h;replace c2:=eqf c2
 by_cases c3:eqI x8 2=true
 · rw[if_pos c3] at h
   obtain⟨x13,e4,h⟩:=bsm h
   by_cases c5:eqI x13.2.2.2.2.2 0=true
   · rw[if_pos c5] at h
     obtain⟨x14,e6,h⟩:=bsm h
     obtain⟨x15,e7,h⟩:=bsm h
     obtain rfl:=osi h
     exact Tri.of (x:=(X38_4 x9 x10 x11 x12)) mixed facts38 [df,df,df,df,df,df,dt,(A38_4_2 x13),df,(A38_4_3 x6 x11 x13),(A38_4_4 x14),dt,dt,dt,dt,dt,(A38_4_1 x15),.norm 0 ⟨[(6,[])],[],false,[],[]⟩] [⟨(ok_lock_Free k x10 x6 _ e7)⟩,⟨rT⟩,⟨(nT c0)⟩,⟨(nT c0)⟩,⟨(nT c0)⟩,⟨(nT c0)⟩,⟨(ok_ledger_Put k x9 x13.2.2.2.2.1 _ e6)⟩,⟨(put_enc .i64 (fun y=>AV.agg (e_i64_Lu8i64E_b_i64 y)) x11 x6 (x13.1,x13.2.1,x13.2.2.1,x13.2.2.2.1))⟩,⟨(nF c5)⟩,⟨(ok_part_Decide k x1 x2 x3 x4 x8 _ e4)⟩,⟨c3⟩,⟨c2⟩,⟨c2⟩,⟨c2⟩,⟨c2⟩,⟨c1⟩,⟨c0⟩] (by kernel_rfl)
   rw[if_neg c5] at h;replace c5:=eqf c5
   obtain rfl:=osi h
   exact Tri.of (x:=(X38_4 x9 x10 x11 x12)) mixed facts38 [df,df,df,df,df,df,dt,(A38_4_2 x13),dt,.norm 0 ⟨[(6,[])],[],false,[],[]⟩] [⟨(nT c5)⟩,⟨(ok_part_Decide k x1 x2 x3 x4 x8 _ e4)⟩,⟨c3⟩,⟨c2⟩,⟨c2⟩,⟨c2⟩,⟨c2⟩,⟨c1⟩,⟨c0⟩] (by kernel_rfl)
 rw[if_neg c3] at h;replace c3:=eqf c3
 obtain rfl:=osi h
 exact Tri.of (x:=(X38_4 x9 x10 x11 x12)) mixed facts38 [df,df,df,df,df,df,df,dt,.norm 0 ⟨[(6,[])],[],false,[],[]⟩] [⟨(nT (rfl:eqI 2 0=false))⟩,⟨c3⟩,⟨c2⟩,⟨c2⟩,⟨c2⟩,⟨c2⟩,⟨c1⟩,⟨c0⟩] (by kernel_rfl)
end Go.Ws

namespace Go.Ws
open Go.Proofs
set_option linter.unusedSimpArgs false
set_option linter.unusedVariables false
set_option maxRecDepth 1000000
set_option maxHeartbeats 4000000
noncomputable def X27_4 (x9:Ty16) (x10:Ty12) (x11:Ty6) (x12:Ty11):Ctx:=⟨Try.f27,[(.row [(.sl 2 (List.map e_u8_i64 x9)),(.sl 3 (List.map e_u8_i64_b x10)),(.mp 1),(.ref 4 2 1 0 x12.length .virt)]),(.map (encM .i64 (fun y=>AV.agg (e_i64_Lu8i64E_b_i64 y)) x11) x11.length),(.arr 4 (List.map e_i64_i64_u8_i64 x12) 1 1 true)],false⟩
def A27_4_0:Ans:=.norm 0 ⟨[(6,[]),(7,[])],[],false,[],[]⟩
def A27_4_1 (x9:Ty16) (x12:Ty11) (x13:Ty12 × Ty6 × Int × Int):Ans:=.call ⟨true,[]⟩ (.tup [(.int .i64 x13.2.2.2),(.int .i64 x13.2.2.1)]) [(.row [(.sl 2 (List.map e_u8_i64 x9)),(.sl 3 (List.map e_u8_i64_b x13.1)),(.mp 1),(.ref 4 2 1 0 x12.length .virt)]),(.map (encM .i64 (fun y=>AV.agg (e_i64_Lu8i64E_b_i64 y)) x13.2.1) x13.2.1.length),(.arr 4 (List.map e_i64_i64_u8_i64 x12) 1 1 true)]
theorem ok_site_Site_step_4 (k:Nat) (x1:Int) (x2:Ty16) (x3:Bool) (x4:Int) (x5:Int) (x6:Int) (x7:Int) (x8:Int) (x9:Ty16) (x10:Ty12) (x11:Ty6) (x12:Ty11) (r:Int × Int × Ty12 × Ty6 × Ty16) (h:site_Site_step_4 k x1 x2 x3 x4 x5 x6 x7 x8 x9 x10 x11 x12=some r):Tri Try.prog 27 [(.hp 0 0),(.agg [(.int .i64 x1),(.sl 2 (List.map e_u8_i64 x2)),(.bool x3),(.int .i64 x4)]),(.agg [(.int .i64 x5),(.int .i64 x6),(.int .u8 x7),(.int .i64 x8)])] [(.row [(.sl 2 (List.map e_u8_i64 x9)),(.sl 3 (List.map e_u8_i64_b x10)),(.mp 1),(.ref 4 2 1 0 x12.length .virt)]),(.map (encM .i64 (fun y=>AV.agg (e_i64_Lu8i64E_b_i64 y)) x11) x11.length),(.arr 4 (List.map e_i64_i64_u8_i64 x12) 1 1 true)] (.tup [(.int .i64 r.1),(.int .i64 r.2.1)]) [(.row [(.sl 2 (List.map e_u8_i64 r.2.2.2.2)),(.sl 3 (List.map e_u8_i64_b r.2.2.1)),(.mp 1),(.ref 4 2 1 0 x12.length .virt)]),(.map (encM .i64 (fun y=>AV.agg (e_i64_Lu8i64E_b_i64 y)) r.2.2.2.1) r.2.2.2.1.length),(.arr 4 (List.map e_i64_i64_u8_i64 x12) 1 1 true)]:=by
 unfold site_Site_step_4 at h
 by_cases c0:eqI x5 1=true
 · rw[if_pos c0] at h
   obtain rfl:=osi h
   exact Tri.of (x:=(X27_4 x9 x10 x11 x12)) mixed facts27 [dt,.ents (encM .i64 (fun y=>AV.agg (e_i64_Lu8i64E_b_i64 y)) (mPut x11 x6 (x1,x2,x3,x4))) (mPut x11 x6 (x1,x2,x3,x4)).length,A27_4_0] [⟨(put_enc .i64 (fun y=>AV.agg (e_i64_Lu8i64E_b_i64 y)) x11 x6 (x1,x2,x3,x4))⟩,⟨c0⟩] (by kernel_rfl)
 rw[if_neg c0] at h;replace c0:=eqf c0
 by_cases c1:eqI x5 2=true
 · rw[if_pos c1] at h
   obtain⟨x13,e2,h⟩:=bsm h
   obtain rfl:=osi h
   exact Tri.of (x:=(X27_4 x9 x10 x11 x12)) mixed facts27 [df,dt,dt,(A27_4_1 x9 x12 x13),A27_4_0] [⟨(ok_site_Site_access_4 k x1 x2 x3 x4 x5 x6 x7 x8 x9 x10 x11 x12 _ e2)⟩,⟨c1⟩,⟨c1⟩,⟨c0⟩] (by kernel_rfl)
 rw[if_neg c1] at h;replace c1:=eqf c1
 by_cases c2:eqI x5 3=true
 · rw[if_pos c2] at h
   obtain⟨x13,e3,h⟩:=bsm h
   obtain rfl:=osi h
   exact Tri.of (x:=(X27_4 x9 x10 x11 x12)) mixed facts27 [df,df,dt,(A27_4_1 x9 x12 x13),A27_4_0] [⟨(ok_site_Site_access_4 k x1 x2 x3 x4 x5 x6 x7 x8 x9 x10 x11 x12 _ e3)⟩,⟨c2⟩,⟨c1⟩,⟨c0⟩] (by kernel_rfl)
 rw[if_neg c2] at h;replace c2:=eqf c2
 obtain⟨x13,e3,h⟩:=bsm h
 obtain rfl:=osi h
 exact Tri.of (x:=(X27_4 x9 x10 x11 x12)) mixed facts27 [df,df,df,.call ⟨true,[]⟩ (.int .i64 x13.2.2.2) [(.row [(.sl 2 (List.map e_u8_i64 x13.1)),(.sl 3 (List.map e_u8_i64_b x13.2.1)),(.mp 1),(.ref 4 2 1 0 x12.length .virt)]),(.map (encM .i64 (fun y=>AV.agg (e_i64_Lu8i64E_b_i64 y)) x13.2.2.1) x13.2.2.1.length),(.arr 4 (List.map e_i64_i64_u8_i64 x12) 1 1 true)],A27_4_0] [⟨(ok_site_Site_end_4 k x1 x2 x3 x4 x5 x6 x7 x8 x9 x10 x11 x12 _ e3)⟩,⟨c2⟩,⟨c1⟩,⟨c0⟩] (by kernel_rfl)
end Go.Ws

namespace Go.Ws
open Go.Proofs
set_option linter.unusedSimpArgs false
set_option linter.unusedVariables false
set_option maxRecDepth 1000000
set_option maxHeartbeats 4000000
noncomputable def X14_4 (x5:Ty16) (x6:Ty12) (x7:Ty6) (x8:Ty11):Ctx:=⟨Try.f14,[(.row [(.sl 2 (List.map e_u8_i64 x5)),(.sl 3 (List.map e_u8_i64_b x6)),(.mp 1),(.ref 4 2 1 0 x8.length .virt)]),(.map (encM .i64 (fun y=>AV.agg (e_i64_Lu8i64E_b_i64 y)) x7) x7.length),(.arr 4 (List.map e_i64_i64_u8_i64 x8) 1 1 true)],false⟩
def A14_4_0 (x5:Ty16) (x6:Ty12) (x7:Ty6) (x8:Ty11):Ans:=.call ⟨true,[]⟩ (.bool (!false)) [(.row [(.sl 2 (List.map e_u8_i64 x5)),(.sl 3 (List.map e_u8_i64_b x6)),(.mp 1),(.ref 4 2 1 0 x8.length .virt)]),(.map (encM .i64 (fun y=>AV.agg (e_i64_Lu8i64E_b_i64 y)) x7) x7.length),(.arr 4 (List.map e_i64_i64_u8_i64 x8) 1 1 true)]
def A14_4_1:Ans:=.norm 0 ⟨[(4,[]),(5,[])],[],false,[],[none,none,some 2]⟩
def A14_4_2 (x9:Int × Ty16 × Bool × Int):Ans:=.opt (some (.agg [(.int .i64 x9.1),(.sl 2 (List.map e_u8_i64 x9.2.1)),(.bool x9.2.2.1),(.int .i64 x9.2.2.2)]))
def A14_4_3 (x8:Ty11) (x10:Int × Int × Ty12 × Ty6 × Ty16):Ans:=.call ⟨true,[]⟩ (.tup [(.int .i64 x10.1),(.int .i64 x10.2.1)]) [(.row [(.sl 2 (List.map e_u8_i64 x10.2.2.2.2)),(.sl 3 (List.map e_u8_i64_b x10.2.2.1)),(.mp 1),(.ref 4 2 1 0 x8.length .virt)]),(.map (encM .i64 (fun y=>AV.agg (e_i64_Lu8i64E_b_i64 y)) x10.2.2.2.1) x10.2.2.2.1.length),(.arr 4 (List.map e_i64_i64_u8_i64 x8) 1 1 true)]
def A14_4_4 (x8:Ty11) (x9:Int × Int × Ty12 × Ty6 × Ty16):Ans:=.call ⟨true,[]⟩ (.tup [(.int .i64 x9.1),(.int .i64 x9.2.1)]) [(.row [(.sl 2 (List.map e_u8_i64 x9.2.2.2.2)),(.sl 3 (List.map e_u8_i64_b x9.2.2.1)),(.mp 1),(.ref 4 2 1 0 x8.length .virt)]),(.map (encM .i64 (fun y=>AV.agg (e_i64_Lu8i64E_b_i64 y)) x9.2.2.2.1) x9.2.2.2.1.length),(.arr 4 (List.map e_i64_i64_u8_i64 x8) 1 1 true)]
theorem ok_site_Site_Do_4 (k:Nat) (x1:Int) (x2:Int) (x3:Int) (x4:Int) (x5:Ty16) (x6:Ty12) (x7:Ty6) (x8:Ty11) (r:Int × Int × Ty16 × Ty12 × Ty6 × Ty11) (h:site_Site_Do_4 k x1 x2 x3 x4 x5 x6 x7 x8=some r):Tri Try.prog 14 [(.hp 0 0),(.agg [(.int .i64 x1),(.int .i64 x2),(.int .u8 x3),(.int .i64 x4)])] [(.row [(.sl 2 (List.map e_u8_i64 x5)),(.sl 3 (List.map e_u8_i64_b x6)),(.mp 1),(.ref 4 2 1 0 x8.length .virt)]),(.map (encM .i64 (fun y=>AV.agg (e_i64_Lu8i64E_b_i64 y)) x7) x7.length),(.arr 4 (List.map e_i64_i64_u8_i64 x8) 1 1 true)] (.tup [(.int .i64 r.2.1),(.int .i64 r.1)]) [(.row [(.sl 2 (List.map e_u8_i64 r.2.2.1)),(.sl 3 (List.map e_u8_i64_b r.2.2.2.1)),(.mp 1),(.ref 4 2 2 0 r.2.2.2.2.2.length .virt)]),(.map (encM .i64 (fun y=>AV.agg (e_i64_Lu8i64E_b_i64 y)) r.2.2.2.2.1) r.2.2.2.2.1.length),(.arr 4 (List.map e_i64_i64_u8_i64 r.2.2.2.2.2) 2 2 true)]:=by
 unfold site_Site_Do_4 at h
 by_cases c0:ltI x1 1=true
 · rw[if_pos c0] at h
   obtain rfl:=osi h
   exact Tri.of (x:=(X14_4 x5 x6 x7 x8)) mixed facts14 [(A14_4_0 x5 x6 x7 x8),df,dt,dt,dt,dt,dt,dt,dt,dt,dt,dt,dt,dt,dt,A14_4_1] [⟨rT⟩,⟨rT⟩,⟨rT⟩,⟨rT⟩,⟨rT⟩,⟨rT⟩,⟨rT⟩,⟨rT⟩,⟨rT⟩,⟨c0⟩,⟨c0⟩,⟨c0⟩,⟨c0⟩,⟨(nF (nT rfl))⟩,⟨(ok_site_Site_good_4 x5 x6 x7 x8)⟩] (by kernel_rfl)
 rw[if_neg c0] at h;replace c0:=eqf c0
 by_cases c1:ltI 6 x1=true
 · rw[if_pos c1] at h
   obtain rfl:=osi h
   exact Tri.of (x:=(X14_4 x5 x6 x7 x8)) mixed facts14 [(A14_4_0 x5 x6 x7 x8),df,df,df,df,df,dt,dt,dt,dt,dt,dt,dt,dt,dt,A14_4_1] [⟨rT⟩,⟨rT⟩,⟨rT⟩,⟨rT⟩,⟨rT⟩,⟨c1⟩,⟨c1⟩,⟨c1⟩,⟨c1⟩,⟨c0⟩,⟨c0⟩,⟨c0⟩,⟨c0⟩,⟨(nF (nT rfl))⟩,⟨(ok_site_Site_good_4 x5 x6 x7 x8)⟩] (by kernel_rfl)
 rw[if_neg c1] at h;replace c1:=eqf c1
 by_cases c2:ltI x2 0=true
 · rw[if_pos c2] at h
   obtain rfl:=osi h
   exact Tri.of (x:=(X14_4 x5 x6 x7 x8)) mixed facts14 [(A14_4_0 x5 x6 x7 x8),df,df,df,df,df,df,df,df,df,dt,dt,dt,dt,dt,A14_4_1] [⟨rT⟩,⟨c2⟩,⟨c2⟩,⟨c2⟩,⟨c2⟩,⟨c1⟩,⟨c1⟩,⟨c1⟩,⟨c1⟩,⟨c0⟩,⟨c0⟩,⟨c0⟩,⟨c0⟩,⟨(nF (nT rfl))⟩,⟨(ok_site_Site_good_4 x5 x6 x7 x8)⟩] (by kernel_rfl)
 rw[if_neg c2] at h;replace c2:=eqf c2
 by_cases c3:ltI x2 1000=true
 · rw[if_pos c3] at h
   by_cases c4:mHas x7 x2=true
   · rw[if_pos c4] at h
     obtain⟨x9,e5,h⟩:=bsm h
     by_cases c6:eqB true (eqI x1 1)=true
     · rw[if_pos c6] at h
       obtain rfl:=osi h
       exact Tri.of (x:=(X14_4 x5 x6 x7 x8)) mixed facts14 [(A14_4_0 x5 x6 x7 x8),df,df,df,df,df,df,df,df,df,df,df,df,df,df,(A14_4_2 x9),dt,dt,A14_4_1] [⟨rT⟩,⟨c6⟩,⟨(look_some .i64 (fun y=>AV.agg (e_i64_Lu8i64E_b_i64 y)) e5)⟩,⟨(nF c3)⟩,⟨c2⟩,⟨c2⟩,⟨c2⟩,⟨c2⟩,⟨c1⟩,⟨c1⟩,⟨c1⟩,⟨c1⟩,⟨c0⟩,⟨c0⟩,⟨c0⟩,⟨c0⟩,⟨(nF (nT rfl))⟩,⟨(ok_site_Site_good_4 x5 x6 x7 x8)⟩] (by kernel_rfl)
     rw[if_neg c6] at h;replace c6:=eqf c6
     obtain⟨x10,e7,h⟩:=bsm h
     by_cases c8:eqI x10.2.1 0=true
     · rw[if_pos c8] at h
       by_cases c9:roomI (((x8++[(x1,x2,x3,x4)]).length)*32)=true
       · rw[if_pos c9] at h
         obtain rfl:=osi h
         exact Tri.of (x:=(X14_4 x5 x6 x7 x8)) mixed facts14 [(A14_4_0 x5 x6 x7 x8),df,df,df,df,df,df,df,df,df,df,df,df,df,df,(A14_4_2 x9),df,(A14_4_3 x8 x10),df,.rows (List.map e_i64_i64_u8_i64 [(x1,x2,x3,x4)]),.n ((x8++[(x1,x2,x3,x4)]).length),.n x8.length,dt,.rows (List.map e_i64_i64_u8_i64 (x8++[(x1,x2,x3,x4)])),A14_4_1] [⟨(app_map e_i64_i64_u8_i64 x8 [(x1,x2,x3,x4)])⟩,⟨(eqN_self x8.length)⟩,⟨(len_map e_i64_i64_u8_i64 x8)⟩,⟨c9⟩,⟨(by simp only[wl,List.length_map,List.map_nil,List.map_cons]<;>omega:x8.length+(List.map e_i64_i64_u8_i64 [(x1,x2,x3,x4)]).length=(x8++[(x1,x2,x3,x4)]).length)⟩,⟨(part_all e_i64_i64_u8_i64 (l:=[(x1,x2,x3,x4)]) (n:=1) rfl)⟩,⟨(le_map e_i64_i64_u8_i64 (Nat.le_refl 1):0+1≤(List.map e_i64_i64_u8_i64 [(x1,x2,x3,x4)]).length)⟩,⟨(nF c8)⟩,⟨(ok_site_Site_step_4 k x9.1 x9.2.1 x9.2.2.1 x9.2.2.2 x1 x2 x3 x4 x5 x6 x7 x8 _ e7)⟩,⟨c6⟩,⟨(look_some .i64 (fun y=>AV.agg (e_i64_Lu8i64E_b_i64 y)) e5)⟩,⟨(nF c3)⟩,⟨c2⟩,⟨c2⟩,⟨c2⟩,⟨c2⟩,⟨c1⟩,⟨c1⟩,⟨c1⟩,⟨c1⟩,⟨c0⟩,⟨c0⟩,⟨c0⟩,⟨c0⟩,⟨(nF (nT rfl))⟩,⟨(ok_site_Site_good_4 x5 x6 x7 x8)⟩] (by kernel_rfl)
       rw[if_neg c9] at h;replace c9:=eqf c9
       cases h
     rw[if_neg c8] at h;replace c8:=eqf c8
     obtain rfl:=osi h
     exact Tri.of (x:=(X14_4 x5 x6 x7 x8)) mixed facts14 [(A14_4_0 x5 x6 x7 x8),df,df,df,df,df,df,df,df,df,df,df,df,df,df,(A14_4_2 x9),df,(A14_4_3 x8 x10),dt,A14_4_1] [⟨(nT c8)⟩,⟨(ok_site_Site_step_4 k x9.1 x9.2.1 x9.2.2.1 x9.2.2.2 x1 x2 x3 x4 x5 x6 x7 x8 _ e7)⟩,⟨c6⟩,⟨(look_some .i64 (fun y=>AV.agg (e_i64_Lu8i64E_b_i64 y)) e5)⟩,⟨(nF c3)⟩,⟨c2⟩,⟨c2⟩,⟨c2⟩,⟨c2⟩,⟨c1⟩,⟨c1⟩,⟨c1⟩,⟨c1⟩,⟨c0⟩,⟨c0⟩,⟨c0⟩,⟨c0⟩,⟨(nF (nT rfl))⟩,⟨(ok_site_Site_good_4 x5 x6 x7 x8)⟩] (by kernel_rfl)
   rw[if_neg c4] at h;replace c4:=eqf c4
   by_cases c5:eqB false (eqI x1 1)=true
   · rw[if_pos c5] at h
     obtain rfl:=osi h
     exact Tri.of (x:=(X14_4 x5 x6 x7 x8)) mixed facts14 [(A14_4_0 x5 x6 x7 x8),df,df,df,df,df,df,df,df,df,df,df,df,df,df,.opt none,dt,df,A14_4_1] [⟨rF⟩,⟨c5⟩,⟨(look_none .i64 (fun y=>AV.agg (e_i64_Lu8i64E_b_i64 y)) c4)⟩,⟨(nF c3)⟩,⟨c2⟩,⟨c2⟩,⟨c2⟩,⟨c2⟩,⟨c1⟩,⟨c1⟩,⟨c1⟩,⟨c1⟩,⟨c0⟩,⟨c0⟩,⟨c0⟩,⟨c0⟩,⟨(nF (nT rfl))⟩,⟨(ok_site_Site_good_4 x5 x6 x7 x8)⟩] (by kernel_rfl)
   rw[if_neg c5] at h;replace c5:=eqf c5
   obtain⟨x9,e6,h⟩:=bsm h
   by_cases c7:eqI x9.2.1 0=true
   · rw[if_pos c7] at h
     by_cases c8:roomI (((x8++[(x1,x2,x3,x4)]).length)*32)=true
     · rw[if_pos c8] at h
       obtain rfl:=osi h
       exact Tri.of (x:=(X14_4 x5 x6 x7 x8)) mixed facts14 [(A14_4_0 x5 x6 x7 x8),df,df,df,df,df,df,df,df,df,df,df,df,df,df,.opt none,df,(A14_4_4 x8 x9),df,.rows (List.map e_i64_i64_u8_i64 [(x1,x2,x3,x4)]),.n ((x8++[(x1,x2,x3,x4)]).length),.n x8.length,dt,.rows (List.map e_i64_i64_u8_i64 (x8++[(x1,x2,x3,x4)])),A14_4_1] [⟨(app_map e_i64_i64_u8_i64 x8 [(x1,x2,x3,x4)])⟩,⟨(eqN_self x8.length)⟩,⟨(len_map e_i64_i64_u8_i64 x8)⟩,⟨c8⟩,⟨(by simp only[wl,List.length_map,List.map_nil,List.map_cons]<;>omega:x8.length+(List.map e_i64_i64_u8_i64 [(x1,x2,x3,x4)]).length=(x8++[(x1,x2,x3,x4)]).length)⟩,⟨(part_all e_i64_i64_u8_i64 (l:=[(x1,x2,x3,x4)]) (n:=1) rfl)⟩,⟨(le_map e_i64_i64_u8_i64 (Nat.le_refl 1):0+1≤(List.map e_i64_i64_u8_i64 [(x1,x2,x3,x4)]).length)⟩,⟨(nF c7)⟩,⟨(ok_site_Site_step_4 k 0 [] false 0 x1 x2 x3 x4 x5 x6 x7 x8 _ e6)⟩,⟨c5⟩,⟨(look_none .i64 (fun y=>AV.agg (e_i64_Lu8i64E_b_i64 y)) c4)⟩,⟨(nF c3)⟩,⟨c2⟩,⟨c2⟩,⟨c2⟩,⟨c2⟩,⟨c1⟩,⟨c1⟩,⟨c1⟩,⟨c1⟩,⟨c0⟩,⟨c0⟩,⟨c0⟩,⟨c0⟩,⟨(nF (nT rfl))⟩,⟨(ok_site_Site_good_4 x5 x6 x7 x8)⟩] (by kernel_rfl)
     rw[if_neg c8] at h;replace c8:=eqf c8
     cases h
   rw[if_neg c7] at h;replace c7:=eqf c7
   obtain rfl:=osi h
   exact Tri.of (x:=(X14_4 x5 x6 x7 x8)) mixed facts14 [(A14_4_0 x5 x6 x7 x8),df,df,df,df,df,df,df,df,df,df,df,df,df,df,.opt none,df,(A14_4_4 x8 x9),dt,A14_4_1] [⟨(nT c7)⟩,⟨(ok_site_Site_step_4 k 0 [] false 0 x1 x2 x3 x4 x5 x6 x7 x8 _ e6)⟩,⟨c5⟩,⟨(look_none .i64 (fun y=>AV.agg (e_i64_Lu8i64E_b_i64 y)) c4)⟩,⟨(nF c3)⟩,⟨c2⟩,⟨c2⟩,⟨c2⟩,⟨c2⟩,⟨c1⟩,⟨c1⟩,⟨c1⟩,⟨c1⟩,⟨c0⟩,⟨c0⟩,⟨c0⟩,⟨c0⟩,⟨(nF (nT rfl))⟩,⟨(ok_site_Site_good_4 x5 x6 x7 x8)⟩] (by kernel_rfl)
 rw[if_neg c3] at h;replace c3:=eqf c3
 obtain rfl:=osi h
 exact Tri.of (x:=(X14_4 x5 x6 x7 x8)) mixed facts14 [(A14_4_0 x5 x6 x7 x8),df,df,df,df,df,df,df,df,df,df,df,df,df,dt,A14_4_1] [⟨(nT c3)⟩,⟨c2⟩,⟨c2⟩,⟨c2⟩,⟨c2⟩,⟨c1⟩,⟨c1⟩,⟨c1⟩,⟨c1⟩,⟨c0⟩,⟨c0⟩,⟨c0⟩,⟨c0⟩,⟨(nF (nT rfl))⟩,⟨(ok_site_Site_good_4 x5 x6 x7 x8)⟩] (by kernel_rfl)
end Go.Ws

namespace Go.Ws
open Go.Proofs
set_option linter.unusedSimpArgs false
set_option linter.unusedVariables false
set_option maxRecDepth 1000000
set_option maxHeartbeats 4000000
noncomputable def X26_5 (x1:Ty16) (x2:Ty12) (x3:Ty6) (x4:Ty11):Ctx:=⟨Try.f26,[(.row [(.sl 2 (List.map e_u8_i64 x1)),(.sl 3 (List.map e_u8_i64_b x2)),(.mp 1),(.ref 4 2 2 0 x4.length .virt)]),(.map (encM .i64 (fun y=>AV.agg (e_i64_Lu8i64E_b_i64 y)) x3) x3.length),(.arr 4 (List.map e_i64_i64_u8_i64 x4) 2 2 true)],false⟩
theorem ok_site_Site_good_5 (x1:Ty16) (x2:Ty12) (x3:Ty6) (x4:Ty11):Tri Try.prog 26 [(.hp 0 0)] [(.row [(.sl 2 (List.map e_u8_i64 x1)),(.sl 3 (List.map e_u8_i64_b x2)),(.mp 1),(.ref 4 2 2 0 x4.length .virt)]),(.map (encM .i64 (fun y=>AV.agg (e_i64_Lu8i64E_b_i64 y)) x3) x3.length),(.arr 4 (List.map e_i64_i64_u8_i64 x4) 2 2 true)] (.bool (!false)) [(.row [(.sl 2 (List.map e_u8_i64 x1)),(.sl 3 (List.map e_u8_i64_b x2)),(.mp 1),(.ref 4 2 2 0 x4.length .virt)]),(.map (encM .i64 (fun y=>AV.agg (e_i64_Lu8i64E_b_i64 y)) x3) x3.length),(.arr 4 (List.map e_i64_i64_u8_i64 x4) 2 2 true)]:=by
 obtain⟨r,h⟩:∃r,site_Site_good_5 x1 x2 x3 x4=r:=⟨_,rfl⟩
 try rw[h]
 unfold site_Site_good_5 at h
 obtain rfl:=h
 exact Tri.of (x:=(X26_5 x1 x2 x3 x4)) mixed facts26 [dt,dt,dt,dt,dt,dt,.norm 0 ⟨[(2,[])],[],false,[],[]⟩] [⟨(nT rfl)⟩,⟨(nT rfl)⟩,⟨(nT rfl)⟩,⟨(nT rfl)⟩,⟨(nT rfl)⟩,⟨(nT rfl)⟩] (by kernel_rfl)
end Go.Ws

namespace Go.Ws
open Go.Proofs
set_option linter.unusedSimpArgs false
set_option linter.unusedVariables false
set_option maxRecDepth 1000000
set_option maxHeartbeats 4000000
noncomputable def X37_5 (x9:Ty16) (x10:Ty12) (x11:Ty6) (x12:Ty11):Ctx:=⟨Try.f37,[(.row [(.sl 2 (List.map e_u8_i64 x9)),(.sl 3 (List.map e_u8_i64_b x10)),(.mp 1),(.ref 4 2 2 0 x12.length .virt)]),(.map (encM .i64 (fun y=>AV.agg (e_i64_Lu8i64E_b_i64 y)) x11) x11.length),(.arr 4 (List.map e_i64_i64_u8_i64 x12) 2 2 true)],false⟩
noncomputable def L37_5_0:Code:=at_ Try.f37 [1,1,1,1,1,1,1,0,1,4,5]
def S37_5_0 (x2:Ty16) (x5:Int) (x6:Int) (x7:Int) (x8:Int) (x9:Ty16) (x11:Ty6) (x12:Ty11) (x13:Ty12 × Int) (v537001_1:Int) (v537001_2:Int):St:=⟨mkT 92 [(5,(.hp 3 0)),(10,(.int .i64 v537001_1)),(75,(.sl 2 (List.map e_u8_i64 x2))),(76,(.int .i64 (nI x2.length))),(77,(.int .i64 v537001_2))],[(.row [(.sl 2 (List.map e_u8_i64 x9)),(.sl 3 (List.map e_u8_i64_b x13.1)),(.mp 1),(.ref 4 2 2 0 x12.length .virt)]),(.map (encM .i64 (fun y=>AV.agg (e_i64_Lu8i64E_b_i64 y)) x11) x11.length),(.arr 4 (List.map e_i64_i64_u8_i64 x12) 2 2 true),(.row [(.int .i64 x5),(.int .i64 x6),(.int .u8 x7),(.int .i64 x8)])]⟩
def E37_5_0_0 (x9:Ty16) (x11:Ty6) (x12:Ty11) (x13:Ty12 × Int) (v537002_1:Int):St:=⟨mkT 92 [(10,(.int .i64 v537002_1))],[(.row [(.sl 2 (List.map e_u8_i64 x9)),(.sl 3 (List.map e_u8_i64_b x13.1)),(.mp 1),(.ref 4 2 2 0 x12.length .virt)]),(.map (encM .i64 (fun y=>AV.agg (e_i64_Lu8i64E_b_i64 y)) x11) x11.length),(.arr 4 (List.map e_i64_i64_u8_i64 x12) 2 2 true)]⟩
def O37_5_0 (x2:Ty16) (x5:Int) (x6:Int) (x7:Int) (x8:Int) (x9:Ty16) (x10:Ty12) (x11:Ty6) (x12:Ty11) (x13:Ty12 × Int) (y:(Int)):GX:=.st (.exit 0) (E37_5_0_0 x9 x11 x12 x13 y)
def A37_5_0 (x13:Ty12 × Int):Ans:=.call ⟨true,[]⟩ (.tup [(.sl 3 (List.map e_u8_i64_b x13.1)),(.int .i64 x13.2)]) []
def A37_5_1 (x14:Int × Ty16 × Bool × Int × Int):Ans:=.call ⟨true,[]⟩ (.tup [(.agg [(.int .i64 x14.1),(.sl 2 (List.map e_u8_i64 x14.2.1)),(.bool x14.2.2.1),(.int .i64 x14.2.2.2.1)]),(.int .i64 x14.2.2.2.2)]) []
def A37_5_2:Ans:=.norm 0 ⟨[(6,[]),(7,[])],[],false,[],[]⟩
theorem ok_site_Site_access_5_l0 (x2:Ty16) (x5:Int) (x6:Int) (x7:Int) (x8:Int) (x9:Ty16) (x10:Ty12) (x11:Ty6) (x12:Ty11) (x13:Ty12 × Int) (y:(Int)):∀(k:Nat) (v537001_1:Int) (v537001_2:Int),site_Site_access_5_l0 k x2 x5 x6 x7 x8 x9 x10 x11 x12 x13 v537001_1 v537001_2=some y→LT Try.prog (X37_5 x9 x10 x11 x12) L37_5_0 (S37_5_0 x2 x5 x6 x7 x8 x9 x11 x12 x13 v537001_1 v537001_2) (O37_5_0 x2 x5 x6 x7 x8 x9 x10 x11 x12 x13 y)
 | 0,v537001_1,v537001_2,h=>by cases h
 | k+1,v537001_1,v537001_2,h=>by
  rw[site_Site_access_5_l0] at h
  by_cases cL0:ltI v537001_2 (nI x2.length)=true
  · rw[if_pos cL0] at h
    by_cases cL1:inI v537001_2 x2.length=true
    · rw[if_pos cL1] at h
      obtain⟨v537000_1,eL2,h⟩:=bsm h
      by_cases cL3:eqI v537000_1.1 x7=true
      · rw[if_pos cL3] at h
        exact LT.next mixed (hs:=⟨[(5,[]),(10,[]),(75,[]),(76,[]),(77,[])],[⟨.tmp 5,[],none⟩],false,[],[]⟩) (es:=none) [dt,.n x2.length,.row [(.int .u8 v537000_1.1),(.int .i64 v537000_1.2)],dt] [⟨cL3⟩,⟨(cells_map (e:=e_u8_i64) eL2 2 0 2 (by decide))⟩,⟨cL1⟩,⟨(len_map e_u8_i64 x2)⟩,⟨cL0⟩] (by kernel_rfl) (ok_site_Site_access_5_l0 x2 x5 x6 x7 x8 x9 x10 x11 x12 x13 y k (iadd .i64 v537001_1 v537000_1.2) (iadd .i64 v537001_2 1) h)
      rw[if_neg cL3] at h;replace cL3:=eqf cL3
      exact LT.next mixed (hs:=⟨[(5,[]),(10,[]),(75,[]),(76,[]),(77,[])],[⟨.tmp 5,[],none⟩],false,[],[]⟩) (es:=none) [dt,.n x2.length,.row [(.int .u8 v537000_1.1),(.int .i64 v537000_1.2)],df] [⟨cL3⟩,⟨(cells_map (e:=e_u8_i64) eL2 2 0 2 (by decide))⟩,⟨cL1⟩,⟨(len_map e_u8_i64 x2)⟩,⟨cL0⟩] (by kernel_rfl) (ok_site_Site_access_5_l0 x2 x5 x6 x7 x8 x9 x10 x11 x12 x13 y k v537001_1 (iadd .i64 v537001_2 1) h)
    rw[if_neg cL1] at h;replace cL1:=eqf cL1
    cases h
  rw[if_neg cL0] at h;replace cL0:=eqf cL0
  obtain rfl:=osi h
  show LT _ _ _ _ (.st (.exit 0) (E37_5_0_0 x9 x11 x12 x13 v537001_1))
  exact LT.done mixed (hs:=⟨[],[],false,[],[]⟩) (es:=(some ⟨[(10,[])],[],false,[],[]⟩)) [df] [⟨cL0⟩] (by kernel_rfl) (fun s h=>by cases h)
theorem ok_site_Site_access_5 (k:Nat) (x1:Int) (x2:Ty16) (x3:Bool) (x4:Int) (x5:Int) (x6:Int) (x7:Int) (x8:Int) (x9:Ty16) (x10:Ty12) (x11:Ty6) (x12:Ty11) (r:Ty12 × Ty6 × Int × Int) (h:site_Site_access_5 k x1 x2 x3 x4 x5 x6 x7 x8 x9 x10 x11 x12=some r):Tri Try.prog 37 [(.hp 0 0),(.agg [(.int .i64 x1),(.sl 2 (List.map e_u8_i64 x2)),(.bool x3),(.int .i64 x4)]),(.agg [(.int .i64 x5),(.int .i64 x6),(.int .u8 x7),(.int .i64 x8)])] [(.row [(.sl 2 (List.map e_u8_i64 x9)),(.sl 3 (List.map e_u8_i64_b x10)),(.mp 1),(.ref 4 2 2 0 x12.length .virt)]),(.map (encM .i64 (fun y=>AV.agg (e_i64_Lu8i64E_b_i64 y)) x11) x11.length),(.arr 4 (List.map e_i64_i64_u8_i64 x12) 2 2 true)] (.tup [(.int .i64 r.2.2.2),(.int .i64 r.2.2.1)]) [(.row [(.sl 2 (List.map e_u8_i64 x9)),(.sl 3 (List.map e_u8_i64_b r.1)),(.mp 1),(.ref 4 2 2 0 x12.length .virt)]),(.map (encM .i64 (fun y=>AV.agg (e_i64_Lu8i64E_b_i64 y)) r.2.1) r.2.1.length),(.arr 4 (List.map e_i64_i64_u8_i64 x12) 2 2 true)]:=by
 unfold site_Site_access_5 at h
 by_cases c0:eqI x1 0=true
 · rw[if_pos c0] at h
   obtain⟨x13,e1,h⟩:=bsm h
   by_cases c2:eqI x13.2 0=true
   · rw[if_pos c2] at h
     by_cases c3:eqI x5 3=true
     · rw[if_pos c3] at h
       obtain⟨x14,e4,h⟩:=bsm h
       by_cases c5:eqI x14.2.2.2.2 0=true
       · rw[if_pos c5] at h
         by_cases c6:mHas x11 x6=true
         · rw[if_pos c6] at h
           obtain⟨x15,e7,h⟩:=bsm h
           obtain rfl:=osi h
           exact Tri.of (x:=(X37_5 x9 x10 x11 x12)) mixed facts37 [df,(A37_5_0 x13),df,dt,(A37_5_1 x14),df,.opt (some (.agg [(.int .i64 x15.1),(.sl 2 (List.map e_u8_i64 x15.2.1)),(.bool x15.2.2.1),(.int .i64 x15.2.2.2)])),.n (mIx x11 x6),.ents (encM .i64 (fun y=>AV.agg (e_i64_Lu8i64E_b_i64 y)) x11) x11.length,.ents (encM .i64 (fun y=>AV.agg (e_i64_Lu8i64E_b_i64 y)) (mPut x11 x6 (x14.1,x14.2.1,x14.2.2.1,x14.2.2.2.1))) (mPut x11 x6 (x14.1,x14.2.1,x14.2.2.1,x14.2.2.2.1)).length,A37_5_2] [⟨(sb_some .i64 (fun y=>AV.agg (e_i64_Lu8i64E_b_i64 y)) e7 (x14.1,x14.2.1,x14.2.2.1,x14.2.2.2.1))⟩,⟨(ent_some .i64 (fun y=>AV.agg (e_i64_Lu8i64E_b_i64 y)) e7 (.agg [(.int .i64 0),(.sl 2 (List.map e_u8_i64 [])),(.bool false),(.int .i64 0)]))⟩,⟨(idx_enc .i64 (fun y=>AV.agg (e_i64_Lu8i64E_b_i64 y)) x11 x6)⟩,⟨(look_some .i64 (fun y=>AV.agg (e_i64_Lu8i64E_b_i64 y)) e7)⟩,⟨(nF c5)⟩,⟨(ok_part_Add k x1 x2 x3 x4 x7 x8 _ e4)⟩,⟨c3⟩,⟨(nF c2)⟩,⟨(ok_lock_Take k x10 x6 x7 (eqI x5 3) _ e1)⟩,⟨(nF c0)⟩] (by kernel_rfl)
         rw[if_neg c6] at h;replace c6:=eqf c6
         obtain rfl:=osi h
         exact Tri.of (x:=(X37_5 x9 x10 x11 x12)) mixed facts37 [df,(A37_5_0 x13),df,dt,(A37_5_1 x14),df,.opt none,.n (mIx x11 x6),.ents (encM .i64 (fun y=>AV.agg (e_i64_Lu8i64E_b_i64 y)) (mPut x11 x6 (0,[],false,0))) (mPut x11 x6 (0,[],false,0)).length,.ents (encM .i64 (fun y=>AV.agg (e_i64_Lu8i64E_b_i64 y)) (mPut x11 x6 (x14.1,x14.2.1,x14.2.2.1,x14.2.2.2.1))) (mPut x11 x6 (x14.1,x14.2.1,x14.2.2.1,x14.2.2.2.1)).length,A37_5_2] [⟨(sb_none .i64 (fun y=>AV.agg (e_i64_Lu8i64E_b_i64 y)) (l:=x11) (q:=x6) (0,[],false,0) (x14.1,x14.2.1,x14.2.2.1,x14.2.2.2.1))⟩,⟨(ent_none .i64 (fun y=>AV.agg (e_i64_Lu8i64E_b_i64 y)) c6 (0,[],false,0))⟩,⟨(idx_enc .i64 (fun y=>AV.agg (e_i64_Lu8i64E_b_i64 y)) x11 x6)⟩,⟨(look_none .i64 (fun y=>AV.agg (e_i64_Lu8i64E_b_i64 y)) c6)⟩,⟨(nF c5)⟩,⟨(ok_part_Add k x1 x2 x3 x4 x7 x8 _ e4)⟩,⟨c3⟩,⟨(nF c2)⟩,⟨(ok_lock_Take k x10 x6 x7 (eqI x5 3) _ e1)⟩,⟨(nF c0)⟩] (by kernel_rfl)
       rw[if_neg c5] at h;replace c5:=eqf c5
       obtain rfl:=osi h
       exact Tri.of (x:=(X37_5 x9 x10 x11 x12)) mixed facts37 [df,(A37_5_0 x13),df,dt,(A37_5_1 x14),dt,A37_5_2] [⟨(nT c5)⟩,⟨(ok_part_Add k x1 x2 x3 x4 x7 x8 _ e4)⟩,⟨c3⟩,⟨(nF c2)⟩,⟨(ok_lock_Take k x10 x6 x7 (eqI x5 3) _ e1)⟩,⟨(nF c0)⟩] (by kernel_rfl)
     rw[if_neg c3] at h;replace c3:=eqf c3
     obtain⟨x14,e4,h⟩:=bsm h
     obtain⟨x16,e5,h⟩:=bsm h
     obtain rfl:=osi h
     exact Tri.of (x:=(X37_5 x9 x10 x11 x12)) mixed facts37 [df,(A37_5_0 x13),df,df,.call ⟨true,[]⟩ (.int .i64 x14) [],.n x2.length,.norm 2 ⟨[(5,[]),(10,[]),(75,[]),(76,[]),(77,[])],[⟨.tmp 5,[],none⟩],false,[],[]⟩,.out (.st .normal (E37_5_0_0 x9 x11 x12 x13 x16)),A37_5_2] [⟨(LT.block (ok_site_Site_access_5_l0 x2 x5 x6 x7 x8 x9 x10 x11 x12 x13 _ k x14 0 e5))⟩,⟨(len_map e_u8_i64 x2)⟩,⟨(ok_ledger_Get k x9 x7 _ e4)⟩,⟨c3⟩,⟨(nF c2)⟩,⟨(ok_lock_Take k x10 x6 x7 (eqI x5 3) _ e1)⟩,⟨(nF c0)⟩] (by kernel_rfl)
   rw[if_neg c2] at h;replace c2:=eqf c2
   obtain rfl:=osi h
   exact Tri.of (x:=(X37_5 x9 x10 x11 x12)) mixed facts37 [df,(A37_5_0 x13),dt,A37_5_2] [⟨(nT c2)⟩,⟨(ok_lock_Take k x10 x6 x7 (eqI x5 3) _ e1)⟩,⟨(nF c0)⟩] (by kernel_rfl)
 rw[if_neg c0] at h;replace c0:=eqf c0
 obtain rfl:=osi h
 exact Tri.of (x:=(X37_5 x9 x10 x11 x12)) mixed facts37 [dt,A37_5_2] [⟨(nT c0)⟩] (by kernel_rfl)
end Go.Ws

namespace Go.Ws
open Go.Proofs
set_option linter.unusedSimpArgs false
set_option linter.unusedVariables false
set_option maxRecDepth 1000000
set_option maxHeartbeats 4000000
noncomputable def X38_5 (x9:Ty16) (x10:Ty12) (x11:Ty6) (x12:Ty11):Ctx:=⟨Try.f38,[(.row [(.sl 2 (List.map e_u8_i64 x9)),(.sl 3 (List.map e_u8_i64_b x10)),(.mp 1),(.ref 4 2 2 0 x12.length .virt)]),(.map (encM .i64 (fun y=>AV.agg (e_i64_Lu8i64E_b_i64 y)) x11) x11.length),(.arr 4 (List.map e_i64_i64_u8_i64 x12) 2 2 true)],false⟩
def A38_5_0 (x13:Int × Ty16 × Bool × Int × Int):Ans:=.call ⟨true,[]⟩ (.tup [(.agg [(.int .i64 x13.1),(.sl 2 (List.map e_u8_i64 x13.2.1)),(.bool x13.2.2.1),(.int .i64 x13.2.2.2.1)]),(.int .i64 x13.2.2.2.2)]) []
def A38_5_1 (x15:Ty12):Ans:=.call ⟨true,[]⟩ (.sl 3 (List.map e_u8_i64_b x15)) []
def A38_5_2 (x13:Int × Ty16 × Bool × Int × Ty16 × Int):Ans:=.call ⟨true,[]⟩ (.tup [(.agg [(.int .i64 x13.1),(.sl 2 (List.map e_u8_i64 x13.2.1)),(.bool x13.2.2.1),(.int .i64 x13.2.2.2.1)]),(.sl 2 (List.map e_u8_i64 x13.2.2.2.2.1)),(.int .i64 x13.2.2.2.2.2)]) []
def A38_5_3 (x6:Int) (x11:Ty6) (x13:Int × Ty16 × Bool × Int × Ty16 × Int):Ans:=.ents (encM .i64 (fun y=>AV.agg (e_i64_Lu8i64E_b_i64 y)) (mPut x11 x6 (x13.1,x13.2.1,x13.2.2.1,x13.2.2.2.1))) (mPut x11 x6 (x13.1,x13.2.1,x13.2.2.1,x13.2.2.2.1)).length
def A38_5_4 (x14:Ty16 × Int):Ans:=.call ⟨true,[]⟩ (.tup [(.sl 2 (List.map e_u8_i64 x14.1)),(.int .i64 x14.2)]) []
theorem ok_site_Site_end_5 (k:Nat) (x1:Int) (x2:Ty16) (x3:Bool) (x4:Int) (x5:Int) (x6:Int) (x7:Int) (x8:Int) (x9:Ty16) (x10:Ty12) (x11:Ty6) (x12:Ty11) (r:Ty16 × Ty12 × Ty6 × Int) (h:site_Site_end_5 k x1 x2 x3 x4 x5 x6 x7 x8 x9 x10 x11 x12=some r):Tri Try.prog 38 [(.hp 0 0),(.agg [(.int .i64 x1),(.sl 2 (List.map e_u8_i64 x2)),(.bool x3),(.int .i64 x4)]),(.agg [(.int .i64 x5),(.int .i64 x6),(.int .u8 x7),(.int .i64 x8)])] [(.row [(.sl 2 (List.map e_u8_i64 x9)),(.sl 3 (List.map e_u8_i64_b x10)),(.mp 1),(.ref 4 2 2 0 x12.length .virt)]),(.map (encM .i64 (fun y=>AV.agg (e_i64_Lu8i64E_b_i64 y)) x11) x11.length),(.arr 4 (List.map e_i64_i64_u8_i64 x12) 2 2 true)] (.int .i64 r.2.2.2) [(.row [(.sl 2 (List.map e_u8_i64 r.1)),(.sl 3 (List.map e_u8_i64_b r.2.1)),(.mp 1),(.ref 4 2 2 0 x12.length .virt)]),(.map (encM .i64 (fun y=>AV.agg (e_i64_Lu8i64E_b_i64 y)) r.2.2.1) r.2.2.1.length),(.arr 4 (List.map e_i64_i64_u8_i64 x12) 2 2 true)]:=by
 unfold site_Site_end_5 at h
 by_cases c0:eqI x5 4=true
 · rw[if_pos c0] at h
   obtain⟨x13,e1,h⟩:=bsm h
   by_cases c2:eqI x13.2.2.2.2 0=true
   · rw[if_pos c2] at h
     obtain⟨x14,e3,h⟩:=bsm h
     by_cases c4:eqI x13.1 2=true
     · rw[if_pos c4] at h
       obtain⟨x15,e5,h⟩:=bsm h
       obtain rfl:=osi h
       exact Tri.of (x:=(X38_5 x9 x10 x11 x12)) mixed facts38 [dt,(A38_5_0 x13),df,.ents (encM .i64 (fun y=>AV.agg (e_i64_Lu8i64E_b_i64 y)) (mPut x11 x6 (x13.1,x13.2.1,x13.2.2.1,x13.2.2.2.1))) (mPut x11 x6 (x13.1,x13.2.1,x13.2.2.1,x13.2.2.2.1)).length,.call ⟨true,[[],[(0,2)]]⟩ (.tup [(.sl 2 (List.map e_u8_i64 x14.1)),(.int .i64 x14.2)]) [],df,df,df,df,dt,(A38_5_1 x15),.norm 0 ⟨[(6,[])],[],false,[],[]⟩] [⟨(ok_lock_Free k x10 x6 _ e5)⟩,⟨c4⟩,⟨(nF c0)⟩,⟨(nF c0)⟩,⟨(nF c0)⟩,⟨(nF c0)⟩,⟨(ok_ledger_Put k x9 [] _ e3)⟩,⟨(put_enc .i64 (fun y=>AV.agg (e_i64_Lu8i64E_b_i64 y)) x11 x6 (x13.1,x13.2.1,x13.2.2.1,x13.2.2.2.1))⟩,⟨(nF c2)⟩,⟨(ok_part_Vote k x1 x2 x3 x4 (!eqI x8 0) _ e1)⟩,⟨c0⟩] (by kernel_rfl)
     rw[if_neg c4] at h;replace c4:=eqf c4
     obtain rfl:=osi h
     exact Tri.of (x:=(X38_5 x9 x10 x11 x12)) mixed facts38 [dt,(A38_5_0 x13),df,.ents (encM .i64 (fun y=>AV.agg (e_i64_Lu8i64E_b_i64 y)) (mPut x11 x6 (x13.1,x13.2.1,x13.2.2.1,x13.2.2.2.1))) (mPut x11 x6 (x13.1,x13.2.1,x13.2.2.1,x13.2.2.2.1)).length,.call ⟨true,[[],[(0,2)]]⟩ (.tup [(.sl 2 (List.map e_u8_i64 x14.1)),(.int .i64 x14.2)]) [],df,df,df,df,df,.norm 0 ⟨[(6,[])],[],false,[],[]⟩] [⟨c4⟩,⟨(nF c0)⟩,⟨(nF c0)⟩,⟨(nF c0)⟩,⟨(nF c0)⟩,⟨(ok_ledger_Put k x9 [] _ e3)⟩,⟨(put_enc .i64 (fun y=>AV.agg (e_i64_Lu8i64E_b_i64 y)) x11 x6 (x13.1,x13.2.1,x13.2.2.1,x13.2.2.2.1))⟩,⟨(nF c2)⟩,⟨(ok_part_Vote k x1 x2 x3 x4 (!eqI x8 0) _ e1)⟩,⟨c0⟩] (by kernel_rfl)
   rw[if_neg c2] at h;replace c2:=eqf c2
   obtain rfl:=osi h
   exact Tri.of (x:=(X38_5 x9 x10 x11 x12)) mixed facts38 [dt,(A38_5_0 x13),dt,.norm 0 ⟨[(6,[])],[],false,[],[]⟩] [⟨(nT c2)⟩,⟨(ok_part_Vote k x1 x2 x3 x4 (!eqI x8 0) _ e1)⟩,⟨c0⟩] (by kernel_rfl)
 rw[if_neg c0] at h;replace c0:=eqf c0
 by_cases c1:eqI x5 5=true
 · rw[if_pos c1] at h
   obtain⟨x13,e2,h⟩:=bsm h
   by_cases c3:eqI x13.2.2.2.2.2 0=true
   · rw[if_pos c3] at h
     obtain⟨x14,e4,h⟩:=bsm h
     obtain⟨x15,e5,h⟩:=bsm h
     obtain rfl:=osi h
     exact Tri.of (x:=(X38_5 x9 x10 x11 x12)) mixed facts38 [df,dt,(A38_5_2 x13),df,(A38_5_3 x6 x11 x13),(A38_5_4 x14),dt,dt,dt,dt,dt,(A38_5_1 x15),.norm 0 ⟨[(6,[])],[],false,[],[]⟩] [⟨(ok_lock_Free k x10 x6 _ e5)⟩,⟨rT⟩,⟨(nT c0)⟩,⟨(nT c0)⟩,⟨(nT c0)⟩,⟨(nT c0)⟩,⟨(ok_ledger_Put k x9 x13.2.2.2.2.1 _ e4)⟩,⟨(put_enc .i64 (fun y=>AV.agg (e_i64_Lu8i64E_b_i64 y)) x11 x6 (x13.1,x13.2.1,x13.2.2.1,x13.2.2.2.1))⟩,⟨(nF c3)⟩,⟨(ok_part_Local k x1 x2 x3 x4 _ e2)⟩,⟨c1⟩,⟨c0⟩] (by kernel_rfl)
   rw[if_neg c3] at h;replace c3:=eqf c3
   obtain rfl:=osi h
   exact Tri.of (x:=(X38_5 x9 x10 x11 x12)) mixed facts38 [df,dt,(A38_5_2 x13),dt,.norm 0 ⟨[(6,[])],[],false,[],[]⟩] [⟨(nT c3)⟩,⟨(ok_part_Local k x1 x2 x3 x4 _ e2)⟩,⟨c1⟩,⟨c0⟩] (by kernel_rfl)
 rw[if_neg c1] at h;replace c1:=eqf c1
 by_cases c2:eqI x8 1=true
 · rw[if_pos c2] at h
   obtain⟨x13,e3,h⟩:=bsm h
   by_cases c4:eqI x13.2.2.2.2.2 0=true
   · rw[if_pos c4] at h
     obtain⟨x14,e5,h⟩:=bsm h
     obtain⟨x15,e6,h⟩:=bsm h
     obtain rfl:=osi h
     exact Tri.of (x:=(X38_5 x9 x10 x11 x12)) mixed facts38 [df,df,dt,dt,dt,dt,dt,(A38_5_2 x13),df,(A38_5_3 x6 x11 x13),(A38_5_4 x14),dt,dt,dt,dt,dt,(A38_5_1 x15),.norm 0 ⟨[(6,[])],[],false,[],[]⟩] [⟨(ok_lock_Free k x10 x6 _ e6)⟩,⟨rT⟩,⟨(nT c0)⟩,⟨(nT c0)⟩,⟨(nT c0)⟩,⟨(nT c0)⟩,⟨(ok_ledger_Put k x9 x13.2.2.2.2.1 _ e5)⟩,⟨(put_enc .i64 (fun y=>AV.agg (e_i64_Lu8i64E_b_i64 y)) x11 x6 (x13.1,x13.2.1,x13.2.2.1,x13.2.2.2.1))⟩,⟨(nF c4)⟩,⟨(ok_part_Decide k x1 x2 x3 x4 x8 _ e3)⟩,⟨rT⟩,⟨c2⟩,⟨c2⟩,⟨c2⟩,⟨c2⟩,⟨c1⟩,⟨c0⟩] (by kernel_rfl)
   rw[if_neg c4] at h;replace c4:=eqf c4
   obtain rfl:=osi h
   exact Tri.of (x:=(X38_5 x9 x10 x11 x12)) mixed facts38 [df,df,dt,dt,dt,dt,dt,(A38_5_2 x13),dt,.norm 0 ⟨[(6,[])],[],false,[],[]⟩] [⟨(nT c4)⟩,⟨(ok_part_Decide k x1 x2 x3 x4 x8 _ e3)⟩,⟨rT⟩,⟨c2⟩,⟨c2⟩,⟨c2⟩,⟨c2⟩,⟨c1⟩,⟨c0⟩] (by kernel_rfl)
 rw[if_neg c2] at h;replace c2:=eqf c2
 by_cases c3:eqI x8 2=true
 · rw[if_pos c3] at h
   obtain⟨x13,e4,h⟩:=bsm h
   by_cases c5:eqI x13.2.2.2.2.2 0=true
   · rw[if_pos c5] at h
     obtain⟨x14,e6,h⟩:=bsm h
     obtain⟨x15,e7,h⟩:=bsm h
     obtain rfl:=osi h
     exact Tri.of (x:=(X38_5 x9 x10 x11 x12)) mixed facts38 [df,df,df,df,df,df,dt,(A38_5_2 x13),df,(A38_5_3 x6 x11 x13),(A38_5_4 x14),dt,dt,dt,dt,dt,(A38_5_1 x15),.norm 0 ⟨[(6,[])],[],false,[],[]⟩] [⟨(ok_lock_Free k x10 x6 _ e7)⟩,⟨rT⟩,⟨(nT c0)⟩,⟨(nT c0)⟩,⟨(nT c0)⟩,⟨(nT c0)⟩,⟨(ok_ledger_Put k x9 x13.2.2.2.2.1 _ e6)⟩,⟨(put_enc .i64 (fun y=>AV.agg (e_i64_Lu8i64E_b_i64 y)) x11 x6 (x13.1,x13.2.1,x13.2.2.1,x13.2.2.2.1))⟩,⟨(nF c5)⟩,⟨(ok_part_Decide k x1 x2 x3 x4 x8 _ e4)⟩,⟨c3⟩,⟨c2⟩,⟨c2⟩,⟨c2⟩,⟨c2⟩,⟨c1⟩,⟨c0⟩] (by kernel_rfl)
   rw[if_neg c5] at h;replace c5:=eqf c5
   obtain rfl:=osi h
   exact Tri.of (x:=(X38_5 x9 x10 x11 x12)) mixed facts38 [df,df,df,df,df,df,dt,(A38_5_2 x13),dt,.norm 0 ⟨[(6,[])],[],false,[],[]⟩] [⟨(nT c5)⟩,⟨(ok_part_Decide k x1 x2 x3 x4 x8 _ e4)⟩,⟨c3⟩,⟨c2⟩,⟨c2⟩,⟨c2⟩,⟨c2⟩,⟨c1⟩,⟨c0⟩] (by kernel_rfl)
 rw[if_neg c3] at h;replace c3:=eqf c3
 obtain rfl:=osi h
 exact Tri.of (x:=(X38_5 x9 x10 x11 x12)) mixed facts38 [df,df,df,df,df,df,df,dt,.norm 0 ⟨[(6,[])],[],false,[],[]⟩] [⟨(nT (rfl:eqI 2 0=false))⟩,⟨c3⟩,⟨c2⟩,⟨c2⟩,⟨c2⟩,⟨c2⟩,⟨c1⟩,⟨c0⟩] (by kernel_rfl)
end Go.Ws

namespace Go.Ws
open Go.Proofs
set_option linter.unusedSimpArgs false
set_option linter.unusedVariables false
set_option maxRecDepth 1000000
set_option maxHeartbeats 4000000
noncomputable def X27_5 (x9:Ty16) (x10:Ty12) (x11:Ty6) (x12:Ty11):Ctx:=⟨Try.f27,[(.row [(.sl 2 (List.map e_u8_i64 x9)),(.sl 3 (List.map e_u8_i64_b x10)),(.mp 1),(.ref 4 2 2 0 x12.length .virt)]),(.map (encM .i64 (fun y=>AV.agg (e_i64_Lu8i64E_b_i64 y)) x11) x11.length),(.arr 4 (List.map e_i64_i64_u8_i64 x12) 2 2 true)],false⟩
def A27_5_0:Ans:=.norm 0 ⟨[(6,[]),(7,[])],[],false,[],[]⟩
def A27_5_1 (x9:Ty16) (x12:Ty11) (x13:Ty12 × Ty6 × Int × Int):Ans:=.call ⟨true,[]⟩ (.tup [(.int .i64 x13.2.2.2),(.int .i64 x13.2.2.1)]) [(.row [(.sl 2 (List.map e_u8_i64 x9)),(.sl 3 (List.map e_u8_i64_b x13.1)),(.mp 1),(.ref 4 2 2 0 x12.length .virt)]),(.map (encM .i64 (fun y=>AV.agg (e_i64_Lu8i64E_b_i64 y)) x13.2.1) x13.2.1.length),(.arr 4 (List.map e_i64_i64_u8_i64 x12) 2 2 true)]
theorem ok_site_Site_step_5 (k:Nat) (x1:Int) (x2:Ty16) (x3:Bool) (x4:Int) (x5:Int) (x6:Int) (x7:Int) (x8:Int) (x9:Ty16) (x10:Ty12) (x11:Ty6) (x12:Ty11) (r:Int × Int × Ty12 × Ty6 × Ty16) (h:site_Site_step_5 k x1 x2 x3 x4 x5 x6 x7 x8 x9 x10 x11 x12=some r):Tri Try.prog 27 [(.hp 0 0),(.agg [(.int .i64 x1),(.sl 2 (List.map e_u8_i64 x2)),(.bool x3),(.int .i64 x4)]),(.agg [(.int .i64 x5),(.int .i64 x6),(.int .u8 x7),(.int .i64 x8)])] [(.row [(.sl 2 (List.map e_u8_i64 x9)),(.sl 3 (List.map e_u8_i64_b x10)),(.mp 1),(.ref 4 2 2 0 x12.length .virt)]),(.map (encM .i64 (fun y=>AV.agg (e_i64_Lu8i64E_b_i64 y)) x11) x11.length),(.arr 4 (List.map e_i64_i64_u8_i64 x12) 2 2 true)] (.tup [(.int .i64 r.1),(.int .i64 r.2.1)]) [(.row [(.sl 2 (List.map e_u8_i64 r.2.2.2.2)),(.sl 3 (List.map e_u8_i64_b r.2.2.1)),(.mp 1),(.ref 4 2 2 0 x12.length .virt)]),(.map (encM .i64 (fun y=>AV.agg (e_i64_Lu8i64E_b_i64 y)) r.2.2.2.1) r.2.2.2.1.length),(.arr 4 (List.map e_i64_i64_u8_i64 x12) 2 2 true)]:=by
 unfold site_Site_step_5 at h
 by_cases c0:eqI x5 1=true
 · rw[if_pos c0] at h
   obtain rfl:=osi h
   exact Tri.of (x:=(X27_5 x9 x10 x11 x12)) mixed facts27 [dt,.ents (encM .i64 (fun y=>AV.agg (e_i64_Lu8i64E_b_i64 y)) (mPut x11 x6 (x1,x2,x3,x4))) (mPut x11 x6 (x1,x2,x3,x4)).length,A27_5_0] [⟨(put_enc .i64 (fun y=>AV.agg (e_i64_Lu8i64E_b_i64 y)) x11 x6 (x1,x2,x3,x4))⟩,⟨c0⟩] (by kernel_rfl)
 rw[if_neg c0] at h;replace c0:=eqf c0
 by_cases c1:eqI x5 2=true
 · rw[if_pos c1] at h
   obtain⟨x13,e2,h⟩:=bsm h
   obtain rfl:=osi h
   exact Tri.of (x:=(X27_5 x9 x10 x11 x12)) mixed facts27 [df,dt,dt,(A27_5_1 x9 x12 x13),A27_5_0] [⟨(ok_site_Site_access_5 k x1 x2 x3 x4 x5 x6 x7 x8 x9 x10 x11 x12 _ e2)⟩,⟨c1⟩,⟨c1⟩,⟨c0⟩] (by kernel_rfl)
 rw[if_neg c1] at h;replace c1:=eqf c1
 by_cases c2:eqI x5 3=true
 · rw[if_pos c2] at h
   obtain⟨x13,e3,h⟩:=bsm h
   obtain rfl:=osi h
   exact Tri.of (x:=(X27_5 x9 x10 x11 x12)) mixed facts27 [df,df,dt,(A27_5_1 x9 x12 x13),A27_5_0] [⟨(ok_site_Site_access_5 k x1 x2 x3 x4 x5 x6 x7 x8 x9 x10 x11 x12 _ e3)⟩,⟨c2⟩,⟨c1⟩,⟨c0⟩] (by kernel_rfl)
 rw[if_neg c2] at h;replace c2:=eqf c2
 obtain⟨x13,e3,h⟩:=bsm h
 obtain rfl:=osi h
 exact Tri.of (x:=(X27_5 x9 x10 x11 x12)) mixed facts27 [df,df,df,.call ⟨true,[]⟩ (.int .i64 x13.2.2.2) [(.row [(.sl 2 (List.map e_u8_i64 x13.1)),(.sl 3 (List.map e_u8_i64_b x13.2.1)),(.mp 1),(.ref 4 2 2 0 x12.length .virt)]),(.map (encM .i64 (fun y=>AV.agg (e_i64_Lu8i64E_b_i64 y)) x13.2.2.1) x13.2.2.1.length),(.arr 4 (List.map e_i64_i64_u8_i64 x12) 2 2 true)],A27_5_0] [⟨(ok_site_Site_end_5 k x1 x2 x3 x4 x5 x6 x7 x8 x9 x10 x11 x12 _ e3)⟩,⟨c2⟩,⟨c1⟩,⟨c0⟩] (by kernel_rfl)
end Go.Ws

namespace Go.Ws
open Go.Proofs
set_option linter.unusedSimpArgs false
set_option linter.unusedVariables false
set_option maxRecDepth 1000000
set_option maxHeartbeats 4000000
noncomputable def X14_5 (x5:Ty16) (x6:Ty12) (x7:Ty6) (x8:Ty11):Ctx:=⟨Try.f14,[(.row [(.sl 2 (List.map e_u8_i64 x5)),(.sl 3 (List.map e_u8_i64_b x6)),(.mp 1),(.ref 4 2 2 0 x8.length .virt)]),(.map (encM .i64 (fun y=>AV.agg (e_i64_Lu8i64E_b_i64 y)) x7) x7.length),(.arr 4 (List.map e_i64_i64_u8_i64 x8) 2 2 true)],false⟩
def A14_5_0 (x5:Ty16) (x6:Ty12) (x7:Ty6) (x8:Ty11):Ans:=.call ⟨true,[]⟩ (.bool (!false)) [(.row [(.sl 2 (List.map e_u8_i64 x5)),(.sl 3 (List.map e_u8_i64_b x6)),(.mp 1),(.ref 4 2 2 0 x8.length .virt)]),(.map (encM .i64 (fun y=>AV.agg (e_i64_Lu8i64E_b_i64 y)) x7) x7.length),(.arr 4 (List.map e_i64_i64_u8_i64 x8) 2 2 true)]
def A14_5_1:Ans:=.norm 0 ⟨[(4,[]),(5,[])],[],false,[],[none,none,some 3]⟩
def A14_5_2 (x9:Int × Ty16 × Bool × Int):Ans:=.opt (some (.agg [(.int .i64 x9.1),(.sl 2 (List.map e_u8_i64 x9.2.1)),(.bool x9.2.2.1),(.int .i64 x9.2.2.2)]))
def A14_5_3 (x8:Ty11) (x10:Int × Int × Ty12 × Ty6 × Ty16):Ans:=.call ⟨true,[]⟩ (.tup [(.int .i64 x10.1),(.int .i64 x10.2.1)]) [(.row [(.sl 2 (List.map e_u8_i64 x10.2.2.2.2)),(.sl 3 (List.map e_u8_i64_b x10.2.2.1)),(.mp 1),(.ref 4 2 2 0 x8.length .virt)]),(.map (encM .i64 (fun y=>AV.agg (e_i64_Lu8i64E_b_i64 y)) x10.2.2.2.1) x10.2.2.2.1.length),(.arr 4 (List.map e_i64_i64_u8_i64 x8) 2 2 true)]
def A14_5_4 (x8:Ty11) (x9:Int × Int × Ty12 × Ty6 × Ty16):Ans:=.call ⟨true,[]⟩ (.tup [(.int .i64 x9.1),(.int .i64 x9.2.1)]) [(.row [(.sl 2 (List.map e_u8_i64 x9.2.2.2.2)),(.sl 3 (List.map e_u8_i64_b x9.2.2.1)),(.mp 1),(.ref 4 2 2 0 x8.length .virt)]),(.map (encM .i64 (fun y=>AV.agg (e_i64_Lu8i64E_b_i64 y)) x9.2.2.2.1) x9.2.2.2.1.length),(.arr 4 (List.map e_i64_i64_u8_i64 x8) 2 2 true)]
theorem ok_site_Site_Do_5 (k:Nat) (x1:Int) (x2:Int) (x3:Int) (x4:Int) (x5:Ty16) (x6:Ty12) (x7:Ty6) (x8:Ty11) (r:Int × Int × Ty16 × Ty12 × Ty6 × Ty11) (h:site_Site_Do_5 k x1 x2 x3 x4 x5 x6 x7 x8=some r):Tri Try.prog 14 [(.hp 0 0),(.agg [(.int .i64 x1),(.int .i64 x2),(.int .u8 x3),(.int .i64 x4)])] [(.row [(.sl 2 (List.map e_u8_i64 x5)),(.sl 3 (List.map e_u8_i64_b x6)),(.mp 1),(.ref 4 2 2 0 x8.length .virt)]),(.map (encM .i64 (fun y=>AV.agg (e_i64_Lu8i64E_b_i64 y)) x7) x7.length),(.arr 4 (List.map e_i64_i64_u8_i64 x8) 2 2 true)] (.tup [(.int .i64 r.2.1),(.int .i64 r.1)]) [(.row [(.sl 2 (List.map e_u8_i64 r.2.2.1)),(.sl 3 (List.map e_u8_i64_b r.2.2.2.1)),(.mp 1),(.ref 4 2 3 0 r.2.2.2.2.2.length .virt)]),(.map (encM .i64 (fun y=>AV.agg (e_i64_Lu8i64E_b_i64 y)) r.2.2.2.2.1) r.2.2.2.2.1.length),(.arr 4 (List.map e_i64_i64_u8_i64 r.2.2.2.2.2) 3 3 true)]:=by
 unfold site_Site_Do_5 at h
 by_cases c0:ltI x1 1=true
 · rw[if_pos c0] at h
   obtain rfl:=osi h
   exact Tri.of (x:=(X14_5 x5 x6 x7 x8)) mixed facts14 [(A14_5_0 x5 x6 x7 x8),df,dt,dt,dt,dt,dt,dt,dt,dt,dt,dt,dt,dt,dt,A14_5_1] [⟨rT⟩,⟨rT⟩,⟨rT⟩,⟨rT⟩,⟨rT⟩,⟨rT⟩,⟨rT⟩,⟨rT⟩,⟨rT⟩,⟨c0⟩,⟨c0⟩,⟨c0⟩,⟨c0⟩,⟨(nF (nT rfl))⟩,⟨(ok_site_Site_good_5 x5 x6 x7 x8)⟩] (by kernel_rfl)
 rw[if_neg c0] at h;replace c0:=eqf c0
 by_cases c1:ltI 6 x1=true
 · rw[if_pos c1] at h
   obtain rfl:=osi h
   exact Tri.of (x:=(X14_5 x5 x6 x7 x8)) mixed facts14 [(A14_5_0 x5 x6 x7 x8),df,df,df,df,df,dt,dt,dt,dt,dt,dt,dt,dt,dt,A14_5_1] [⟨rT⟩,⟨rT⟩,⟨rT⟩,⟨rT⟩,⟨rT⟩,⟨c1⟩,⟨c1⟩,⟨c1⟩,⟨c1⟩,⟨c0⟩,⟨c0⟩,⟨c0⟩,⟨c0⟩,⟨(nF (nT rfl))⟩,⟨(ok_site_Site_good_5 x5 x6 x7 x8)⟩] (by kernel_rfl)
 rw[if_neg c1] at h;replace c1:=eqf c1
 by_cases c2:ltI x2 0=true
 · rw[if_pos c2] at h
   obtain rfl:=osi h
   exact Tri.of (x:=(X14_5 x5 x6 x7 x8)) mixed facts14 [(A14_5_0 x5 x6 x7 x8),df,df,df,df,df,df,df,df,df,dt,dt,dt,dt,dt,A14_5_1] [⟨rT⟩,⟨c2⟩,⟨c2⟩,⟨c2⟩,⟨c2⟩,⟨c1⟩,⟨c1⟩,⟨c1⟩,⟨c1⟩,⟨c0⟩,⟨c0⟩,⟨c0⟩,⟨c0⟩,⟨(nF (nT rfl))⟩,⟨(ok_site_Site_good_5 x5 x6 x7 x8)⟩] (by kernel_rfl)
 rw[if_neg c2] at h;replace c2:=eqf c2
 by_cases c3:ltI x2 1000=true
 · rw[if_pos c3] at h
   by_cases c4:mHas x7 x2=true
   · rw[if_pos c4] at h
     obtain⟨x9,e5,h⟩:=bsm h
     by_cases c6:eqB true (eqI x1 1)=true
     · rw[if_pos c6] at h
       obtain rfl:=osi h
       exact Tri.of (x:=(X14_5 x5 x6 x7 x8)) mixed facts14 [(A14_5_0 x5 x6 x7 x8),df,df,df,df,df,df,df,df,df,df,df,df,df,df,(A14_5_2 x9),dt,dt,A14_5_1] [⟨rT⟩,⟨c6⟩,⟨(look_some .i64 (fun y=>AV.agg (e_i64_Lu8i64E_b_i64 y)) e5)⟩,⟨(nF c3)⟩,⟨c2⟩,⟨c2⟩,⟨c2⟩,⟨c2⟩,⟨c1⟩,⟨c1⟩,⟨c1⟩,⟨c1⟩,⟨c0⟩,⟨c0⟩,⟨c0⟩,⟨c0⟩,⟨(nF (nT rfl))⟩,⟨(ok_site_Site_good_5 x5 x6 x7 x8)⟩] (by kernel_rfl)
     rw[if_neg c6] at h;replace c6:=eqf c6
     obtain⟨x10,e7,h⟩:=bsm h
     by_cases c8:eqI x10.2.1 0=true
     · rw[if_pos c8] at h
       by_cases c9:roomI (((x8++[(x1,x2,x3,x4)]).length)*32)=true
       · rw[if_pos c9] at h
         obtain rfl:=osi h
         exact Tri.of (x:=(X14_5 x5 x6 x7 x8)) mixed facts14 [(A14_5_0 x5 x6 x7 x8),df,df,df,df,df,df,df,df,df,df,df,df,df,df,(A14_5_2 x9),df,(A14_5_3 x8 x10),df,.rows (List.map e_i64_i64_u8_i64 [(x1,x2,x3,x4)]),.n ((x8++[(x1,x2,x3,x4)]).length),.n x8.length,dt,.rows (List.map e_i64_i64_u8_i64 (x8++[(x1,x2,x3,x4)])),A14_5_1] [⟨(app_map e_i64_i64_u8_i64 x8 [(x1,x2,x3,x4)])⟩,⟨(eqN_self x8.length)⟩,⟨(len_map e_i64_i64_u8_i64 x8)⟩,⟨c9⟩,⟨(by simp only[wl,List.length_map,List.map_nil,List.map_cons]<;>omega:x8.length+(List.map e_i64_i64_u8_i64 [(x1,x2,x3,x4)]).length=(x8++[(x1,x2,x3,x4)]).length)⟩,⟨(part_all e_i64_i64_u8_i64 (l:=[(x1,x2,x3,x4)]) (n:=1) rfl)⟩,⟨(le_map e_i64_i64_u8_i64 (Nat.le_refl 1):0+1≤(List.map e_i64_i64_u8_i64 [(x1,x2,x3,x4)]).length)⟩,⟨(nF c8)⟩,⟨(ok_site_Site_step_5 k x9.1 x9.2.1 x9.2.2.1 x9.2.2.2 x1 x2 x3 x4 x5 x6 x7 x8 _ e7)⟩,⟨c6⟩,⟨(look_some .i64 (fun y=>AV.agg (e_i64_Lu8i64E_b_i64 y)) e5)⟩,⟨(nF c3)⟩,⟨c2⟩,⟨c2⟩,⟨c2⟩,⟨c2⟩,⟨c1⟩,⟨c1⟩,⟨c1⟩,⟨c1⟩,⟨c0⟩,⟨c0⟩,⟨c0⟩,⟨c0⟩,⟨(nF (nT rfl))⟩,⟨(ok_site_Site_good_5 x5 x6 x7 x8)⟩] (by kernel_rfl)
       rw[if_neg c9] at h;replace c9:=eqf c9
       cases h
     rw[if_neg c8] at h;replace c8:=eqf c8
     obtain rfl:=osi h
     exact Tri.of (x:=(X14_5 x5 x6 x7 x8)) mixed facts14 [(A14_5_0 x5 x6 x7 x8),df,df,df,df,df,df,df,df,df,df,df,df,df,df,(A14_5_2 x9),df,(A14_5_3 x8 x10),dt,A14_5_1] [⟨(nT c8)⟩,⟨(ok_site_Site_step_5 k x9.1 x9.2.1 x9.2.2.1 x9.2.2.2 x1 x2 x3 x4 x5 x6 x7 x8 _ e7)⟩,⟨c6⟩,⟨(look_some .i64 (fun y=>AV.agg (e_i64_Lu8i64E_b_i64 y)) e5)⟩,⟨(nF c3)⟩,⟨c2⟩,⟨c2⟩,⟨c2⟩,⟨c2⟩,⟨c1⟩,⟨c1⟩,⟨c1⟩,⟨c1⟩,⟨c0⟩,⟨c0⟩,⟨c0⟩,⟨c0⟩,⟨(nF (nT rfl))⟩,⟨(ok_site_Site_good_5 x5 x6 x7 x8)⟩] (by kernel_rfl)
   rw[if_neg c4] at h;replace c4:=eqf c4
   by_cases c5:eqB false (eqI x1 1)=true
   · rw[if_pos c5] at h
     obtain rfl:=osi h
     exact Tri.of (x:=(X14_5 x5 x6 x7 x8)) mixed facts14 [(A14_5_0 x5 x6 x7 x8),df,df,df,df,df,df,df,df,df,df,df,df,df,df,.opt none,dt,df,A14_5_1] [⟨rF⟩,⟨c5⟩,⟨(look_none .i64 (fun y=>AV.agg (e_i64_Lu8i64E_b_i64 y)) c4)⟩,⟨(nF c3)⟩,⟨c2⟩,⟨c2⟩,⟨c2⟩,⟨c2⟩,⟨c1⟩,⟨c1⟩,⟨c1⟩,⟨c1⟩,⟨c0⟩,⟨c0⟩,⟨c0⟩,⟨c0⟩,⟨(nF (nT rfl))⟩,⟨(ok_site_Site_good_5 x5 x6 x7 x8)⟩] (by kernel_rfl)
   rw[if_neg c5] at h;replace c5:=eqf c5
   obtain⟨x9,e6,h⟩:=bsm h
   by_cases c7:eqI x9.2.1 0=true
   · rw[if_pos c7] at h
     by_cases c8:roomI (((x8++[(x1,x2,x3,x4)]).length)*32)=true
     · rw[if_pos c8] at h
       obtain rfl:=osi h
       exact Tri.of (x:=(X14_5 x5 x6 x7 x8)) mixed facts14 [(A14_5_0 x5 x6 x7 x8),df,df,df,df,df,df,df,df,df,df,df,df,df,df,.opt none,df,(A14_5_4 x8 x9),df,.rows (List.map e_i64_i64_u8_i64 [(x1,x2,x3,x4)]),.n ((x8++[(x1,x2,x3,x4)]).length),.n x8.length,dt,.rows (List.map e_i64_i64_u8_i64 (x8++[(x1,x2,x3,x4)])),A14_5_1] [⟨(app_map e_i64_i64_u8_i64 x8 [(x1,x2,x3,x4)])⟩,⟨(eqN_self x8.length)⟩,⟨(len_map e_i64_i64_u8_i64 x8)⟩,⟨c8⟩,⟨(by simp only[wl,List.length_map,List.map_nil,List.map_cons]<;>omega:x8.length+(List.map e_i64_i64_u8_i64 [(x1,x2,x3,x4)]).length=(x8++[(x1,x2,x3,x4)]).length)⟩,⟨(part_all e_i64_i64_u8_i64 (l:=[(x1,x2,x3,x4)]) (n:=1) rfl)⟩,⟨(le_map e_i64_i64_u8_i64 (Nat.le_refl 1):0+1≤(List.map e_i64_i64_u8_i64 [(x1,x2,x3,x4)]).length)⟩,⟨(nF c7)⟩,⟨(ok_site_Site_step_5 k 0 [] false 0 x1 x2 x3 x4 x5 x6 x7 x8 _ e6)⟩,⟨c5⟩,⟨(look_none .i64 (fun y=>AV.agg (e_i64_Lu8i64E_b_i64 y)) c4)⟩,⟨(nF c3)⟩,⟨c2⟩,⟨c2⟩,⟨c2⟩,⟨c2⟩,⟨c1⟩,⟨c1⟩,⟨c1⟩,⟨c1⟩,⟨c0⟩,⟨c0⟩,⟨c0⟩,⟨c0⟩,⟨(nF (nT rfl))⟩,⟨(ok_site_Site_good_5 x5 x6 x7 x8)⟩] (by kernel_rfl)
     rw[if_neg c8] at h;replace c8:=eqf c8
     cases h
   rw[if_neg c7] at h;replace c7:=eqf c7
   obtain rfl:=osi h
   exact Tri.of (x:=(X14_5 x5 x6 x7 x8)) mixed facts14 [(A14_5_0 x5 x6 x7 x8),df,df,df,df,df,df,df,df,df,df,df,df,df,df,.opt none,df,(A14_5_4 x8 x9),dt,A14_5_1] [⟨(nT c7)⟩,⟨(ok_site_Site_step_5 k 0 [] false 0 x1 x2 x3 x4 x5 x6 x7 x8 _ e6)⟩,⟨c5⟩,⟨(look_none .i64 (fun y=>AV.agg (e_i64_Lu8i64E_b_i64 y)) c4)⟩,⟨(nF c3)⟩,⟨c2⟩,⟨c2⟩,⟨c2⟩,⟨c2⟩,⟨c1⟩,⟨c1⟩,⟨c1⟩,⟨c1⟩,⟨c0⟩,⟨c0⟩,⟨c0⟩,⟨c0⟩,⟨(nF (nT rfl))⟩,⟨(ok_site_Site_good_5 x5 x6 x7 x8)⟩] (by kernel_rfl)
 rw[if_neg c3] at h;replace c3:=eqf c3
 obtain rfl:=osi h
 exact Tri.of (x:=(X14_5 x5 x6 x7 x8)) mixed facts14 [(A14_5_0 x5 x6 x7 x8),df,df,df,df,df,df,df,df,df,df,df,df,df,dt,A14_5_1] [⟨(nT c3)⟩,⟨c2⟩,⟨c2⟩,⟨c2⟩,⟨c2⟩,⟨c1⟩,⟨c1⟩,⟨c1⟩,⟨c1⟩,⟨c0⟩,⟨c0⟩,⟨c0⟩,⟨c0⟩,⟨(nF (nT rfl))⟩,⟨(ok_site_Site_good_5 x5 x6 x7 x8)⟩] (by kernel_rfl)
end Go.Ws

namespace Go.Ws
open Go.Proofs
set_option linter.unusedSimpArgs false
set_option linter.unusedVariables false
set_option maxRecDepth 1000000
set_option maxHeartbeats 4000000
noncomputable def X26_6 (x1:Ty16) (x2:Ty12) (x3:Ty6) (x4:Ty11):Ctx:=⟨Try.f26,[(.row [(.sl 2 (List.map e_u8_i64 x1)),(.sl 3 (List.map e_u8_i64_b x2)),(.mp 1),(.ref 4 2 3 0 x4.length .virt)]),(.map (encM .i64 (fun y=>AV.agg (e_i64_Lu8i64E_b_i64 y)) x3) x3.length),(.arr 4 (List.map e_i64_i64_u8_i64 x4) 3 3 true)],false⟩
theorem ok_site_Site_good_6 (x1:Ty16) (x2:Ty12) (x3:Ty6) (x4:Ty11):Tri Try.prog 26 [(.hp 0 0)] [(.row [(.sl 2 (List.map e_u8_i64 x1)),(.sl 3 (List.map e_u8_i64_b x2)),(.mp 1),(.ref 4 2 3 0 x4.length .virt)]),(.map (encM .i64 (fun y=>AV.agg (e_i64_Lu8i64E_b_i64 y)) x3) x3.length),(.arr 4 (List.map e_i64_i64_u8_i64 x4) 3 3 true)] (.bool (!false)) [(.row [(.sl 2 (List.map e_u8_i64 x1)),(.sl 3 (List.map e_u8_i64_b x2)),(.mp 1),(.ref 4 2 3 0 x4.length .virt)]),(.map (encM .i64 (fun y=>AV.agg (e_i64_Lu8i64E_b_i64 y)) x3) x3.length),(.arr 4 (List.map e_i64_i64_u8_i64 x4) 3 3 true)]:=by
 obtain⟨r,h⟩:∃r,site_Site_good_6 x1 x2 x3 x4=r:=⟨_,rfl⟩
 try rw[h]
 unfold site_Site_good_6 at h
 obtain rfl:=h
 exact Tri.of (x:=(X26_6 x1 x2 x3 x4)) mixed facts26 [dt,dt,dt,dt,dt,dt,.norm 0 ⟨[(2,[])],[],false,[],[]⟩] [⟨(nT rfl)⟩,⟨(nT rfl)⟩,⟨(nT rfl)⟩,⟨(nT rfl)⟩,⟨(nT rfl)⟩,⟨(nT rfl)⟩] (by kernel_rfl)
end Go.Ws

namespace Go.Ws
open Go.Proofs
set_option linter.unusedSimpArgs false
set_option linter.unusedVariables false
set_option maxRecDepth 1000000
set_option maxHeartbeats 4000000
noncomputable def X37_6 (x9:Ty16) (x10:Ty12) (x11:Ty6) (x12:Ty11):Ctx:=⟨Try.f37,[(.row [(.sl 2 (List.map e_u8_i64 x9)),(.sl 3 (List.map e_u8_i64_b x10)),(.mp 1),(.ref 4 2 3 0 x12.length .virt)]),(.map (encM .i64 (fun y=>AV.agg (e_i64_Lu8i64E_b_i64 y)) x11) x11.length),(.arr 4 (List.map e_i64_i64_u8_i64 x12) 3 3 true)],false⟩
noncomputable def L37_6_0:Code:=at_ Try.f37 [1,1,1,1,1,1,1,0,1,4,5]
def S37_6_0 (x2:Ty16) (x5:Int) (x6:Int) (x7:Int) (x8:Int) (x9:Ty16) (x11:Ty6) (x12:Ty11) (x13:Ty12 × Int) (v637001_1:Int) (v637001_2:Int):St:=⟨mkT 92 [(5,(.hp 3 0)),(10,(.int .i64 v637001_1)),(75,(.sl 2 (List.map e_u8_i64 x2))),(76,(.int .i64 (nI x2.length))),(77,(.int .i64 v637001_2))],[(.row [(.sl 2 (List.map e_u8_i64 x9)),(.sl 3 (List.map e_u8_i64_b x13.1)),(.mp 1),(.ref 4 2 3 0 x12.length .virt)]),(.map (encM .i64 (fun y=>AV.agg (e_i64_Lu8i64E_b_i64 y)) x11) x11.length),(.arr 4 (List.map e_i64_i64_u8_i64 x12) 3 3 true),(.row [(.int .i64 x5),(.int .i64 x6),(.int .u8 x7),(.int .i64 x8)])]⟩
def E37_6_0_0 (x9:Ty16) (x11:Ty6) (x12:Ty11) (x13:Ty12 × Int) (v637002_1:Int):St:=⟨mkT 92 [(10,(.int .i64 v637002_1))],[(.row [(.sl 2 (List.map e_u8_i64 x9)),(.sl 3 (List.map e_u8_i64_b x13.1)),(.mp 1),(.ref 4 2 3 0 x12.length .virt)]),(.map (encM .i64 (fun y=>AV.agg (e_i64_Lu8i64E_b_i64 y)) x11) x11.length),(.arr 4 (List.map e_i64_i64_u8_i64 x12) 3 3 true)]⟩
def O37_6_0 (x2:Ty16) (x5:Int) (x6:Int) (x7:Int) (x8:Int) (x9:Ty16) (x10:Ty12) (x11:Ty6) (x12:Ty11) (x13:Ty12 × Int) (y:(Int)):GX:=.st (.exit 0) (E37_6_0_0 x9 x11 x12 x13 y)
def A37_6_0 (x13:Ty12 × Int):Ans:=.call ⟨true,[]⟩ (.tup [(.sl 3 (List.map e_u8_i64_b x13.1)),(.int .i64 x13.2)]) []
def A37_6_1 (x14:Int × Ty16 × Bool × Int × Int):Ans:=.call ⟨true,[]⟩ (.tup [(.agg [(.int .i64 x14.1),(.sl 2 (List.map e_u8_i64 x14.2.1)),(.bool x14.2.2.1),(.int .i64 x14.2.2.2.1)]),(.int .i64 x14.2.2.2.2)]) []
def A37_6_2:Ans:=.norm 0 ⟨[(6,[]),(7,[])],[],false,[],[]⟩
theorem ok_site_Site_access_6_l0 (x2:Ty16) (x5:Int) (x6:Int) (x7:Int) (x8:Int) (x9:Ty16) (x10:Ty12) (x11:Ty6) (x12:Ty11) (x13:Ty12 × Int) (y:(Int)):∀(k:Nat) (v637001_1:Int) (v637001_2:Int),site_Site_access_6_l0 k x2 x5 x6 x7 x8 x9 x10 x11 x12 x13 v637001_1 v637001_2=some y→LT Try.prog (X37_6 x9 x10 x11 x12) L37_6_0 (S37_6_0 x2 x5 x6 x7 x8 x9 x11 x12 x13 v637001_1 v637001_2) (O37_6_0 x2 x5 x6 x7 x8 x9 x10 x11 x12 x13 y)
 | 0,v637001_1,v637001_2,h=>by cases h
 | k+1,v637001_1,v637001_2,h=>by
  rw[site_Site_access_6_l0] at h
  by_cases cL0:ltI v637001_2 (nI x2.length)=true
  · rw[if_pos cL0] at h
    by_cases cL1:inI v637001_2 x2.length=true
    · rw[if_pos cL1] at h
      obtain⟨v637000_1,eL2,h⟩:=bsm h
      by_cases cL3:eqI v637000_1.1 x7=true
      · rw[if_pos cL3] at h
        exact LT.next mixed (hs:=⟨[(5,[]),(10,[]),(75,[]),(76,[]),(77,[])],[⟨.tmp 5,[],none⟩],false,[],[]⟩) (es:=none) [dt,.n x2.length,.row [(.int .u8 v637000_1.1),(.int .i64 v637000_1.2)],dt] [⟨cL3⟩,⟨(cells_map (e:=e_u8_i64) eL2 2 0 2 (by decide))⟩,⟨cL1⟩,⟨(len_map e_u8_i64 x2)⟩,⟨cL0⟩] (by kernel_rfl) (ok_site_Site_access_6_l0 x2 x5 x6 x7 x8 x9 x10 x11 x12 x13 y k (iadd .i64 v637001_1 v637000_1.2) (iadd .i64 v637001_2 1) h)
      rw[if_neg cL3] at h;replace cL3:=eqf cL3
      exact LT.next mixed (hs:=⟨[(5,[]),(10,[]),(75,[]),(76,[]),(77,[])],[⟨.tmp 5,[],none⟩],false,[],[]⟩) (es:=none) [dt,.n x2.length,.row [(.int .u8 v637000_1.1),(.int .i64 v637000_1.2)],df] [⟨cL3⟩,⟨(cells_map (e:=e_u8_i64) eL2 2 0 2 (by decide))⟩,⟨cL1⟩,⟨(len_map e_u8_i64 x2)⟩,⟨cL0⟩] (by kernel_rfl) (ok_site_Site_access_6_l0 x2 x5 x6 x7 x8 x9 x10 x11 x12 x13 y k v637001_1 (iadd .i64 v637001_2 1) h)
    rw[if_neg cL1] at h;replace cL1:=eqf cL1
    cases h
  rw[if_neg cL0] at h;replace cL0:=eqf cL0
  obtain rfl:=osi h
  show LT _ _ _ _ (.st (.exit 0) (E37_6_0_0 x9 x11 x12 x13 v637001_1))
  exact LT.done mixed (hs:=⟨[],[],false,[],[]⟩) (es:=(some ⟨[(10,[])],[],false,[],[]⟩)) [df] [⟨cL0⟩] (by kernel_rfl) (fun s h=>by cases h)
theorem ok_site_Site_access_6 (k:Nat) (x1:Int) (x2:Ty16) (x3:Bool) (x4:Int) (x5:Int) (x6:Int) (x7:Int) (x8:Int) (x9:Ty16) (x10:Ty12) (x11:Ty6) (x12:Ty11) (r:Ty12 × Ty6 × Int × Int) (h:site_Site_access_6 k x1 x2 x3 x4 x5 x6 x7 x8 x9 x10 x11 x12=some r):Tri Try.prog 37 [(.hp 0 0),(.agg [(.int .i64 x1),(.sl 2 (List.map e_u8_i64 x2)),(.bool x3),(.int .i64 x4)]),(.agg [(.int .i64 x5),(.int .i64 x6),(.int .u8 x7),(.int .i64 x8)])] [(.row [(.sl 2 (List.map e_u8_i64 x9)),(.sl 3 (List.map e_u8_i64_b x10)),(.mp 1),(.ref 4 2 3 0 x12.length .virt)]),(.map (encM .i64 (fun y=>AV.agg (e_i64_Lu8i64E_b_i64 y)) x11) x11.length),(.arr 4 (List.map e_i64_i64_u8_i64 x12) 3 3 true)] (.tup [(.int .i64 r.2.2.2),(.int .i64 r.2.2.1)]) [(.row [(.sl 2 (List.map e_u8_i64 x9)),(.sl 3 (List.map e_u8_i64_b r.1)),(.mp 1),(.ref 4 2 3 0 x12.length .virt)]),(.map (encM .i64 (fun y=>AV.agg (e_i64_Lu8i64E_b_i64 y)) r.2.1) r.2.1.length),(.arr 4 (List.map e_i64_i64_u8_i64 x12) 3 3 true)]:=by
 unfold site_Site_access_6 at h
 by_cases c0:eqI x1 0=true
 · rw[if_pos c0] at h
   obtain⟨x13,e1,h⟩:=bsm h
   by_cases c2:eqI x13.2 0=true
   · rw[if_pos c2] at h
     by_cases c3:eqI x5 3=true
     · rw[if_pos c3] at h
       obtain⟨x14,e4,h⟩:=bsm h
       by_cases c5:eqI x14.2.2.2.2 0=true
       · rw[if_pos c5] at h
         by_cases c6:mHas x11 x6=true
         · rw[if_pos c6] at h
           obtain⟨x15,e7,h⟩:=bsm h
           obtain rfl:=osi h
           exact Tri.of (x:=(X37_6 x9 x10 x11 x12)) mixed facts37 [df,(A37_6_0 x13),df,dt,(A37_6_1 x14),df,.opt (some (.agg [(.int .i64 x15.1),(.sl 2 (List.map e_u8_i64 x15.2.1)),(.bool x15.2.2.1),(.int .i64 x15.2.2.2)])),.n (mIx x11 x6),.ents (encM .i64 (fun y=>AV.agg (e_i64_Lu8i64E_b_i64 y)) x11) x11.length,.ents (encM .i64 (fun y=>AV.agg (e_i64_Lu8i64E_b_i64 y)) (mPut x11 x6 (x14.1,x14.2.1,x14.2.2.1,x14.2.2.2.1))) (mPut x11 x6 (x14.1,x14.2.1,x14.2.2.1,x14.2.2.2.1)).length,A37_6_2] [⟨(sb_some .i64 (fun y=>AV.agg (e_i64_Lu8i64E_b_i64 y)) e7 (x14.1,x14.2.1,x14.2.2.1,x14.2.2.2.1))⟩,⟨(ent_some .i64 (fun y=>AV.agg (e_i64_Lu8i64E_b_i64 y)) e7 (.agg [(.int .i64 0),(.sl 2 (List.map e_u8_i64 [])),(.bool false),(.int .i64 0)]))⟩,⟨(idx_enc .i64 (fun y=>AV.agg (e_i64_Lu8i64E_b_i64 y)) x11 x6)⟩,⟨(look_some .i64 (fun y=>AV.agg (e_i64_Lu8i64E_b_i64 y)) e7)⟩,⟨(nF c5)⟩,⟨(ok_part_Add k x1 x2 x3 x4 x7 x8 _ e4)⟩,⟨c3⟩,⟨(nF c2)⟩,⟨(ok_lock_Take k x10 x6 x7 (eqI x5 3) _ e1)⟩,⟨(nF c0)⟩] (by kernel_rfl)
         rw[if_neg c6] at h;replace c6:=eqf c6
         obtain rfl:=osi h
         exact Tri.of (x:=(X37_6 x9 x10 x11 x12)) mixed facts37 [df,(A37_6_0 x13),df,dt,(A37_6_1 x14),df,.opt none,.n (mIx x11 x6),.ents (encM .i64 (fun y=>AV.agg (e_i64_Lu8i64E_b_i64 y)) (mPut x11 x6 (0,[],false,0))) (mPut x11 x6 (0,[],false,0)).length,.ents (encM .i64 (fun y=>AV.agg (e_i64_Lu8i64E_b_i64 y)) (mPut x11 x6 (x14.1,x14.2.1,x14.2.2.1,x14.2.2.2.1))) (mPut x11 x6 (x14.1,x14.2.1,x14.2.2.1,x14.2.2.2.1)).length,A37_6_2] [⟨(sb_none .i64 (fun y=>AV.agg (e_i64_Lu8i64E_b_i64 y)) (l:=x11) (q:=x6) (0,[],false,0) (x14.1,x14.2.1,x14.2.2.1,x14.2.2.2.1))⟩,⟨(ent_none .i64 (fun y=>AV.agg (e_i64_Lu8i64E_b_i64 y)) c6 (0,[],false,0))⟩,⟨(idx_enc .i64 (fun y=>AV.agg (e_i64_Lu8i64E_b_i64 y)) x11 x6)⟩,⟨(look_none .i64 (fun y=>AV.agg (e_i64_Lu8i64E_b_i64 y)) c6)⟩,⟨(nF c5)⟩,⟨(ok_part_Add k x1 x2 x3 x4 x7 x8 _ e4)⟩,⟨c3⟩,⟨(nF c2)⟩,⟨(ok_lock_Take k x10 x6 x7 (eqI x5 3) _ e1)⟩,⟨(nF c0)⟩] (by kernel_rfl)
       rw[if_neg c5] at h;replace c5:=eqf c5
       obtain rfl:=osi h
       exact Tri.of (x:=(X37_6 x9 x10 x11 x12)) mixed facts37 [df,(A37_6_0 x13),df,dt,(A37_6_1 x14),dt,A37_6_2] [⟨(nT c5)⟩,⟨(ok_part_Add k x1 x2 x3 x4 x7 x8 _ e4)⟩,⟨c3⟩,⟨(nF c2)⟩,⟨(ok_lock_Take k x10 x6 x7 (eqI x5 3) _ e1)⟩,⟨(nF c0)⟩] (by kernel_rfl)
     rw[if_neg c3] at h;replace c3:=eqf c3
     obtain⟨x14,e4,h⟩:=bsm h
     obtain⟨x16,e5,h⟩:=bsm h
     obtain rfl:=osi h
     exact Tri.of (x:=(X37_6 x9 x10 x11 x12)) mixed facts37 [df,(A37_6_0 x13),df,df,.call ⟨true,[]⟩ (.int .i64 x14) [],.n x2.length,.norm 2 ⟨[(5,[]),(10,[]),(75,[]),(76,[]),(77,[])],[⟨.tmp 5,[],none⟩],false,[],[]⟩,.out (.st .normal (E37_6_0_0 x9 x11 x12 x13 x16)),A37_6_2] [⟨(LT.block (ok_site_Site_access_6_l0 x2 x5 x6 x7 x8 x9 x10 x11 x12 x13 _ k x14 0 e5))⟩,⟨(len_map e_u8_i64 x2)⟩,⟨(ok_ledger_Get k x9 x7 _ e4)⟩,⟨c3⟩,⟨(nF c2)⟩,⟨(ok_lock_Take k x10 x6 x7 (eqI x5 3) _ e1)⟩,⟨(nF c0)⟩] (by kernel_rfl)
   rw[if_neg c2] at h;replace c2:=eqf c2
   obtain rfl:=osi h
   exact Tri.of (x:=(X37_6 x9 x10 x11 x12)) mixed facts37 [df,(A37_6_0 x13),dt,A37_6_2] [⟨(nT c2)⟩,⟨(ok_lock_Take k x10 x6 x7 (eqI x5 3) _ e1)⟩,⟨(nF c0)⟩] (by kernel_rfl)
 rw[if_neg c0] at h;replace c0:=eqf c0
 obtain rfl:=osi h
 exact Tri.of (x:=(X37_6 x9 x10 x11 x12)) mixed facts37 [dt,A37_6_2] [⟨(nT c0)⟩] (by kernel_rfl)
end Go.Ws

namespace Go.Ws
open Go.Proofs
set_option linter.unusedSimpArgs false
set_option linter.unusedVariables false
set_option maxRecDepth 1000000
set_option maxHeartbeats 4000000
noncomputable def X38_6 (x9:Ty16) (x10:Ty12) (x11:Ty6) (x12:Ty11):Ctx:=⟨Try.f38,[(.row [(.sl 2 (List.map e_u8_i64 x9)),(.sl 3 (List.map e_u8_i64_b x10)),(.mp 1),(.ref 4 2 3 0 x12.length .virt)]),(.map (encM .i64 (fun y=>AV.agg (e_i64_Lu8i64E_b_i64 y)) x11) x11.length),(.arr 4 (List.map e_i64_i64_u8_i64 x12) 3 3 true)],false⟩
def A38_6_0 (x13:Int × Ty16 × Bool × Int × Int):Ans:=.call ⟨true,[]⟩ (.tup [(.agg [(.int .i64 x13.1),(.sl 2 (List.map e_u8_i64 x13.2.1)),(.bool x13.2.2.1),(.int .i64 x13.2.2.2.1)]),(.int .i64 x13.2.2.2.2)]) []
def A38_6_1 (x15:Ty12):Ans:=.call ⟨true,[]⟩ (.sl 3 (List.map e_u8_i64_b x15)) []
def A38_6_2 (x13:Int × Ty16 × Bool × Int × Ty16 × Int):Ans:=.call ⟨true,[]⟩ (.tup [(.agg [(.int .i64 x13.1),(.sl 2 (List.map e_u8_i64 x13.2.1)),(.bool x13.2.2.1),(.int .i64 x13.2.2.2.1)]),(.sl 2 (List.map e_u8_i64 x13.2.2.2.2.1)),(.int .i64 x13.2.2.2.2.2)]) []
def A38_6_3 (x6:Int) (x11:Ty6) (x13:Int × Ty16 × Bool × Int × Ty16 × Int):Ans:=.ents (encM .i64 (fun y=>AV.agg (e_i64_Lu8i64E_b_i64 y)) (mPut x11 x6 (x13.1,x13.2.1,x13.2.2.1,x13.2.2.2.1))) (mPut x11 x6 (x13.1,x13.2.1,x13.2.2.1,x13.2.2.2.1)).length
def A38_6_4 (x14:Ty16 × Int):Ans:=.call ⟨true,[]⟩ (.tup [(.sl 2 (List.map e_u8_i64 x14.1)),(.int .i64 x14.2)]) []
theorem ok_site_Site_end_6 (k:Nat) (x1:Int) (x2:Ty16) (x3:Bool) (x4:Int) (x5:Int) (x6:Int) (x7:Int) (x8:Int) (x9:Ty16) (x10:Ty12) (x11:Ty6) (x12:Ty11) (r:Ty16 × Ty12 × Ty6 × Int) (h:site_Site_end_6 k x1 x2 x3 x4 x5 x6 x7 x8 x9 x10 x11 x12=some r):Tri Try.prog 38 [(.hp 0 0),(.agg [(.int .i64 x1),(.sl 2 (List.map e_u8_i64 x2)),(.bool x3),(.int .i64 x4)]),(.agg [(.int .i64 x5),(.int .i64 x6),(.int .u8 x7),(.int .i64 x8)])] [(.row [(.sl 2 (List.map e_u8_i64 x9)),(.sl 3 (List.map e_u8_i64_b x10)),(.mp 1),(.ref 4 2 3 0 x12.length .virt)]),(.map (encM .i64 (fun y=>AV.agg (e_i64_Lu8i64E_b_i64 y)) x11) x11.length),(.arr 4 (List.map e_i64_i64_u8_i64 x12) 3 3 true)] (.int .i64 r.2.2.2) [(.row [(.sl 2 (List.map e_u8_i64 r.1)),(.sl 3 (List.map e_u8_i64_b r.2.1)),(.mp 1),(.ref 4 2 3 0 x12.length .virt)]),(.map (encM .i64 (fun y=>AV.agg (e_i64_Lu8i64E_b_i64 y)) r.2.2.1) r.2.2.1.length),(.arr 4 (List.map e_i64_i64_u8_i64 x12) 3 3 true)]:=by
 unfold site_Site_end_6 at h
 by_cases c0:eqI x5 4=true
 · rw[if_pos c0] at h
   obtain⟨x13,e1,h⟩:=bsm h
   by_cases c2:eqI x13.2.2.2.2 0=true
   · rw[if_pos c2] at h
     obtain⟨x14,e3,h⟩:=bsm h
     by_cases c4:eqI x13.1 2=true
     · rw[if_pos c4] at h
       obtain⟨x15,e5,h⟩:=bsm h
       obtain rfl:=osi h
       exact Tri.of (x:=(X38_6 x9 x10 x11 x12)) mixed facts38 [dt,(A38_6_0 x13),df,.ents (encM .i64 (fun y=>AV.agg (e_i64_Lu8i64E_b_i64 y)) (mPut x11 x6 (x13.1,x13.2.1,x13.2.2.1,x13.2.2.2.1))) (mPut x11 x6 (x13.1,x13.2.1,x13.2.2.1,x13.2.2.2.1)).length,.call ⟨true,[[],[(0,2)]]⟩ (.tup [(.sl 2 (List.map e_u8_i64 x14.1)),(.int .i64 x14.2)]) [],df,df,df,df,dt,(A38_6_1 x15),.norm 0 ⟨[(6,[])],[],false,[],[]⟩] [⟨(ok_lock_Free k x10 x6 _ e5)⟩,⟨c4⟩,⟨(nF c0)⟩,⟨(nF c0)⟩,⟨(nF c0)⟩,⟨(nF c0)⟩,⟨(ok_ledger_Put k x9 [] _ e3)⟩,⟨(put_enc .i64 (fun y=>AV.agg (e_i64_Lu8i64E_b_i64 y)) x11 x6 (x13.1,x13.2.1,x13.2.2.1,x13.2.2.2.1))⟩,⟨(nF c2)⟩,⟨(ok_part_Vote k x1 x2 x3 x4 (!eqI x8 0) _ e1)⟩,⟨c0⟩] (by kernel_rfl)
     rw[if_neg c4] at h;replace c4:=eqf c4
     obtain rfl:=osi h
     exact Tri.of (x:=(X38_6 x9 x10 x11 x12)) mixed facts38 [dt,(A38_6_0 x13),df,.ents (encM .i64 (fun y=>AV.agg (e_i64_Lu8i64E_b_i64 y)) (mPut x11 x6 (x13.1,x13.2.1,x13.2.2.1,x13.2.2.2.1))) (mPut x11 x6 (x13.1,x13.2.1,x13.2.2.1,x13.2.2.2.1)).length,.call ⟨true,[[],[(0,2)]]⟩ (.tup [(.sl 2 (List.map e_u8_i64 x14.1)),(.int .i64 x14.2)]) [],df,df,df,df,df,.norm 0 ⟨[(6,[])],[],false,[],[]⟩] [⟨c4⟩,⟨(nF c0)⟩,⟨(nF c0)⟩,⟨(nF c0)⟩,⟨(nF c0)⟩,⟨(ok_ledger_Put k x9 [] _ e3)⟩,⟨(put_enc .i64 (fun y=>AV.agg (e_i64_Lu8i64E_b_i64 y)) x11 x6 (x13.1,x13.2.1,x13.2.2.1,x13.2.2.2.1))⟩,⟨(nF c2)⟩,⟨(ok_part_Vote k x1 x2 x3 x4 (!eqI x8 0) _ e1)⟩,⟨c0⟩] (by kernel_rfl)
   rw[if_neg c2] at h;replace c2:=eqf c2
   obtain rfl:=osi h
   exact Tri.of (x:=(X38_6 x9 x10 x11 x12)) mixed facts38 [dt,(A38_6_0 x13),dt,.norm 0 ⟨[(6,[])],[],false,[],[]⟩] [⟨(nT c2)⟩,⟨(ok_part_Vote k x1 x2 x3 x4 (!eqI x8 0) _ e1)⟩,⟨c0⟩] (by kernel_rfl)
 rw[if_neg c0] at h;replace c0:=eqf c0
 by_cases c1:eqI x5 5=true
 · rw[if_pos c1] at h
   obtain⟨x13,e2,h⟩:=bsm h
   by_cases c3:eqI x13.2.2.2.2.2 0=true
   · rw[if_pos c3] at h
     obtain⟨x14,e4,h⟩:=bsm h
     obtain⟨x15,e5,h⟩:=bsm h
     obtain rfl:=osi h
     exact Tri.of (x:=(X38_6 x9 x10 x11 x12)) mixed facts38 [df,dt,(A38_6_2 x13),df,(A38_6_3 x6 x11 x13),(A38_6_4 x14),dt,dt,dt,dt,dt,(A38_6_1 x15),.norm 0 ⟨[(6,[])],[],false,[],[]⟩] [⟨(ok_lock_Free k x10 x6 _ e5)⟩,⟨rT⟩,⟨(nT c0)⟩,⟨(nT c0)⟩,⟨(nT c0)⟩,⟨(nT c0)⟩,⟨(ok_ledger_Put k x9 x13.2.2.2.2.1 _ e4)⟩,⟨(put_enc .i64 (fun y=>AV.agg (e_i64_Lu8i64E_b_i64 y)) x11 x6 (x13.1,x13.2.1,x13.2.2.1,x13.2.2.2.1))⟩,⟨(nF c3)⟩,⟨(ok_part_Local k x1 x2 x3 x4 _ e2)⟩,⟨c1⟩,⟨c0⟩] (by kernel_rfl)
   rw[if_neg c3] at h;replace c3:=eqf c3
   obtain rfl:=osi h
   exact Tri.of (x:=(X38_6 x9 x10 x11 x12)) mixed facts38 [df,dt,(A38_6_2 x13),dt,.norm 0 ⟨[(6,[])],[],false,[],[]⟩] [⟨(nT c3)⟩,⟨(ok_part_Local k x1 x2 x3 x4 _ e2)⟩,⟨c1⟩,⟨c0⟩] (by kernel_rfl)
 rw[if_neg c1] at h;replace c1:=eqf c1
 by_cases c2:eqI x8 1=true
 · rw[if_pos c2] at h
   obtain⟨x13,e3,h⟩:=bsm h
   by_cases c4:eqI x13.2.2.2.2.2 0=true
   · rw[if_pos c4] at h
     obtain⟨x14,e5,h⟩:=bsm h
     obtain⟨x15,e6,h⟩:=bsm h
     obtain rfl:=osi h
     exact Tri.of (x:=(X38_6 x9 x10 x11 x12)) mixed facts38 [df,df,dt,dt,dt,dt,dt,(A38_6_2 x13),df,(A38_6_3 x6 x11 x13),(A38_6_4 x14),dt,dt,dt,dt,dt,(A38_6_1 x15),.norm 0 ⟨[(6,[])],[],false,[],[]⟩] [⟨(ok_lock_Free k x10 x6 _ e6)⟩,⟨rT⟩,⟨(nT c0)⟩,⟨(nT c0)⟩,⟨(nT c0)⟩,⟨(nT c0)⟩,⟨(ok_ledger_Put k x9 x13.2.2.2.2.1 _ e5)⟩,⟨(put_enc .i64 (fun y=>AV.agg (e_i64_Lu8i64E_b_i64 y)) x11 x6 (x13.1,x13.2.1,x13.2.2.1,x13.2.2.2.1))⟩,⟨(nF c4)⟩,⟨(ok_part_Decide k x1 x2 x3 x4 x8 _ e3)⟩,⟨rT⟩,⟨c2⟩,⟨c2⟩,⟨c2⟩,⟨c2⟩,⟨c1⟩,⟨c0⟩] (by kernel_rfl)
   rw[if_neg c4] at h;replace c4:=eqf c4
   obtain rfl:=osi h
   exact Tri.of (x:=(X38_6 x9 x10 x11 x12)) mixed facts38 [df,df,dt,dt,dt,dt,dt,(A38_6_2 x13),dt,.norm 0 ⟨[(6,[])],[],false,[],[]⟩] [⟨(nT c4)⟩,⟨(ok_part_Decide k x1 x2 x3 x4 x8 _ e3)⟩,⟨rT⟩,⟨c2⟩,⟨c2⟩,⟨c2⟩,⟨c2⟩,⟨c1⟩,⟨c0⟩] (by kernel_rfl)
 rw[if_neg c2] at h;replace c2:=eqf c2
 by_cases c3:eqI x8 2=true
 · rw[if_pos c3] at h
   obtain⟨x13,e4,h⟩:=bsm h
   by_cases c5:eqI x13.2.2.2.2.2 0=true
   · rw[if_pos c5] at h
     obtain⟨x14,e6,h⟩:=bsm h
     obtain⟨x15,e7,h⟩:=bsm h
     obtain rfl:=osi h
     exact Tri.of (x:=(X38_6 x9 x10 x11 x12)) mixed facts38 [df,df,df,df,df,df,dt,(A38_6_2 x13),df,(A38_6_3 x6 x11 x13),(A38_6_4 x14),dt,dt,dt,dt,dt,(A38_6_1 x15),.norm 0 ⟨[(6,[])],[],false,[],[]⟩] [⟨(ok_lock_Free k x10 x6 _ e7)⟩,⟨rT⟩,⟨(nT c0)⟩,⟨(nT c0)⟩,⟨(nT c0)⟩,⟨(nT c0)⟩,⟨(ok_ledger_Put k x9 x13.2.2.2.2.1 _ e6)⟩,⟨(put_enc .i64 (fun y=>AV.agg (e_i64_Lu8i64E_b_i64 y)) x11 x6 (x13.1,x13.2.1,x13.2.2.1,x13.2.2.2.1))⟩,⟨(nF c5)⟩,⟨(ok_part_Decide k x1 x2 x3 x4 x8 _ e4)⟩,⟨c3⟩,⟨c2⟩,⟨c2⟩,⟨c2⟩,⟨c2⟩,⟨c1⟩,⟨c0⟩] (by kernel_rfl)
   rw[if_neg c5] at h;replace c5:=eqf c5
   obtain rfl:=osi h
   exact Tri.of (x:=(X38_6 x9 x10 x11 x12)) mixed facts38 [df,df,df,df,df,df,dt,(A38_6_2 x13),dt,.norm 0 ⟨[(6,[])],[],false,[],[]⟩] [⟨(nT c5)⟩,⟨(ok_part_Decide k x1 x2 x3 x4 x8 _ e4)⟩,⟨c3⟩,⟨c2⟩,⟨c2⟩,⟨c2⟩,⟨c2⟩,⟨c1⟩,⟨c0⟩] (by kernel_rfl)
 rw[if_neg c3] at h;replace c3:=eqf c3
 obtain rfl:=osi h
 exact Tri.of (x:=(X38_6 x9 x10 x11 x12)) mixed facts38 [df,df,df,df,df,df,df,dt,.norm 0 ⟨[(6,[])],[],false,[],[]⟩] [⟨(nT (rfl:eqI 2 0=false))⟩,⟨c3⟩,⟨c2⟩,⟨c2⟩,⟨c2⟩,⟨c2⟩,⟨c1⟩,⟨c0⟩] (by kernel_rfl)
end Go.Ws

namespace Go.Ws
open Go.Proofs
set_option linter.unusedSimpArgs false
set_option linter.unusedVariables false
set_option maxRecDepth 1000000
set_option maxHeartbeats 4000000
noncomputable def X27_6 (x9:Ty16) (x10:Ty12) (x11:Ty6) (x12:Ty11):Ctx:=⟨Try.f27,[(.row [(.sl 2 (List.map e_u8_i64 x9)),(.sl 3 (List.map e_u8_i64_b x10)),(.mp 1),(.ref 4 2 3 0 x12.length .virt)]),(.map (encM .i64 (fun y=>AV.agg (e_i64_Lu8i64E_b_i64 y)) x11) x11.length),(.arr 4 (List.map e_i64_i64_u8_i64 x12) 3 3 true)],false⟩
def A27_6_0:Ans:=.norm 0 ⟨[(6,[]),(7,[])],[],false,[],[]⟩
def A27_6_1 (x9:Ty16) (x12:Ty11) (x13:Ty12 × Ty6 × Int × Int):Ans:=.call ⟨true,[]⟩ (.tup [(.int .i64 x13.2.2.2),(.int .i64 x13.2.2.1)]) [(.row [(.sl 2 (List.map e_u8_i64 x9)),(.sl 3 (List.map e_u8_i64_b x13.1)),(.mp 1),(.ref 4 2 3 0 x12.length .virt)]),(.map (encM .i64 (fun y=>AV.agg (e_i64_Lu8i64E_b_i64 y)) x13.2.1) x13.2.1.length),(.arr 4 (List.map e_i64_i64_u8_i64 x12) 3 3 true)]
theorem ok_site_Site_step_6 (k:Nat) (x1:Int) (x2:Ty16) (x3:Bool) (x4:Int) (x5:Int) (x6:Int) (x7:Int) (x8:Int) (x9:Ty16) (x10:Ty12) (x11:Ty6) (x12:Ty11) (r:Int × Int × Ty12 × Ty6 × Ty16) (h:site_Site_step_6 k x1 x2 x3 x4 x5 x6 x7 x8 x9 x10 x11 x12=some r):Tri Try.prog 27 [(.hp 0 0),(.agg [(.int .i64 x1),(.sl 2 (List.map e_u8_i64 x2)),(.bool x3),(.int .i64 x4)]),(.agg [(.int .i64 x5),(.int .i64 x6),(.int .u8 x7),(.int .i64 x8)])] [(.row [(.sl 2 (List.map e_u8_i64 x9)),(.sl 3 (List.map e_u8_i64_b x10)),(.mp 1),(.ref 4 2 3 0 x12.length .virt)]),(.map (encM .i64 (fun y=>AV.agg (e_i64_Lu8i64E_b_i64 y)) x11) x11.length),(.arr 4 (List.map e_i64_i64_u8_i64 x12) 3 3 true)] (.tup [(.int .i64 r.1),(.int .i64 r.2.1)]) [(.row [(.sl 2 (List.map e_u8_i64 r.2.2.2.2)),(.sl 3 (List.map e_u8_i64_b r.2.2.1)),(.mp 1),(.ref 4 2 3 0 x12.length .virt)]),(.map (encM .i64 (fun y=>AV.agg (e_i64_Lu8i64E_b_i64 y)) r.2.2.2.1) r.2.2.2.1.length),(.arr 4 (List.map e_i64_i64_u8_i64 x12) 3 3 true)]:=by
 unfold site_Site_step_6 at h
 by_cases c0:eqI x5 1=true
 · rw[if_pos c0] at h
   obtain rfl:=osi h
   exact Tri.of (x:=(X27_6 x9 x10 x11 x12)) mixed facts27 [dt,.ents (encM .i64 (fun y=>AV.agg (e_i64_Lu8i64E_b_i64 y)) (mPut x11 x6 (x1,x2,x3,x4))) (mPut x11 x6 (x1,x2,x3,x4)).length,A27_6_0] [⟨(put_enc .i64 (fun y=>AV.agg (e_i64_Lu8i64E_b_i64 y)) x11 x6 (x1,x2,x3,x4))⟩,⟨c0⟩] (by kernel_rfl)
 rw[if_neg c0] at h;replace c0:=eqf c0
 by_cases c1:eqI x5 2=true
 · rw[if_pos c1] at h
   obtain⟨x13,e2,h⟩:=bsm h
   obtain rfl:=osi h
   exact Tri.of (x:=(X27_6 x9 x10 x11 x12)) mixed facts27 [df,dt,dt,(A27_6_1 x9 x12 x13),A27_6_0] [⟨(ok_site_Site_access_6 k x1 x2 x3 x4 x5 x6 x7 x8 x9 x10 x11 x12 _ e2)⟩,⟨c1⟩,⟨c1⟩,⟨c0⟩] (by kernel_rfl)
 rw[if_neg c1] at h;replace c1:=eqf c1
 by_cases c2:eqI x5 3=true
 · rw[if_pos c2] at h
   obtain⟨x13,e3,h⟩:=bsm h
   obtain rfl:=osi h
   exact Tri.of (x:=(X27_6 x9 x10 x11 x12)) mixed facts27 [df,df,dt,(A27_6_1 x9 x12 x13),A27_6_0] [⟨(ok_site_Site_access_6 k x1 x2 x3 x4 x5 x6 x7 x8 x9 x10 x11 x12 _ e3)⟩,⟨c2⟩,⟨c1⟩,⟨c0⟩] (by kernel_rfl)
 rw[if_neg c2] at h;replace c2:=eqf c2
 obtain⟨x13,e3,h⟩:=bsm h
 obtain rfl:=osi h
 exact Tri.of (x:=(X27_6 x9 x10 x11 x12)) mixed facts27 [df,df,df,.call ⟨true,[]⟩ (.int .i64 x13.2.2.2) [(.row [(.sl 2 (List.map e_u8_i64 x13.1)),(.sl 3 (List.map e_u8_i64_b x13.2.1)),(.mp 1),(.ref 4 2 3 0 x12.length .virt)]),(.map (encM .i64 (fun y=>AV.agg (e_i64_Lu8i64E_b_i64 y)) x13.2.2.1) x13.2.2.1.length),(.arr 4 (List.map e_i64_i64_u8_i64 x12) 3 3 true)],A27_6_0] [⟨(ok_site_Site_end_6 k x1 x2 x3 x4 x5 x6 x7 x8 x9 x10 x11 x12 _ e3)⟩,⟨c2⟩,⟨c1⟩,⟨c0⟩] (by kernel_rfl)
end Go.Ws

namespace Go.Ws
open Go.Proofs
set_option linter.unusedSimpArgs false
set_option linter.unusedVariables false
set_option maxRecDepth 1000000
set_option maxHeartbeats 4000000
noncomputable def X14_6 (x5:Ty16) (x6:Ty12) (x7:Ty6) (x8:Ty11):Ctx:=⟨Try.f14,[(.row [(.sl 2 (List.map e_u8_i64 x5)),(.sl 3 (List.map e_u8_i64_b x6)),(.mp 1),(.ref 4 2 3 0 x8.length .virt)]),(.map (encM .i64 (fun y=>AV.agg (e_i64_Lu8i64E_b_i64 y)) x7) x7.length),(.arr 4 (List.map e_i64_i64_u8_i64 x8) 3 3 true)],false⟩
def A14_6_0 (x5:Ty16) (x6:Ty12) (x7:Ty6) (x8:Ty11):Ans:=.call ⟨true,[]⟩ (.bool (!false)) [(.row [(.sl 2 (List.map e_u8_i64 x5)),(.sl 3 (List.map e_u8_i64_b x6)),(.mp 1),(.ref 4 2 3 0 x8.length .virt)]),(.map (encM .i64 (fun y=>AV.agg (e_i64_Lu8i64E_b_i64 y)) x7) x7.length),(.arr 4 (List.map e_i64_i64_u8_i64 x8) 3 3 true)]
def A14_6_1:Ans:=.norm 0 ⟨[(4,[]),(5,[])],[],false,[],[none,none,some 4]⟩
def A14_6_2 (x9:Int × Ty16 × Bool × Int):Ans:=.opt (some (.agg [(.int .i64 x9.1),(.sl 2 (List.map e_u8_i64 x9.2.1)),(.bool x9.2.2.1),(.int .i64 x9.2.2.2)]))
def A14_6_3 (x8:Ty11) (x10:Int × Int × Ty12 × Ty6 × Ty16):Ans:=.call ⟨true,[]⟩ (.tup [(.int .i64 x10.1),(.int .i64 x10.2.1)]) [(.row [(.sl 2 (List.map e_u8_i64 x10.2.2.2.2)),(.sl 3 (List.map e_u8_i64_b x10.2.2.1)),(.mp 1),(.ref 4 2 3 0 x8.length .virt)]),(.map (encM .i64 (fun y=>AV.agg (e_i64_Lu8i64E_b_i64 y)) x10.2.2.2.1) x10.2.2.2.1.length),(.arr 4 (List.map e_i64_i64_u8_i64 x8) 3 3 true)]
def A14_6_4 (x8:Ty11) (x9:Int × Int × Ty12 × Ty6 × Ty16):Ans:=.call ⟨true,[]⟩ (.tup [(.int .i64 x9.1),(.int .i64 x9.2.1)]) [(.row [(.sl 2 (List.map e_u8_i64 x9.2.2.2.2)),(.sl 3 (List.map e_u8_i64_b x9.2.2.1)),(.mp 1),(.ref 4 2 3 0 x8.length .virt)]),(.map (encM .i64 (fun y=>AV.agg (e_i64_Lu8i64E_b_i64 y)) x9.2.2.2.1) x9.2.2.2.1.length),(.arr 4 (List.map e_i64_i64_u8_i64 x8) 3 3 true)]
theorem ok_site_Site_Do_6 (k:Nat) (x1:Int) (x2:Int) (x3:Int) (x4:Int) (x5:Ty16) (x6:Ty12) (x7:Ty6) (x8:Ty11) (r:Int × Int × Ty16 × Ty12 × Ty6 × Ty11) (h:site_Site_Do_6 k x1 x2 x3 x4 x5 x6 x7 x8=some r):Tri Try.prog 14 [(.hp 0 0),(.agg [(.int .i64 x1),(.int .i64 x2),(.int .u8 x3),(.int .i64 x4)])] [(.row [(.sl 2 (List.map e_u8_i64 x5)),(.sl 3 (List.map e_u8_i64_b x6)),(.mp 1),(.ref 4 2 3 0 x8.length .virt)]),(.map (encM .i64 (fun y=>AV.agg (e_i64_Lu8i64E_b_i64 y)) x7) x7.length),(.arr 4 (List.map e_i64_i64_u8_i64 x8) 3 3 true)] (.tup [(.int .i64 r.2.1),(.int .i64 r.1)]) [(.row [(.sl 2 (List.map e_u8_i64 r.2.2.1)),(.sl 3 (List.map e_u8_i64_b r.2.2.2.1)),(.mp 1),(.ref 4 2 4 0 r.2.2.2.2.2.length .virt)]),(.map (encM .i64 (fun y=>AV.agg (e_i64_Lu8i64E_b_i64 y)) r.2.2.2.2.1) r.2.2.2.2.1.length),(.arr 4 (List.map e_i64_i64_u8_i64 r.2.2.2.2.2) 4 4 true)]:=by
 unfold site_Site_Do_6 at h
 by_cases c0:ltI x1 1=true
 · rw[if_pos c0] at h
   obtain rfl:=osi h
   exact Tri.of (x:=(X14_6 x5 x6 x7 x8)) mixed facts14 [(A14_6_0 x5 x6 x7 x8),df,dt,dt,dt,dt,dt,dt,dt,dt,dt,dt,dt,dt,dt,A14_6_1] [⟨rT⟩,⟨rT⟩,⟨rT⟩,⟨rT⟩,⟨rT⟩,⟨rT⟩,⟨rT⟩,⟨rT⟩,⟨rT⟩,⟨c0⟩,⟨c0⟩,⟨c0⟩,⟨c0⟩,⟨(nF (nT rfl))⟩,⟨(ok_site_Site_good_6 x5 x6 x7 x8)⟩] (by kernel_rfl)
 rw[if_neg c0] at h;replace c0:=eqf c0
 by_cases c1:ltI 6 x1=true
 · rw[if_pos c1] at h
   obtain rfl:=osi h
   exact Tri.of (x:=(X14_6 x5 x6 x7 x8)) mixed facts14 [(A14_6_0 x5 x6 x7 x8),df,df,df,df,df,dt,dt,dt,dt,dt,dt,dt,dt,dt,A14_6_1] [⟨rT⟩,⟨rT⟩,⟨rT⟩,⟨rT⟩,⟨rT⟩,⟨c1⟩,⟨c1⟩,⟨c1⟩,⟨c1⟩,⟨c0⟩,⟨c0⟩,⟨c0⟩,⟨c0⟩,⟨(nF (nT rfl))⟩,⟨(ok_site_Site_good_6 x5 x6 x7 x8)⟩] (by kernel_rfl)
 rw[if_neg c1] at h;replace c1:=eqf c1
 by_cases c2:ltI x2 0=true
 · rw[if_pos c2] at h
   obtain rfl:=osi h
   exact Tri.of (x:=(X14_6 x5 x6 x7 x8)) mixed facts14 [(A14_6_0 x5 x6 x7 x8),df,df,df,df,df,df,df,df,df,dt,dt,dt,dt,dt,A14_6_1] [⟨rT⟩,⟨c2⟩,⟨c2⟩,⟨c2⟩,⟨c2⟩,⟨c1⟩,⟨c1⟩,⟨c1⟩,⟨c1⟩,⟨c0⟩,⟨c0⟩,⟨c0⟩,⟨c0⟩,⟨(nF (nT rfl))⟩,⟨(ok_site_Site_good_6 x5 x6 x7 x8)⟩] (by kernel_rfl)
 rw[if_neg c2] at h;replace c2:=eqf c2
 by_cases c3:ltI x2 1000=true
 · rw[if_pos c3] at h
   by_cases c4:mHas x7 x2=true
   · rw[if_pos c4] at h
     obtain⟨x9,e5,h⟩:=bsm h
     by_cases c6:eqB true (eqI x1 1)=true
     · rw[if_pos c6] at h
       obtain rfl:=osi h
       exact Tri.of (x:=(X14_6 x5 x6 x7 x8)) mixed facts14 [(A14_6_0 x5 x6 x7 x8),df,df,df,df,df,df,df,df,df,df,df,df,df,df,(A14_6_2 x9),dt,dt,A14_6_1] [⟨rT⟩,⟨c6⟩,⟨(look_some .i64 (fun y=>AV.agg (e_i64_Lu8i64E_b_i64 y)) e5)⟩,⟨(nF c3)⟩,⟨c2⟩,⟨c2⟩,⟨c2⟩,⟨c2⟩,⟨c1⟩,⟨c1⟩,⟨c1⟩,⟨c1⟩,⟨c0⟩,⟨c0⟩,⟨c0⟩,⟨c0⟩,⟨(nF (nT rfl))⟩,⟨(ok_site_Site_good_6 x5 x6 x7 x8)⟩] (by kernel_rfl)
     rw[if_neg c6] at h;replace c6:=eqf c6
     obtain⟨x10,e7,h⟩:=bsm h
     by_cases c8:eqI x10.2.1 0=true
     · rw[if_pos c8] at h
       by_cases c9:roomI (((x8++[(x1,x2,x3,x4)]).length)*32)=true
       · rw[if_pos c9] at h
         obtain rfl:=osi h
         exact Tri.of (x:=(X14_6 x5 x6 x7 x8)) mixed facts14 [(A14_6_0 x5 x6 x7 x8),df,df,df,df,df,df,df,df,df,df,df,df,df,df,(A14_6_2 x9),df,(A14_6_3 x8 x10),df,.rows (List.map e_i64_i64_u8_i64 [(x1,x2,x3,x4)]),.n ((x8++[(x1,x2,x3,x4)]).length),.n x8.length,dt,.rows (List.map e_i64_i64_u8_i64 (x8++[(x1,x2,x3,x4)])),A14_6_1] [⟨(app_map e_i64_i64_u8_i64 x8 [(x1,x2,x3,x4)])⟩,⟨(eqN_self x8.length)⟩,⟨(len_map e_i64_i64_u8_i64 x8)⟩,⟨c9⟩,⟨(by simp only[wl,List.length_map,List.map_nil,List.map_cons]<;>omega:x8.length+(List.map e_i64_i64_u8_i64 [(x1,x2,x3,x4)]).length=(x8++[(x1,x2,x3,x4)]).length)⟩,⟨(part_all e_i64_i64_u8_i64 (l:=[(x1,x2,x3,x4)]) (n:=1) rfl)⟩,⟨(le_map e_i64_i64_u8_i64 (Nat.le_refl 1):0+1≤(List.map e_i64_i64_u8_i64 [(x1,x2,x3,x4)]).length)⟩,⟨(nF c8)⟩,⟨(ok_site_Site_step_6 k x9.1 x9.2.1 x9.2.2.1 x9.2.2.2 x1 x2 x3 x4 x5 x6 x7 x8 _ e7)⟩,⟨c6⟩,⟨(look_some .i64 (fun y=>AV.agg (e_i64_Lu8i64E_b_i64 y)) e5)⟩,⟨(nF c3)⟩,⟨c2⟩,⟨c2⟩,⟨c2⟩,⟨c2⟩,⟨c1⟩,⟨c1⟩,⟨c1⟩,⟨c1⟩,⟨c0⟩,⟨c0⟩,⟨c0⟩,⟨c0⟩,⟨(nF (nT rfl))⟩,⟨(ok_site_Site_good_6 x5 x6 x7 x8)⟩] (by kernel_rfl)
       rw[if_neg c9] at h;replace c9:=eqf c9
       cases h
     rw[if_neg c8] at h;replace c8:=eqf c8
     obtain rfl:=osi h
     exact Tri.of (x:=(X14_6 x5 x6 x7 x8)) mixed facts14 [(A14_6_0 x5 x6 x7 x8),df,df,df,df,df,df,df,df,df,df,df,df,df,df,(A14_6_2 x9),df,(A14_6_3 x8 x10),dt,A14_6_1] [⟨(nT c8)⟩,⟨(ok_site_Site_step_6 k x9.1 x9.2.1 x9.2.2.1 x9.2.2.2 x1 x2 x3 x4 x5 x6 x7 x8 _ e7)⟩,⟨c6⟩,⟨(look_some .i64 (fun y=>AV.agg (e_i64_Lu8i64E_b_i64 y)) e5)⟩,⟨(nF c3)⟩,⟨c2⟩,⟨c2⟩,⟨c2⟩,⟨c2⟩,⟨c1⟩,⟨c1⟩,⟨c1⟩,⟨c1⟩,⟨c0⟩,⟨c0⟩,⟨c0⟩,⟨c0⟩,⟨(nF (nT rfl))⟩,⟨(ok_site_Site_good_6 x5 x6 x7 x8)⟩] (by kernel_rfl)
   rw[if_neg c4] at h;replace c4:=eqf c4
   by_cases c5:eqB false (eqI x1 1)=true
   · rw[if_pos c5] at h
     obtain rfl:=osi h
     exact Tri.of (x:=(X14_6 x5 x6 x7 x8)) mixed facts14 [(A14_6_0 x5 x6 x7 x8),df,df,df,df,df,df,df,df,df,df,df,df,df,df,.opt none,dt,df,A14_6_1] [⟨rF⟩,⟨c5⟩,⟨(look_none .i64 (fun y=>AV.agg (e_i64_Lu8i64E_b_i64 y)) c4)⟩,⟨(nF c3)⟩,⟨c2⟩,⟨c2⟩,⟨c2⟩,⟨c2⟩,⟨c1⟩,⟨c1⟩,⟨c1⟩,⟨c1⟩,⟨c0⟩,⟨c0⟩,⟨c0⟩,⟨c0⟩,⟨(nF (nT rfl))⟩,⟨(ok_site_Site_good_6 x5 x6 x7 x8)⟩] (by kernel_rfl)
   rw[if_neg c5] at h;replace c5:=eqf c5
   obtain⟨x9,e6,h⟩:=bsm h
   by_cases c7:eqI x9.2.1 0=true
   · rw[if_pos c7] at h
     by_cases c8:roomI (((x8++[(x1,x2,x3,x4)]).length)*32)=true
     · rw[if_pos c8] at h
       obtain rfl:=osi h
       exact Tri.of (x:=(X14_6 x5 x6 x7 x8)) mixed facts14 [(A14_6_0 x5 x6 x7 x8),df,df,df,df,df,df,df,df,df,df,df,df,df,df,.opt none,df,(A14_6_4 x8 x9),df,.rows (List.map e_i64_i64_u8_i64 [(x1,x2,x3,x4)]),.n ((x8++[(x1,x2,x3,x4)]).length),.n x8.length,dt,.rows (List.map e_i64_i64_u8_i64 (x8++[(x1,x2,x3,x4)])),A14_6_1] [⟨(app_map e_i64_i64_u8_i64 x8 [(x1,x2,x3,x4)])⟩,⟨(eqN_self x8.length)⟩,⟨(len_map e_i64_i64_u8_i64 x8)⟩,⟨c8⟩,⟨(by simp only[wl,List.length_map,List.map_nil,List.map_cons]<;>omega:x8.length+(List.map e_i64_i64_u8_i64 [(x1,x2,x3,x4)]).length=(x8++[(x1,x2,x3,x4)]).length)⟩,⟨(part_all e_i64_i64_u8_i64 (l:=[(x1,x2,x3,x4)]) (n:=1) rfl)⟩,⟨(le_map e_i64_i64_u8_i64 (Nat.le_refl 1):0+1≤(List.map e_i64_i64_u8_i64 [(x1,x2,x3,x4)]).length)⟩,⟨(nF c7)⟩,⟨(ok_site_Site_step_6 k 0 [] false 0 x1 x2 x3 x4 x5 x6 x7 x8 _ e6)⟩,⟨c5⟩,⟨(look_none .i64 (fun y=>AV.agg (e_i64_Lu8i64E_b_i64 y)) c4)⟩,⟨(nF c3)⟩,⟨c2⟩,⟨c2⟩,⟨c2⟩,⟨c2⟩,⟨c1⟩,⟨c1⟩,⟨c1⟩,⟨c1⟩,⟨c0⟩,⟨c0⟩,⟨c0⟩,⟨c0⟩,⟨(nF (nT rfl))⟩,⟨(ok_site_Site_good_6 x5 x6 x7 x8)⟩] (by kernel_rfl)
     rw[if_neg c8] at h;replace c8:=eqf c8
     cases h
   rw[if_neg c7] at h;replace c7:=eqf c7
   obtain rfl:=osi h
   exact Tri.of (x:=(X14_6 x5 x6 x7 x8)) mixed facts14 [(A14_6_0 x5 x6 x7 x8),df,df,df,df,df,df,df,df,df,df,df,df,df,df,.opt none,df,(A14_6_4 x8 x9),dt,A14_6_1] [⟨(nT c7)⟩,⟨(ok_site_Site_step_6 k 0 [] false 0 x1 x2 x3 x4 x5 x6 x7 x8 _ e6)⟩,⟨c5⟩,⟨(look_none .i64 (fun y=>AV.agg (e_i64_Lu8i64E_b_i64 y)) c4)⟩,⟨(nF c3)⟩,⟨c2⟩,⟨c2⟩,⟨c2⟩,⟨c2⟩,⟨c1⟩,⟨c1⟩,⟨c1⟩,⟨c1⟩,⟨c0⟩,⟨c0⟩,⟨c0⟩,⟨c0⟩,⟨(nF (nT rfl))⟩,⟨(ok_site_Site_good_6 x5 x6 x7 x8)⟩] (by kernel_rfl)
 rw[if_neg c3] at h;replace c3:=eqf c3
 obtain rfl:=osi h
 exact Tri.of (x:=(X14_6 x5 x6 x7 x8)) mixed facts14 [(A14_6_0 x5 x6 x7 x8),df,df,df,df,df,df,df,df,df,df,df,df,df,dt,A14_6_1] [⟨(nT c3)⟩,⟨c2⟩,⟨c2⟩,⟨c2⟩,⟨c2⟩,⟨c1⟩,⟨c1⟩,⟨c1⟩,⟨c1⟩,⟨c0⟩,⟨c0⟩,⟨c0⟩,⟨c0⟩,⟨(nF (nT rfl))⟩,⟨(ok_site_Site_good_6 x5 x6 x7 x8)⟩] (by kernel_rfl)
end Go.Ws

namespace Go.Ws
open Go.Proofs
set_option linter.unusedSimpArgs false
set_option linter.unusedVariables false
set_option maxRecDepth 1000000
set_option maxHeartbeats 4000000
noncomputable def X26_7 (x1:Ty16) (x2:Ty12) (x3:Ty6) (x4:Ty11):Ctx:=⟨Try.f26,[(.row [(.sl 2 (List.map e_u8_i64 x1)),(.sl 3 (List.map e_u8_i64_b x2)),(.mp 1),(.ref 4 2 4 0 x4.length .virt)]),(.map (encM .i64 (fun y=>AV.agg (e_i64_Lu8i64E_b_i64 y)) x3) x3.length),(.arr 4 (List.map e_i64_i64_u8_i64 x4) 4 4 true)],false⟩
theorem ok_site_Site_good_7 (x1:Ty16) (x2:Ty12) (x3:Ty6) (x4:Ty11):Tri Try.prog 26 [(.hp 0 0)] [(.row [(.sl 2 (List.map e_u8_i64 x1)),(.sl 3 (List.map e_u8_i64_b x2)),(.mp 1),(.ref 4 2 4 0 x4.length .virt)]),(.map (encM .i64 (fun y=>AV.agg (e_i64_Lu8i64E_b_i64 y)) x3) x3.length),(.arr 4 (List.map e_i64_i64_u8_i64 x4) 4 4 true)] (.bool (!false)) [(.row [(.sl 2 (List.map e_u8_i64 x1)),(.sl 3 (List.map e_u8_i64_b x2)),(.mp 1),(.ref 4 2 4 0 x4.length .virt)]),(.map (encM .i64 (fun y=>AV.agg (e_i64_Lu8i64E_b_i64 y)) x3) x3.length),(.arr 4 (List.map e_i64_i64_u8_i64 x4) 4 4 true)]:=by
 obtain⟨r,h⟩:∃r,site_Site_good_7 x1 x2 x3 x4=r:=⟨_,rfl⟩
 try rw[h]
 unfold site_Site_good_7 at h
 obtain rfl:=h
 exact Tri.of (x:=(X26_7 x1 x2 x3 x4)) mixed facts26 [dt,dt,dt,dt,dt,dt,.norm 0 ⟨[(2,[])],[],false,[],[]⟩] [⟨(nT rfl)⟩,⟨(nT rfl)⟩,⟨(nT rfl)⟩,⟨(nT rfl)⟩,⟨(nT rfl)⟩,⟨(nT rfl)⟩] (by kernel_rfl)
end Go.Ws

namespace Go.Ws
open Go.Proofs
set_option linter.unusedSimpArgs false
set_option linter.unusedVariables false
set_option maxRecDepth 1000000
set_option maxHeartbeats 4000000
noncomputable def X37_7 (x9:Ty16) (x10:Ty12) (x11:Ty6) (x12:Ty11):Ctx:=⟨Try.f37,[(.row [(.sl 2 (List.map e_u8_i64 x9)),(.sl 3 (List.map e_u8_i64_b x10)),(.mp 1),(.ref 4 2 4 0 x12.length .virt)]),(.map (encM .i64 (fun y=>AV.agg (e_i64_Lu8i64E_b_i64 y)) x11) x11.length),(.arr 4 (List.map e_i64_i64_u8_i64 x12) 4 4 true)],false⟩
noncomputable def L37_7_0:Code:=at_ Try.f37 [1,1,1,1,1,1,1,0,1,4,5]
def S37_7_0 (x2:Ty16) (x5:Int) (x6:Int) (x7:Int) (x8:Int) (x9:Ty16) (x11:Ty6) (x12:Ty11) (x13:Ty12 × Int) (v737001_1:Int) (v737001_2:Int):St:=⟨mkT 92 [(5,(.hp 3 0)),(10,(.int .i64 v737001_1)),(75,(.sl 2 (List.map e_u8_i64 x2))),(76,(.int .i64 (nI x2.length))),(77,(.int .i64 v737001_2))],[(.row [(.sl 2 (List.map e_u8_i64 x9)),(.sl 3 (List.map e_u8_i64_b x13.1)),(.mp 1),(.ref 4 2 4 0 x12.length .virt)]),(.map (encM .i64 (fun y=>AV.agg (e_i64_Lu8i64E_b_i64 y)) x11) x11.length),(.arr 4 (List.map e_i64_i64_u8_i64 x12) 4 4 true),(.row [(.int .i64 x5),(.int .i64 x6),(.int .u8 x7),(.int .i64 x8)])]⟩
def E37_7_0_0 (x9:Ty16) (x11:Ty6) (x12:Ty11) (x13:Ty12 × Int) (v737002_1:Int):St:=⟨mkT 92 [(10,(.int .i64 v737002_1))],[(.row [(.sl 2 (List.map e_u8_i64 x9)),(.sl 3 (List.map e_u8_i64_b x13.1)),(.mp 1),(.ref 4 2 4 0 x12.length .virt)]),(.map (encM .i64 (fun y=>AV.agg (e_i64_Lu8i64E_b_i64 y)) x11) x11.length),(.arr 4 (List.map e_i64_i64_u8_i64 x12) 4 4 true)]⟩
def O37_7_0 (x2:Ty16) (x5:Int) (x6:Int) (x7:Int) (x8:Int) (x9:Ty16) (x10:Ty12) (x11:Ty6) (x12:Ty11) (x13:Ty12 × Int) (y:(Int)):GX:=.st (.exit 0) (E37_7_0_0 x9 x11 x12 x13 y)
def A37_7_0 (x13:Ty12 × Int):Ans:=.call ⟨true,[]⟩ (.tup [(.sl 3 (List.map e_u8_i64_b x13.1)),(.int .i64 x13.2)]) []
def A37_7_1 (x14:Int × Ty16 × Bool × Int × Int):Ans:=.call ⟨true,[]⟩ (.tup [(.agg [(.int .i64 x14.1),(.sl 2 (List.map e_u8_i64 x14.2.1)),(.bool x14.2.2.1),(.int .i64 x14.2.2.2.1)]),(.int .i64 x14.2.2.2.2)]) []
def A37_7_2:Ans:=.norm 0 ⟨[(6,[]),(7,[])],[],false,[],[]⟩
theorem ok_site_Site_access_7_l0 (x2:Ty16) (x5:Int) (x6:Int) (x7:Int) (x8:Int) (x9:Ty16) (x10:Ty12) (x11:Ty6) (x12:Ty11) (x13:Ty12 × Int) (y:(Int)):∀(k:Nat) (v737001_1:Int) (v737001_2:Int),site_Site_access_7_l0 k x2 x5 x6 x7 x8 x9 x10 x11 x12 x13 v737001_1 v737001_2=some y→LT Try.prog (X37_7 x9 x10 x11 x12) L37_7_0 (S37_7_0 x2 x5 x6 x7 x8 x9 x11 x12 x13 v737001_1 v737001_2) (O37_7_0 x2 x5 x6 x7 x8 x9 x10 x11 x12 x13 y)
 | 0,v737001_1,v737001_2,h=>by cases h
 | k+1,v737001_1,v737001_2,h=>by
  rw[site_Site_access_7_l0] at h
  by_cases cL0:ltI v737001_2 (nI x2.length)=true
  · rw[if_pos cL0] at h
    by_cases cL1:inI v737001_2 x2.length=true
    · rw[if_pos cL1] at h
      obtain⟨v737000_1,eL2,h⟩:=bsm h
      by_cases cL3:eqI v737000_1.1 x7=true
      · rw[if_pos cL3] at h
        exact LT.next mixed (hs:=⟨[(5,[]),(10,[]),(75,[]),(76,[]),(77,[])],[⟨.tmp 5,[],none⟩],false,[],[]⟩) (es:=none) [dt,.n x2.length,.row [(.int .u8 v737000_1.1),(.int .i64 v737000_1.2)],dt] [⟨cL3⟩,⟨(cells_map (e:=e_u8_i64) eL2 2 0 2 (by decide))⟩,⟨cL1⟩,⟨(len_map e_u8_i64 x2)⟩,⟨cL0⟩] (by kernel_rfl) (ok_site_Site_access_7_l0 x2 x5 x6 x7 x8 x9 x10 x11 x12 x13 y k (iadd .i64 v737001_1 v737000_1.2) (iadd .i64 v737001_2 1) h)
      rw[if_neg cL3] at h;replace cL3:=eqf cL3
      exact LT.next mixed (hs:=⟨[(5,[]),(10,[]),(75,[]),(76,[]),(77,[])],[⟨.tmp 5,[],none⟩],false,[],[]⟩) (es:=none) [dt,.n x2.length,.row [(.int .u8 v737000_1.1),(.int .i64 v737000_1.2)],df] [⟨cL3⟩,⟨(cells_map (e:=e_u8_i64) eL2 2 0 2 (by decide))⟩,⟨cL1⟩,⟨(len_map e_u8_i64 x2)⟩,⟨cL0⟩] (by kernel_rfl) (ok_site_Site_access_7_l0 x2 x5 x6 x7 x8 x9 x10 x11 x12 x13 y k v737001_1 (iadd .i64 v737001_2 1) h)
    rw[if_neg cL1] at h;replace cL1:=eqf cL1
    cases h
  rw[if_neg cL0] at h;replace cL0:=eqf cL0
  obtain rfl:=osi h
  show LT _ _ _ _ (.st (.exit 0) (E37_7_0_0 x9 x11 x12 x13 v737001_1))
  exact LT.done mixed (hs:=⟨[],[],false,[],[]⟩) (es:=(some ⟨[(10,[])],[],false,[],[]⟩)) [df] [⟨cL0⟩] (by kernel_rfl) (fun s h=>by cases h)
theorem ok_site_Site_access_7 (k:Nat) (x1:Int) (x2:Ty16) (x3:Bool) (x4:Int) (x5:Int) (x6:Int) (x7:Int) (x8:Int) (x9:Ty16) (x10:Ty12) (x11:Ty6) (x12:Ty11) (r:Ty12 × Ty6 × Int × Int) (h:site_Site_access_7 k x1 x2 x3 x4 x5 x6 x7 x8 x9 x10 x11 x12=some r):Tri Try.prog 37 [(.hp 0 0),(.agg [(.int .i64 x1),(.sl 2 (List.map e_u8_i64 x2)),(.bool x3),(.int .i64 x4)]),(.agg [(.int .i64 x5),(.int .i64 x6),(.int .u8 x7),(.int .i64 x8)])] [(.row [(.sl 2 (List.map e_u8_i64 x9)),(.sl 3 (List.map e_u8_i64_b x10)),(.mp 1),(.ref 4 2 4 0 x12.length .virt)]),(.map (encM .i64 (fun y=>AV.agg (e_i64_Lu8i64E_b_i64 y)) x11) x11.length),(.arr 4 (List.map e_i64_i64_u8_i64 x12) 4 4 true)] (.tup [(.int .i64 r.2.2.2),(.int .i64 r.2.2.1)]) [(.row [(.sl 2 (List.map e_u8_i64 x9)),(.sl 3 (List.map e_u8_i64_b r.1)),(.mp 1),(.ref 4 2 4 0 x12.length .virt)]),(.map (encM .i64 (fun y=>AV.agg (e_i64_Lu8i64E_b_i64 y)) r.2.1) r.2.1.length),(.arr 4 (List.map e_i64_i64_u8_i64 x12) 4 4 true)]:=by
 unfold site_Site_access_7 at h
 by_cases c0:eqI x1 0=true
 · rw[if_pos c0] at h
   obtain⟨x13,e1,h⟩:=bsm h
   by_cases c2:eqI x13.2 0=true
   · rw[if_pos c2] at h
     by_cases c3:eqI x5 3=true
     · rw[if_pos c3] at h
       obtain⟨x14,e4,h⟩:=bsm h
       by_cases c5:eqI x14.2.2.2.2 0=true
       · rw[if_pos c5] at h
         by_cases c6:mHas x11 x6=true
         · rw[if_pos c6] at h
           obtain⟨x15,e7,h⟩:=bsm h
           obtain rfl:=osi h
           exact Tri.of (x:=(X37_7 x9 x10 x11 x12)) mixed facts37 [df,(A37_7_0 x13),df,dt,(A37_7_1 x14),df,.opt (some (.agg [(.int .i64 x15.1),(.sl 2 (List.map e_u8_i64 x15.2.1)),(.bool x15.2.2.1),(.int .i64 x15.2.2.2)])),.n (mIx x11 x6),.ents (encM .i64 (fun y=>AV.agg (e_i64_Lu8i64E_b_i64 y)) x11) x11.length,.ents (encM .i64 (fun y=>AV.agg (e_i64_Lu8i64E_b_i64 y)) (mPut x11 x6 (x14.1,x14.2.1,x14.2.2.1,x14.2.2.2.1))) (mPut x11 x6 (x14.1,x14.2.1,x14.2.2.1,x14.2.2.2.1)).length,A37_7_2] [⟨(sb_some .i64 (fun y=>AV.agg (e_i64_Lu8i64E_b_i64 y)) e7 (x14.1,x14.2.1,x14.2.2.1,x14.2.2.2.1))⟩,⟨(ent_some .i64 (fun y=>AV.agg (e_i64_Lu8i64E_b_i64 y)) e7 (.agg [(.int .i64 0),(.sl 2 (List.map e_u8_i64 [])),(.bool false),(.int .i64 0)]))⟩,⟨(idx_enc .i64 (fun y=>AV.agg (e_i64_Lu8i64E_b_i64 y)) x11 x6)⟩,⟨(look_some .i64 (fun y=>AV.agg (e_i64_Lu8i64E_b_i64 y)) e7)⟩,⟨(nF c5)⟩,⟨(ok_part_Add k x1 x2 x3 x4 x7 x8 _ e4)⟩,⟨c3⟩,⟨(nF c2)⟩,⟨(ok_lock_Take k x10 x6 x7 (eqI x5 3) _ e1)⟩,⟨(nF c0)⟩] (by kernel_rfl)
         rw[if_neg c6] at h;replace c6:=eqf c6
         obtain rfl:=osi h
         exact Tri.of (x:=(X37_7 x9 x10 x11 x12)) mixed facts37 [df,(A37_7_0 x13),df,dt,(A37_7_1 x14),df,.opt none,.n (mIx x11 x6),.ents (encM .i64 (fun y=>AV.agg (e_i64_Lu8i64E_b_i64 y)) (mPut x11 x6 (0,[],false,0))) (mPut x11 x6 (0,[],false,0)).length,.ents (encM .i64 (fun y=>AV.agg (e_i64_Lu8i64E_b_i64 y)) (mPut x11 x6 (x14.1,x14.2.1,x14.2.2.1,x14.2.2.2.1))) (mPut x11 x6 (x14.1,x14.2.1,x14.2.2.1,x14.2.2.2.1)).length,A37_7_2] [⟨(sb_none .i64 (fun y=>AV.agg (e_i64_Lu8i64E_b_i64 y)) (l:=x11) (q:=x6) (0,[],false,0) (x14.1,x14.2.1,x14.2.2.1,x14.2.2.2.1))⟩,⟨(ent_none .i64 (fun y=>AV.agg (e_i64_Lu8i64E_b_i64 y)) c6 (0,[],false,0))⟩,⟨(idx_enc .i64 (fun y=>AV.agg (e_i64_Lu8i64E_b_i64 y)) x11 x6)⟩,⟨(look_none .i64 (fun y=>AV.agg (e_i64_Lu8i64E_b_i64 y)) c6)⟩,⟨(nF c5)⟩,⟨(ok_part_Add k x1 x2 x3 x4 x7 x8 _ e4)⟩,⟨c3⟩,⟨(nF c2)⟩,⟨(ok_lock_Take k x10 x6 x7 (eqI x5 3) _ e1)⟩,⟨(nF c0)⟩] (by kernel_rfl)
       rw[if_neg c5] at h;replace c5:=eqf c5
       obtain rfl:=osi h
       exact Tri.of (x:=(X37_7 x9 x10 x11 x12)) mixed facts37 [df,(A37_7_0 x13),df,dt,(A37_7_1 x14),dt,A37_7_2] [⟨(nT c5)⟩,⟨(ok_part_Add k x1 x2 x3 x4 x7 x8 _ e4)⟩,⟨c3⟩,⟨(nF c2)⟩,⟨(ok_lock_Take k x10 x6 x7 (eqI x5 3) _ e1)⟩,⟨(nF c0)⟩] (by kernel_rfl)
     rw[if_neg c3] at h;replace c3:=eqf c3
     obtain⟨x14,e4,h⟩:=bsm h
     obtain⟨x16,e5,h⟩:=bsm h
     obtain rfl:=osi h
     exact Tri.of (x:=(X37_7 x9 x10 x11 x12)) mixed facts37 [df,(A37_7_0 x13),df,df,.call ⟨true,[]⟩ (.int .i64 x14) [],.n x2.length,.norm 2 ⟨[(5,[]),(10,[]),(75,[]),(76,[]),(77,[])],[⟨.tmp 5,[],none⟩],false,[],[]⟩,.out (.st .normal (E37_7_0_0 x9 x11 x12 x13 x16)),A37_7_2] [⟨(LT.block (ok_site_Site_access_7_l0 x2 x5 x6 x7 x8 x9 x10 x11 x12 x13 _ k x14 0 e5))⟩,⟨(len_map e_u8_i64 x2)⟩,⟨(ok_ledger_Get k x9 x7 _ e4)⟩,⟨c3⟩,⟨(nF c2)⟩,⟨(ok_lock_Take k x10 x6 x7 (eqI x5 3) _ e1)⟩,⟨(nF c0)⟩] (by kernel_rfl)
   rw[if_neg c2] at h;replace c2:=eqf c2
   obtain rfl:=osi h
   exact Tri.of (x:=(X37_7 x9 x10 x11 x12)) mixed facts37 [df,(A37_7_0 x13),dt,A37_7_2] [⟨(nT c2)⟩,⟨(ok_lock_Take k x10 x6 x7 (eqI x5 3) _ e1)⟩,⟨(nF c0)⟩] (by kernel_rfl)
 rw[if_neg c0] at h;replace c0:=eqf c0
 obtain rfl:=osi h
 exact Tri.of (x:=(X37_7 x9 x10 x11 x12)) mixed facts37 [dt,A37_7_2] [⟨(nT c0)⟩] (by kernel_rfl)
end Go.Ws

namespace Go.Ws
open Go.Proofs
set_option linter.unusedSimpArgs false
set_option linter.unusedVariables false
set_option maxRecDepth 1000000
set_option maxHeartbeats 4000000
noncomputable def X38_7 (x9:Ty16) (x10:Ty12) (x11:Ty6) (x12:Ty11):Ctx:=⟨Try.f38,[(.row [(.sl 2 (List.map e_u8_i64 x9)),(.sl 3 (List.map e_u8_i64_b x10)),(.mp 1),(.ref 4 2 4 0 x12.length .virt)]),(.map (encM .i64 (fun y=>AV.agg (e_i64_Lu8i64E_b_i64 y)) x11) x11.length),(.arr 4 (List.map e_i64_i64_u8_i64 x12) 4 4 true)],false⟩
def A38_7_0 (x13:Int × Ty16 × Bool × Int × Int):Ans:=.call ⟨true,[]⟩ (.tup [(.agg [(.int .i64 x13.1),(.sl 2 (List.map e_u8_i64 x13.2.1)),(.bool x13.2.2.1),(.int .i64 x13.2.2.2.1)]),(.int .i64 x13.2.2.2.2)]) []
def A38_7_1 (x15:Ty12):Ans:=.call ⟨true,[]⟩ (.sl 3 (List.map e_u8_i64_b x15)) []
def A38_7_2 (x13:Int × Ty16 × Bool × Int × Ty16 × Int):Ans:=.call ⟨true,[]⟩ (.tup [(.agg [(.int .i64 x13.1),(.sl 2 (List.map e_u8_i64 x13.2.1)),(.bool x13.2.2.1),(.int .i64 x13.2.2.2.1)]),(.sl 2 (List.map e_u8_i64 x13.2.2.2.2.1)),(.int .i64 x13.2.2.2.2.2)]) []
def A38_7_3 (x6:Int) (x11:Ty6) (x13:Int × Ty16 × Bool × Int × Ty16 × Int):Ans:=.ents (encM .i64 (fun y=>AV.agg (e_i64_Lu8i64E_b_i64 y)) (mPut x11 x6 (x13.1,x13.2.1,x13.2.2.1,x13.2.2.2.1))) (mPut x11 x6 (x13.1,x13.2.1,x13.2.2.1,x13.2.2.2.1)).length
def A38_7_4 (x14:Ty16 × Int):Ans:=.call ⟨true,[]⟩ (.tup [(.sl 2 (List.map e_u8_i64 x14.1)),(.int .i64 x14.2)]) []
theorem ok_site_Site_end_7 (k:Nat) (x1:Int) (x2:Ty16) (x3:Bool) (x4:Int) (x5:Int) (x6:Int) (x7:Int) (x8:Int) (x9:Ty16) (x10:Ty12) (x11:Ty6) (x12:Ty11) (r:Ty16 × Ty12 × Ty6 × Int) (h:site_Site_end_7 k x1 x2 x3 x4 x5 x6 x7 x8 x9 x10 x11 x12=some r):Tri Try.prog 38 [(.hp 0 0),(.agg [(.int .i64 x1),(.sl 2 (List.map e_u8_i64 x2)),(.bool x3),(.int .i64 x4)]),(.agg [(.int .i64 x5),(.int .i64 x6),(.int .u8 x7),(.int .i64 x8)])] [(.row [(.sl 2 (List.map e_u8_i64 x9)),(.sl 3 (List.map e_u8_i64_b x10)),(.mp 1),(.ref 4 2 4 0 x12.length .virt)]),(.map (encM .i64 (fun y=>AV.agg (e_i64_Lu8i64E_b_i64 y)) x11) x11.length),(.arr 4 (List.map e_i64_i64_u8_i64 x12) 4 4 true)] (.int .i64 r.2.2.2) [(.row [(.sl 2 (List.map e_u8_i64 r.1)),(.sl 3 (List.map e_u8_i64_b r.2.1)),(.mp 1),(.ref 4 2 4 0 x12.length .virt)]),(.map (encM .i64 (fun y=>AV.agg (e_i64_Lu8i64E_b_i64 y)) r.2.2.1) r.2.2.1.length),(.arr 4 (List.map e_i64_i64_u8_i64 x12) 4 4 true)]:=by
 unfold site_Site_end_7 at h
 by_cases c0:eqI x5 4=true
 · rw[if_pos c0] at h
   obtain⟨x13,e1,h⟩:=bsm h
   by_cases c2:eqI x13.2.2.2.2 0=true
   · rw[if_pos c2] at h
     obtain⟨x14,e3,h⟩:=bsm h
     by_cases c4:eqI x13.1 2=true
     · rw[if_pos c4] at h
       obtain⟨x15,e5,h⟩:=bsm h
       obtain rfl:=osi h
       exact Tri.of (x:=(X38_7 x9 x10 x11 x12)) mixed facts38 [dt,(A38_7_0 x13),df,.ents (encM .i64 (fun y=>AV.agg (e_i64_Lu8i64E_b_i64 y)) (mPut x11 x6 (x13.1,x13.2.1,x13.2.2.1,x13.2.2.2.1))) (mPut x11 x6 (x13.1,x13.2.1,x13.2.2.1,x13.2.2.2.1)).length,.call ⟨true,[[],[(0,2)]]⟩ (.tup [(.sl 2 (List.map e_u8_i64 x14.1)),(.int .i64 x14.2)]) [],df,df,df,df,dt,(A38_7_1 x15),.norm 0 ⟨[(6,[])],[],false,[],[]⟩] [⟨(ok_lock_Free k x10 x6 _ e5)⟩,⟨c4⟩,⟨(nF c0)⟩,⟨(nF c0)⟩,⟨(nF c0)⟩,⟨(nF c0)⟩,⟨(ok_ledger_Put k x9 [] _ e3)⟩,⟨(put_enc .i64 (fun y=>AV.agg (e_i64_Lu8i64E_b_i64 y)) x11 x6 (x13.1,x13.2.1,x13.2.2.1,x13.2.2.2.1))⟩,⟨(nF c2)⟩,⟨(ok_part_Vote k x1 x2 x3 x4 (!eqI x8 0) _ e1)⟩,⟨c0⟩] (by kernel_rfl)
     rw[if_neg c4] at h;replace c4:=eqf c4
     obtain rfl:=osi h
     exact Tri.of (x:=(X38_7 x9 x10 x11 x12)) mixed facts38 [dt,(A38_7_0 x13),df,.ents (encM .i64 (fun y=>AV.agg (e_i64_Lu8i64E_b_i64 y)) (mPut x11 x6 (x13.1,x13.2.1,x13.2.2.1,x13.2.2.2.1))) (mPut x11 x6 (x13.1,x13.2.1,x13.2.2.1,x13.2.2.2.1)).length,.call ⟨true,[[],[(0,2)]]⟩ (.tup [(.sl 2 (List.map e_u8_i64 x14.1)),(.int .i64 x14.2)]) [],df,df,df,df,df,.norm 0 ⟨[(6,[])],[],false,[],[]⟩] [⟨c4⟩,⟨(nF c0)⟩,⟨(nF c0)⟩,⟨(nF c0)⟩,⟨(nF c0)⟩,⟨(ok_ledger_Put k x9 [] _ e3)⟩,⟨(put_enc .i64 (fun y=>AV.agg (e_i64_Lu8i64E_b_i64 y)) x11 x6 (x13.1,x13.2.1,x13.2.2.1,x13.2.2.2.1))⟩,⟨(nF c2)⟩,⟨(ok_part_Vote k x1 x2 x3 x4 (!eqI x8 0) _ e1)⟩,⟨c0⟩] (by kernel_rfl)
   rw[if_neg c2] at h;replace c2:=eqf c2
   obtain rfl:=osi h
   exact Tri.of (x:=(X38_7 x9 x10 x11 x12)) mixed facts38 [dt,(A38_7_0 x13),dt,.norm 0 ⟨[(6,[])],[],false,[],[]⟩] [⟨(nT c2)⟩,⟨(ok_part_Vote k x1 x2 x3 x4 (!eqI x8 0) _ e1)⟩,⟨c0⟩] (by kernel_rfl)
 rw[if_neg c0] at h;replace c0:=eqf c0
 by_cases c1:eqI x5 5=true
 · rw[if_pos c1] at h
   obtain⟨x13,e2,h⟩:=bsm h
   by_cases c3:eqI x13.2.2.2.2.2 0=true
   · rw[if_pos c3] at h
     obtain⟨x14,e4,h⟩:=bsm h
     obtain⟨x15,e5,h⟩:=bsm h
     obtain rfl:=osi h
     exact Tri.of (x:=(X38_7 x9 x10 x11 x12)) mixed facts38 [df,dt,(A38_7_2 x13),df,(A38_7_3 x6 x11 x13),(A38_7_4 x14),dt,dt,dt,dt,dt,(A38_7_1 x15),.norm 0 ⟨[(6,[])],[],false,[],[]⟩] [⟨(ok_lock_Free k x10 x6 _ e5)⟩,⟨rT⟩,⟨(nT c0)⟩,⟨(nT c0)⟩,⟨(nT c0)⟩,⟨(nT c0)⟩,⟨(ok_ledger_Put k x9 x13.2.2.2.2.1 _ e4)⟩,⟨(put_enc .i64 (fun y=>AV.agg (e_i64_Lu8i64E_b_i64 y)) x11 x6 (x13.1,x13.2.1,x13.2.2.1,x13.2.2.2.1))⟩,⟨(nF c3)⟩,⟨(ok_part_Local k x1 x2 x3 x4 _ e2)⟩,⟨c1⟩,⟨c0⟩] (by kernel_rfl)
   rw[if_neg c3] at h;replace c3:=eqf c3
   obtain rfl:=osi h
   exact Tri.of (x:=(X38_7 x9 x10 x11 x12)) mixed facts38 [df,dt,(A38_7_2 x13),dt,.norm 0 ⟨[(6,[])],[],false,[],[]⟩] [⟨(nT c3)⟩,⟨(ok_part_Local k x1 x2 x3 x4 _ e2)⟩,⟨c1⟩,⟨c0⟩] (by kernel_rfl)
 rw[if_neg c1] at h;replace c1:=eqf c1
 by_cases c2:eqI x8 1=true
 · rw[if_pos c2] at h
   obtain⟨x13,e3,h⟩:=bsm h
   by_cases c4:eqI x13.2.2.2.2.2 0=true
   · rw[if_pos c4] at h
     obtain⟨x14,e5,h⟩:=bsm h
     obtain⟨x15,e6,h⟩:=bsm h
     obtain rfl:=osi h
     exact Tri.of (x:=(X38_7 x9 x10 x11 x12)) mixed facts38 [df,df,dt,dt,dt,dt,dt,(A38_7_2 x13),df,(A38_7_3 x6 x11 x13),(A38_7_4 x14),dt,dt,dt,dt,dt,(A38_7_1 x15),.norm 0 ⟨[(6,[])],[],false,[],[]⟩] [⟨(ok_lock_Free k x10 x6 _ e6)⟩,⟨rT⟩,⟨(nT c0)⟩,⟨(nT c0)⟩,⟨(nT c0)⟩,⟨(nT c0)⟩,⟨(ok_ledger_Put k x9 x13.2.2.2.2.1 _ e5)⟩,⟨(put_enc .i64 (fun y=>AV.agg (e_i64_Lu8i64E_b_i64 y)) x11 x6 (x13.1,x13.2.1,x13.2.2.1,x13.2.2.2.1))⟩,⟨(nF c4)⟩,⟨(ok_part_Decide k x1 x2 x3 x4 x8 _ e3)⟩,⟨rT⟩,⟨c2⟩,⟨c2⟩,⟨c2⟩,⟨c2⟩,⟨c1⟩,⟨c0⟩] (by kernel_rfl)
   rw[if_neg c4] at h;replace c4:=eqf c4
   obtain rfl:=osi h
   exact Tri.of (x:=(X38_7 x9 x10 x11 x12)) mixed facts38 [df,df,dt,dt,dt,dt,dt,(A38_7_2 x13),dt,.norm 0 ⟨[(6,[])],[],false,[],[]⟩] [⟨(nT c4)⟩,⟨(ok_part_Decide k x1 x2 x3 x4 x8 _ e3)⟩,⟨rT⟩,⟨c2⟩,⟨c2⟩,⟨c2⟩,⟨c2⟩,⟨c1⟩,⟨c0⟩] (by kernel_rfl)
 rw[if_neg c2] at h;replace c2:=eqf c2
 by_cases c3:eqI x8 2=true
 · rw[if_pos c3] at h
   obtain⟨x13,e4,h⟩:=bsm h
   by_cases c5:eqI x13.2.2.2.2.2 0=true
   · rw[if_pos c5] at h
     obtain⟨x14,e6,h⟩:=bsm h
     obtain⟨x15,e7,h⟩:=bsm h
     obtain rfl:=osi h
     exact Tri.of (x:=(X38_7 x9 x10 x11 x12)) mixed facts38 [df,df,df,df,df,df,dt,(A38_7_2 x13),df,(A38_7_3 x6 x11 x13),(A38_7_4 x14),dt,dt,dt,dt,dt,(A38_7_1 x15),.norm 0 ⟨[(6,[])],[],false,[],[]⟩] [⟨(ok_lock_Free k x10 x6 _ e7)⟩,⟨rT⟩,⟨(nT c0)⟩,⟨(nT c0)⟩,⟨(nT c0)⟩,⟨(nT c0)⟩,⟨(ok_ledger_Put k x9 x13.2.2.2.2.1 _ e6)⟩,⟨(put_enc .i64 (fun y=>AV.agg (e_i64_Lu8i64E_b_i64 y)) x11 x6 (x13.1,x13.2.1,x13.2.2.1,x13.2.2.2.1))⟩,⟨(nF c5)⟩,⟨(ok_part_Decide k x1 x2 x3 x4 x8 _ e4)⟩,⟨c3⟩,⟨c2⟩,⟨c2⟩,⟨c2⟩,⟨c2⟩,⟨c1⟩,⟨c0⟩] (by kernel_rfl)
   rw[if_neg c5] at h;replace c5:=eqf c5
   obtain rfl:=osi h
   exact Tri.of (x:=(X38_7 x9 x10 x11 x12)) mixed facts38 [df,df,df,df,df,df,dt,(A38_7_2 x13),dt,.norm 0 ⟨[(6,[])],[],false,[],[]⟩] [⟨(nT c5)⟩,⟨(ok_part_Decide k x1 x2 x3 x4 x8 _ e4)⟩,⟨c3⟩,⟨c2⟩,⟨c2⟩,⟨c2⟩,⟨c2⟩,⟨c1⟩,⟨c0⟩] (by kernel_rfl)
 rw[if_neg c3] at h;replace c3:=eqf c3
 obtain rfl:=osi h
 exact Tri.of (x:=(X38_7 x9 x10 x11 x12)) mixed facts38 [df,df,df,df,df,df,df,dt,.norm 0 ⟨[(6,[])],[],false,[],[]⟩] [⟨(nT (rfl:eqI 2 0=false))⟩,⟨c3⟩,⟨c2⟩,⟨c2⟩,⟨c2⟩,⟨c2⟩,⟨c1⟩,⟨c0⟩] (by kernel_rfl)
end Go.Ws

namespace Go.Ws
open Go.Proofs
set_option linter.unusedSimpArgs false
set_option linter.unusedVariables false
set_option maxRecDepth 1000000
set_option maxHeartbeats 4000000
noncomputable def X27_7 (x9:Ty16) (x10:Ty12) (x11:Ty6) (x12:Ty11):Ctx:=⟨Try.f27,[(.row [(.sl 2 (List.map e_u8_i64 x9)),(.sl 3 (List.map e_u8_i64_b x10)),(.mp 1),(.ref 4 2 4 0 x12.length .virt)]),(.map (encM .i64 (fun y=>AV.agg (e_i64_Lu8i64E_b_i64 y)) x11) x11.length),(.arr 4 (List.map e_i64_i64_u8_i64 x12) 4 4 true)],false⟩
def A27_7_0:Ans:=.norm 0 ⟨[(6,[]),(7,[])],[],false,[],[]⟩
def A27_7_1 (x9:Ty16) (x12:Ty11) (x13:Ty12 × Ty6 × Int × Int):Ans:=.call ⟨true,[]⟩ (.tup [(.int .i64 x13.2.2.2),(.int .i64 x13.2.2.1)]) [(.row [(.sl 2 (List.map e_u8_i64 x9)),(.sl 3 (List.map e_u8_i64_b x13.1)),(.mp 1),(.ref 4 2 4 0 x12.length .virt)]),(.map (encM .i64 (fun y=>AV.agg (e_i64_Lu8i64E_b_i64 y)) x13.2.1) x13.2.1.length),(.arr 4 (List.map e_i64_i64_u8_i64 x12) 4 4 true)]
theorem ok_site_Site_step_7 (k:Nat) (x1:Int) (x2:Ty16) (x3:Bool) (x4:Int) (x5:Int) (x6:Int) (x7:Int) (x8:Int) (x9:Ty16) (x10:Ty12) (x11:Ty6) (x12:Ty11) (r:Int × Int × Ty12 × Ty6 × Ty16) (h:site_Site_step_7 k x1 x2 x3 x4 x5 x6 x7 x8 x9 x10 x11 x12=some r):Tri Try.prog 27 [(.hp 0 0),(.agg [(.int .i64 x1),(.sl 2 (List.map e_u8_i64 x2)),(.bool x3),(.int .i64 x4)]),(.agg [(.int .i64 x5),(.int .i64 x6),(.int .u8 x7),(.int .i64 x8)])] [(.row [(.sl 2 (List.map e_u8_i64 x9)),(.sl 3 (List.map e_u8_i64_b x10)),(.mp 1),(.ref 4 2 4 0 x12.length .virt)]),(.map (encM .i64 (fun y=>AV.agg (e_i64_Lu8i64E_b_i64 y)) x11) x11.length),(.arr 4 (List.map e_i64_i64_u8_i64 x12) 4 4 true)] (.tup [(.int .i64 r.1),(.int .i64 r.2.1)]) [(.row [(.sl 2 (List.map e_u8_i64 r.2.2.2.2)),(.sl 3 (List.map e_u8_i64_b r.2.2.1)),(.mp 1),(.ref 4 2 4 0 x12.length .virt)]),(.map (encM .i64 (fun y=>AV.agg (e_i64_Lu8i64E_b_i64 y)) r.2.2.2.1) r.2.2.2.1.length),(.arr 4 (List.map e_i64_i64_u8_i64 x12) 4 4 true)]:=by
 unfold site_Site_step_7 at h
 by_cases c0:eqI x5 1=true
 · rw[if_pos c0] at h
   obtain rfl:=osi h
   exact Tri.of (x:=(X27_7 x9 x10 x11 x12)) mixed facts27 [dt,.ents (encM .i64 (fun y=>AV.agg (e_i64_Lu8i64E_b_i64 y)) (mPut x11 x6 (x1,x2,x3,x4))) (mPut x11 x6 (x1,x2,x3,x4)).length,A27_7_0] [⟨(put_enc .i64 (fun y=>AV.agg (e_i64_Lu8i64E_b_i64 y)) x11 x6 (x1,x2,x3,x4))⟩,⟨c0⟩] (by kernel_rfl)
 rw[if_neg c0] at h;replace c0:=eqf c0
 by_cases c1:eqI x5 2=true
 · rw[if_pos c1] at h
   obtain⟨x13,e2,h⟩:=bsm h
   obtain rfl:=osi h
   exact Tri.of (x:=(X27_7 x9 x10 x11 x12)) mixed facts27 [df,dt,dt,(A27_7_1 x9 x12 x13),A27_7_0] [⟨(ok_site_Site_access_7 k x1 x2 x3 x4 x5 x6 x7 x8 x9 x10 x11 x12 _ e2)⟩,⟨c1⟩,⟨c1⟩,⟨c0⟩] (by kernel_rfl)
 rw[if_neg c1] at h;replace c1:=eqf c1
 by_cases c2:eqI x5 3=true
 · rw[if_pos c2] at h
   obtain⟨x13,e3,h⟩:=bsm h
   obtain rfl:=osi h
   exact Tri.of (x:=(X27_7 x9 x10 x11 x12)) mixed facts27 [df,df,dt,(A27_7_1 x9 x12 x13),A27_7_0] [⟨(ok_site_Site_access_7 k x1 x2 x3 x4 x5 x6 x7 x8 x9 x10 x11 x12 _ e3)⟩,⟨c2⟩,⟨c1⟩,⟨c0⟩] (by kernel_rfl)
 rw[if_neg c2] at h;replace c2:=eqf c2
 obtain⟨x13,e3,h⟩:=bsm h
 obtain rfl:=osi h
 exact Tri.of (x:=(X27_7 x9 x10 x11 x12)) mixed facts27 [df,df,df,.call ⟨true,[]⟩ (.int .i64 x13.2.2.2) [(.row [(.sl 2 (List.map e_u8_i64 x13.1)),(.sl 3 (List.map e_u8_i64_b x13.2.1)),(.mp 1),(.ref 4 2 4 0 x12.length .virt)]),(.map (encM .i64 (fun y=>AV.agg (e_i64_Lu8i64E_b_i64 y)) x13.2.2.1) x13.2.2.1.length),(.arr 4 (List.map e_i64_i64_u8_i64 x12) 4 4 true)],A27_7_0] [⟨(ok_site_Site_end_7 k x1 x2 x3 x4 x5 x6 x7 x8 x9 x10 x11 x12 _ e3)⟩,⟨c2⟩,⟨c1⟩,⟨c0⟩] (by kernel_rfl)
end Go.Ws

namespace Go.Ws
open Go.Proofs
set_option linter.unusedSimpArgs false
set_option linter.unusedVariables false
set_option maxRecDepth 1000000
set_option maxHeartbeats 4000000
noncomputable def X14_7 (x5:Ty16) (x6:Ty12) (x7:Ty6) (x8:Ty11):Ctx:=⟨Try.f14,[(.row [(.sl 2 (List.map e_u8_i64 x5)),(.sl 3 (List.map e_u8_i64_b x6)),(.mp 1),(.ref 4 2 4 0 x8.length .virt)]),(.map (encM .i64 (fun y=>AV.agg (e_i64_Lu8i64E_b_i64 y)) x7) x7.length),(.arr 4 (List.map e_i64_i64_u8_i64 x8) 4 4 true)],false⟩
def A14_7_0 (x5:Ty16) (x6:Ty12) (x7:Ty6) (x8:Ty11):Ans:=.call ⟨true,[]⟩ (.bool (!false)) [(.row [(.sl 2 (List.map e_u8_i64 x5)),(.sl 3 (List.map e_u8_i64_b x6)),(.mp 1),(.ref 4 2 4 0 x8.length .virt)]),(.map (encM .i64 (fun y=>AV.agg (e_i64_Lu8i64E_b_i64 y)) x7) x7.length),(.arr 4 (List.map e_i64_i64_u8_i64 x8) 4 4 true)]
def A14_7_1:Ans:=.norm 0 ⟨[(4,[]),(5,[])],[],false,[],[none,none,some 5]⟩
def A14_7_2 (x9:Int × Ty16 × Bool × Int):Ans:=.opt (some (.agg [(.int .i64 x9.1),(.sl 2 (List.map e_u8_i64 x9.2.1)),(.bool x9.2.2.1),(.int .i64 x9.2.2.2)]))
def A14_7_3 (x8:Ty11) (x10:Int × Int × Ty12 × Ty6 × Ty16):Ans:=.call ⟨true,[]⟩ (.tup [(.int .i64 x10.1),(.int .i64 x10.2.1)]) [(.row [(.sl 2 (List.map e_u8_i64 x10.2.2.2.2)),(.sl 3 (List.map e_u8_i64_b x10.2.2.1)),(.mp 1),(.ref 4 2 4 0 x8.length .virt)]),(.map (encM .i64 (fun y=>AV.agg (e_i64_Lu8i64E_b_i64 y)) x10.2.2.2.1) x10.2.2.2.1.length),(.arr 4 (List.map e_i64_i64_u8_i64 x8) 4 4 true)]
def A14_7_4 (x8:Ty11) (x9:Int × Int × Ty12 × Ty6 × Ty16):Ans:=.call ⟨true,[]⟩ (.tup [(.int .i64 x9.1),(.int .i64 x9.2.1)]) [(.row [(.sl 2 (List.map e_u8_i64 x9.2.2.2.2)),(.sl 3 (List.map e_u8_i64_b x9.2.2.1)),(.mp 1),(.ref 4 2 4 0 x8.length .virt)]),(.map (encM .i64 (fun y=>AV.agg (e_i64_Lu8i64E_b_i64 y)) x9.2.2.2.1) x9.2.2.2.1.length),(.arr 4 (List.map e_i64_i64_u8_i64 x8) 4 4 true)]
theorem ok_site_Site_Do_7 (k:Nat) (x1:Int) (x2:Int) (x3:Int) (x4:Int) (x5:Ty16) (x6:Ty12) (x7:Ty6) (x8:Ty11) (r:Int × Int × Ty16 × Ty12 × Ty6 × Ty11) (h:site_Site_Do_7 k x1 x2 x3 x4 x5 x6 x7 x8=some r):Tri Try.prog 14 [(.hp 0 0),(.agg [(.int .i64 x1),(.int .i64 x2),(.int .u8 x3),(.int .i64 x4)])] [(.row [(.sl 2 (List.map e_u8_i64 x5)),(.sl 3 (List.map e_u8_i64_b x6)),(.mp 1),(.ref 4 2 4 0 x8.length .virt)]),(.map (encM .i64 (fun y=>AV.agg (e_i64_Lu8i64E_b_i64 y)) x7) x7.length),(.arr 4 (List.map e_i64_i64_u8_i64 x8) 4 4 true)] (.tup [(.int .i64 r.2.1),(.int .i64 r.1)]) [(.row [(.sl 2 (List.map e_u8_i64 r.2.2.1)),(.sl 3 (List.map e_u8_i64_b r.2.2.2.1)),(.mp 1),(.ref 4 2 5 0 r.2.2.2.2.2.length .virt)]),(.map (encM .i64 (fun y=>AV.agg (e_i64_Lu8i64E_b_i64 y)) r.2.2.2.2.1) r.2.2.2.2.1.length),(.arr 4 (List.map e_i64_i64_u8_i64 r.2.2.2.2.2) 5 5 true)]:=by
 unfold site_Site_Do_7 at h
 by_cases c0:ltI x1 1=true
 · rw[if_pos c0] at h
   obtain rfl:=osi h
   exact Tri.of (x:=(X14_7 x5 x6 x7 x8)) mixed facts14 [(A14_7_0 x5 x6 x7 x8),df,dt,dt,dt,dt,dt,dt,dt,dt,dt,dt,dt,dt,dt,A14_7_1] [⟨rT⟩,⟨rT⟩,⟨rT⟩,⟨rT⟩,⟨rT⟩,⟨rT⟩,⟨rT⟩,⟨rT⟩,⟨rT⟩,⟨c0⟩,⟨c0⟩,⟨c0⟩,⟨c0⟩,⟨(nF (nT rfl))⟩,⟨(ok_site_Site_good_7 x5 x6 x7 x8)⟩] (by kernel_rfl)
 rw[if_neg c0] at h;replace c0:=eqf c0
 by_cases c1:ltI 6 x1=true
 · rw[if_pos c1] at h
   obtain rfl:=osi h
   exact Tri.of (x:=(X14_7 x5 x6 x7 x8)) mixed facts14 [(A14_7_0 x5 x6 x7 x8),df,df,df,df,df,dt,dt,dt,dt,dt,dt,dt,dt,dt,A14_7_1] [⟨rT⟩,⟨rT⟩,⟨rT⟩,⟨rT⟩,⟨rT⟩,⟨c1⟩,⟨c1⟩,⟨c1⟩,⟨c1⟩,⟨c0⟩,⟨c0⟩,⟨c0⟩,⟨c0⟩,⟨(nF (nT rfl))⟩,⟨(ok_site_Site_good_7 x5 x6 x7 x8)⟩] (by kernel_rfl)
 rw[if_neg c1] at h;replace c1:=eqf c1
 by_cases c2:ltI x2 0=true
 · rw[if_pos c2] at h
   obtain rfl:=osi h
   exact Tri.of (x:=(X14_7 x5 x6 x7 x8)) mixed facts14 [(A14_7_0 x5 x6 x7 x8),df,df,df,df,df,df,df,df,df,dt,dt,dt,dt,dt,A14_7_1] [⟨rT⟩,⟨c2⟩,⟨c2⟩,⟨c2⟩,⟨c2⟩,⟨c1⟩,⟨c1⟩,⟨c1⟩,⟨c1⟩,⟨c0⟩,⟨c0⟩,⟨c0⟩,⟨c0⟩,⟨(nF (nT rfl))⟩,⟨(ok_site_Site_good_7 x5 x6 x7 x8)⟩] (by kernel_rfl)
 rw[if_neg c2] at h;replace c2:=eqf c2
 by_cases c3:ltI x2 1000=true
 · rw[if_pos c3] at h
   by_cases c4:mHas x7 x2=true
   · rw[if_pos c4] at h
     obtain⟨x9,e5,h⟩:=bsm h
     by_cases c6:eqB true (eqI x1 1)=true
     · rw[if_pos c6] at h
       obtain rfl:=osi h
       exact Tri.of (x:=(X14_7 x5 x6 x7 x8)) mixed facts14 [(A14_7_0 x5 x6 x7 x8),df,df,df,df,df,df,df,df,df,df,df,df,df,df,(A14_7_2 x9),dt,dt,A14_7_1] [⟨rT⟩,⟨c6⟩,⟨(look_some .i64 (fun y=>AV.agg (e_i64_Lu8i64E_b_i64 y)) e5)⟩,⟨(nF c3)⟩,⟨c2⟩,⟨c2⟩,⟨c2⟩,⟨c2⟩,⟨c1⟩,⟨c1⟩,⟨c1⟩,⟨c1⟩,⟨c0⟩,⟨c0⟩,⟨c0⟩,⟨c0⟩,⟨(nF (nT rfl))⟩,⟨(ok_site_Site_good_7 x5 x6 x7 x8)⟩] (by kernel_rfl)
     rw[if_neg c6] at h;replace c6:=eqf c6
     obtain⟨x10,e7,h⟩:=bsm h
     by_cases c8:eqI x10.2.1 0=true
     · rw[if_pos c8] at h
       by_cases c9:roomI (((x8++[(x1,x2,x3,x4)]).length)*32)=true
       · rw[if_pos c9] at h
         obtain rfl:=osi h
         exact Tri.of (x:=(X14_7 x5 x6 x7 x8)) mixed facts14 [(A14_7_0 x5 x6 x7 x8),df,df,df,df,df,df,df,df,df,df,df,df,df,df,(A14_7_2 x9),df,(A14_7_3 x8 x10),df,.rows (List.map e_i64_i64_u8_i64 [(x1,x2,x3,x4)]),.n ((x8++[(x1,x2,x3,x4)]).length),.n x8.length,dt,.rows (List.map e_i64_i64_u8_i64 (x8++[(x1,x2,x3,x4)])),A14_7_1] [⟨(app_map e_i64_i64_u8_i64 x8 [(x1,x2,x3,x4)])⟩,⟨(eqN_self x8.length)⟩,⟨(len_map e_i64_i64_u8_i64 x8)⟩,⟨c9⟩,⟨(by simp only[wl,List.length_map,List.map_nil,List.map_cons]<;>omega:x8.length+(List.map e_i64_i64_u8_i64 [(x1,x2,x3,x4)]).length=(x8++[(x1,x2,x3,x4)]).length)⟩,⟨(part_all e_i64_i64_u8_i64 (l:=[(x1,x2,x3,x4)]) (n:=1) rfl)⟩,⟨(le_map e_i64_i64_u8_i64 (Nat.le_refl 1):0+1≤(List.map e_i64_i64_u8_i64 [(x1,x2,x3,x4)]).length)⟩,⟨(nF c8)⟩,⟨(ok_site_Site_step_7 k x9.1 x9.2.1 x9.2.2.1 x9.2.2.2 x1 x2 x3 x4 x5 x6 x7 x8 _ e7)⟩,⟨c6⟩,⟨(look_some .i64 (fun y=>AV.agg (e_i64_Lu8i64E_b_i64 y)) e5)⟩,⟨(nF c3)⟩,⟨c2⟩,⟨c2⟩,⟨c2⟩,⟨c2⟩,⟨c1⟩,⟨c1⟩,⟨c1⟩,⟨c1⟩,⟨c0⟩,⟨c0⟩,⟨c0⟩,⟨c0⟩,⟨(nF (nT rfl))⟩,⟨(ok_site_Site_good_7 x5 x6 x7 x8)⟩] (by kernel_rfl)
       rw[if_neg c9] at h;replace c9:=eqf c9
       cases h
     rw[if_neg c8] at h;replace c8:=eqf c8
     obtain rfl:=osi h
     exact Tri.of (x:=(X14_7 x5 x6 x7 x8)) mixed facts14 [(A14_7_0 x5 x6 x7 x8),df,df,df,df,df,df,df,df,df,df,df,df,df,df,(A14_7_2 x9),df,(A14_7_3 x8 x10),dt,A14_7_1] [⟨(nT c8)⟩,⟨(ok_site_Site_step_7 k x9.1 x9.2.1 x9.2.2.1 x9.2.2.2 x1 x2 x3 x4 x5 x6 x7 x8 _ e7)⟩,⟨c6⟩,⟨(look_some .i64 (fun y=>AV.agg (e_i64_Lu8i64E_b_i64 y)) e5)⟩,⟨(nF c3)⟩,⟨c2⟩,⟨c2⟩,⟨c2⟩,⟨c2⟩,⟨c1⟩,⟨c1⟩,⟨c1⟩,⟨c1⟩,⟨c0⟩,⟨c0⟩,⟨c0⟩,⟨c0⟩,⟨(nF (nT rfl))⟩,⟨(ok_site_Site_good_7 x5 x6 x7 x8)⟩] (by kernel_rfl)
   rw[if_neg c4] at h;replace c4:=eqf c4
   by_cases c5:eqB false (eqI x1 1)=true
   · rw[if_pos c5] at h
     obtain rfl:=osi h
     exact Tri.of (x:=(X14_7 x5 x6 x7 x8)) mixed facts14 [(A14_7_0 x5 x6 x7 x8),df,df,df,df,df,df,df,df,df,df,df,df,df,df,.opt none,dt,df,A14_7_1] [⟨rF⟩,⟨c5⟩,⟨(look_none .i64 (fun y=>AV.agg (e_i64_Lu8i64E_b_i64 y)) c4)⟩,⟨(nF c3)⟩,⟨c2⟩,⟨c2⟩,⟨c2⟩,⟨c2⟩,⟨c1⟩,⟨c1⟩,⟨c1⟩,⟨c1⟩,⟨c0⟩,⟨c0⟩,⟨c0⟩,⟨c0⟩,⟨(nF (nT rfl))⟩,⟨(ok_site_Site_good_7 x5 x6 x7 x8)⟩] (by kernel_rfl)
   rw[if_neg c5] at h;replace c5:=eqf c5
   obtain⟨x9,e6,h⟩:=bsm h
   by_cases c7:eqI x9.2.1 0=true
   · rw[if_pos c7] at h
     by_cases c8:roomI (((x8++[(x1,x2,x3,x4)]).length)*32)=true
     · rw[if_pos c8] at h
       obtain rfl:=osi h
       exact Tri.of (x:=(X14_7 x5 x6 x7 x8)) mixed facts14 [(A14_7_0 x5 x6 x7 x8),df,df,df,df,df,df,df,df,df,df,df,df,df,df,.opt none,df,(A14_7_4 x8 x9),df,.rows (List.map e_i64_i64_u8_i64 [(x1,x2,x3,x4)]),.n ((x8++[(x1,x2,x3,x4)]).length),.n x8.length,dt,.rows (List.map e_i64_i64_u8_i64 (x8++[(x1,x2,x3,x4)])),A14_7_1] [⟨(app_map e_i64_i64_u8_i64 x8 [(x1,x2,x3,x4)])⟩,⟨(eqN_self x8.length)⟩,⟨(len_map e_i64_i64_u8_i64 x8)⟩,⟨c8⟩,⟨(by simp only[wl,List.length_map,List.map_nil,List.map_cons]<;>omega:x8.length+(List.map e_i64_i64_u8_i64 [(x1,x2,x3,x4)]).length=(x8++[(x1,x2,x3,x4)]).length)⟩,⟨(part_all e_i64_i64_u8_i64 (l:=[(x1,x2,x3,x4)]) (n:=1) rfl)⟩,⟨(le_map e_i64_i64_u8_i64 (Nat.le_refl 1):0+1≤(List.map e_i64_i64_u8_i64 [(x1,x2,x3,x4)]).length)⟩,⟨(nF c7)⟩,⟨(ok_site_Site_step_7 k 0 [] false 0 x1 x2 x3 x4 x5 x6 x7 x8 _ e6)⟩,⟨c5⟩,⟨(look_none .i64 (fun y=>AV.agg (e_i64_Lu8i64E_b_i64 y)) c4)⟩,⟨(nF c3)⟩,⟨c2⟩,⟨c2⟩,⟨c2⟩,⟨c2⟩,⟨c1⟩,⟨c1⟩,⟨c1⟩,⟨c1⟩,⟨c0⟩,⟨c0⟩,⟨c0⟩,⟨c0⟩,⟨(nF (nT rfl))⟩,⟨(ok_site_Site_good_7 x5 x6 x7 x8)⟩] (by kernel_rfl)
     rw[if_neg c8] at h;replace c8:=eqf c8
     cases h
   rw[if_neg c7] at h;replace c7:=eqf c7
   obtain rfl:=osi h
   exact Tri.of (x:=(X14_7 x5 x6 x7 x8)) mixed facts14 [(A14_7_0 x5 x6 x7 x8),df,df,df,df,df,df,df,df,df,df,df,df,df,df,.opt none,df,(A14_7_4 x8 x9),dt,A14_7_1] [⟨(nT c7)⟩,⟨(ok_site_Site_step_7 k 0 [] false 0 x1 x2 x3 x4 x5 x6 x7 x8 _ e6)⟩,⟨c5⟩,⟨(look_none .i64 (fun y=>AV.agg (e_i64_Lu8i64E_b_i64 y)) c4)⟩,⟨(nF c3)⟩,⟨c2⟩,⟨c2⟩,⟨c2⟩,⟨c2⟩,⟨c1⟩,⟨c1⟩,⟨c1⟩,⟨c1⟩,⟨c0⟩,⟨c0⟩,⟨c0⟩,⟨c0⟩,⟨(nF (nT rfl))⟩,⟨(ok_site_Site_good_7 x5 x6 x7 x8)⟩] (by kernel_rfl)
 rw[if_neg c3] at h;replace c3:=eqf c3
 obtain rfl:=osi h
 exact Tri.of (x:=(X14_7 x5 x6 x7 x8)) mixed facts14 [(A14_7_0 x5 x6 x7 x8),df,df,df,df,df,df,df,df,df,df,df,df,df,dt,A14_7_1] [⟨(nT c3)⟩,⟨c2⟩,⟨c2⟩,⟨c2⟩,⟨c2⟩,⟨c1⟩,⟨c1⟩,⟨c1⟩,⟨c1⟩,⟨c0⟩,⟨c0⟩,⟨c0⟩,⟨c0⟩,⟨(nF (nT rfl))⟩,⟨(ok_site_Site_good_7 x5 x6 x7 x8)⟩] (by kernel_rfl)
end Go.Ws

namespace Go.Ws
open Go.Proofs
set_option linter.unusedSimpArgs false
set_option linter.unusedVariables false
set_option maxRecDepth 1000000
set_option maxHeartbeats 4000000
noncomputable def X6:Ctx:=⟨Try.f6,[],true⟩
def A6_0 (x6:Ty16 × Ty12 × Ty6 × Ty11):Ans:=.call ⟨true,[]⟩ (.hp 0 0) [(.row [(.sl 2 (List.map e_u8_i64 x6.1)),(.sl 3 (List.map e_u8_i64_b x6.2.1)),(.mp 1),(.ref 4 2 0 0 x6.2.2.2.length .virt)]),(.map (encM .i64 (fun y=>AV.agg (e_i64_Lu8i64E_b_i64 y)) x6.2.2.1) x6.2.2.1.length),(.arr 4 (List.map e_i64_i64_u8_i64 x6.2.2.2) 0 0 true)]
def A6_1 (x6:Ty16 × Ty12 × Ty6 × Ty11) (x7:Int × Bool × Int × Ty16 × Bool):Ans:=.call ⟨true,[]⟩ (.tup [(.agg [(.int .i64 x7.1),(.ref 2 3 0 0 x7.2.2.2.1.length .virt),(.bool x7.2.1),(.int .i64 x7.2.2.1)]),(.bool x7.2.2.2.2)]) [(.row [(.sl 2 (List.map e_u8_i64 x6.1)),(.sl 3 (List.map e_u8_i64_b x6.2.1)),(.mp 1),(.ref 4 2 0 0 x6.2.2.2.length .virt)]),(.map (encM .i64 (fun y=>AV.agg (e_i64_Lu8i64E_b_i64 y)) x6.2.2.1) x6.2.2.1.length),(.arr 4 (List.map e_i64_i64_u8_i64 x6.2.2.2) 0 0 true),(.arr 2 (List.map e_u8_i64 x7.2.2.2.1) 0 0 false)]
def A6_2 (x6:Ty16 × Ty12 × Ty6 × Ty11) (x8:Int × Bool × Int × Ty16 × Bool):Ans:=.call ⟨true,[]⟩ (.tup [(.agg [(.int .i64 x8.1),(.ref 2 3 0 0 x8.2.2.2.1.length .virt),(.bool x8.2.1),(.int .i64 x8.2.2.1)]),(.bool x8.2.2.2.2)]) [(.row [(.sl 2 (List.map e_u8_i64 x6.1)),(.sl 3 (List.map e_u8_i64_b x6.2.1)),(.mp 1),(.ref 4 2 0 0 x6.2.2.2.length .virt)]),(.map (encM .i64 (fun y=>AV.agg (e_i64_Lu8i64E_b_i64 y)) x6.2.2.1) x6.2.2.1.length),(.arr 4 (List.map e_i64_i64_u8_i64 x6.2.2.2) 0 0 true),(.arr 2 (List.map e_u8_i64 x8.2.2.2.1) 0 0 false)]
def A6_3 (x9:Int × Int × Ty16 × Ty12 × Ty6 × Ty11):Ans:=.call ⟨true,[]⟩ (.tup [(.int .i64 x9.2.1),(.int .i64 x9.1)]) [(.row [(.sl 2 (List.map e_u8_i64 x9.2.2.1)),(.sl 3 (List.map e_u8_i64_b x9.2.2.2.1)),(.mp 1),(.ref 4 2 1 0 x9.2.2.2.2.2.length .virt)]),(.map (encM .i64 (fun y=>AV.agg (e_i64_Lu8i64E_b_i64 y)) x9.2.2.2.2.1) x9.2.2.2.2.1.length),(.arr 4 (List.map e_i64_i64_u8_i64 x9.2.2.2.2.2) 1 1 true)]
def A6_4 (x10:Int × Int × Ty16 × Ty12 × Ty6 × Ty11):Ans:=.call ⟨true,[]⟩ (.tup [(.int .i64 x10.2.1),(.int .i64 x10.1)]) [(.row [(.sl 2 (List.map e_u8_i64 x10.2.2.1)),(.sl 3 (List.map e_u8_i64_b x10.2.2.2.1)),(.mp 1),(.ref 4 2 2 0 x10.2.2.2.2.2.length .virt)]),(.map (encM .i64 (fun y=>AV.agg (e_i64_Lu8i64E_b_i64 y)) x10.2.2.2.2.1) x10.2.2.2.2.1.length),(.arr 4 (List.map e_i64_i64_u8_i64 x10.2.2.2.2.2) 2 2 true)]
def A6_5 (x11:Int × Int × Ty16 × Ty12 × Ty6 × Ty11):Ans:=.call ⟨true,[]⟩ (.tup [(.int .i64 x11.2.1),(.int .i64 x11.1)]) [(.row [(.sl 2 (List.map e_u8_i64 x11.2.2.1)),(.sl 3 (List.map e_u8_i64_b x11.2.2.2.1)),(.mp 1),(.ref 4 2 3 0 x11.2.2.2.2.2.length .virt)]),(.map (encM .i64 (fun y=>AV.agg (e_i64_Lu8i64E_b_i64 y)) x11.2.2.2.2.1) x11.2.2.2.2.1.length),(.arr 4 (List.map e_i64_i64_u8_i64 x11.2.2.2.2.2) 3 3 true)]
def A6_6 (x12:Int × Int × Ty16 × Ty12 × Ty6 × Ty11):Ans:=.call ⟨true,[]⟩ (.tup [(.int .i64 x12.2.1),(.int .i64 x12.1)]) [(.row [(.sl 2 (List.map e_u8_i64 x12.2.2.1)),(.sl 3 (List.map e_u8_i64_b x12.2.2.2.1)),(.mp 1),(.ref 4 2 4 0 x12.2.2.2.2.2.length .virt)]),(.map (encM .i64 (fun y=>AV.agg (e_i64_Lu8i64E_b_i64 y)) x12.2.2.2.2.1) x12.2.2.2.2.1.length),(.arr 4 (List.map e_i64_i64_u8_i64 x12.2.2.2.2.2) 4 4 true)]
theorem ok_law10_SiteAlone (k:Nat) (x1:Ty11) (x2:Int) (x3:Int) (x4:Int) (r:Bool) (h:law10_SiteAlone k x1 x2 x3 x4=some r):Tri Try.prog 6 [(.sl 4 (List.map e_i64_i64_u8_i64 x1)),(.agg [(.int .u8 x2),(.int .u8 x3),(.int .u8 x4)])] [] (.bool r) []:=by
 unfold law10_SiteAlone at h
 obtain⟨x5,e0,h⟩:=bsm h
 by_cases c1:x5=true
 · rw[if_pos c1] at h
   obtain⟨x6,e2,h⟩:=bsm h
   obtain⟨x7,e3,h⟩:=bsm h
   obtain⟨x8,e4,h⟩:=bsm h
   by_cases c5:x7.2.2.2.2=true
   · rw[if_pos c5] at h
     by_cases c6:x8.2.2.2.2=true
     · rw[if_pos c6] at h
       by_cases c7:eqI (conv .i64 x2) (conv .i64 x3)=true
       · rw[if_pos c7] at h
         obtain rfl:=osi h
         exact Tri.of (x:=X6) mixed facts6 [.call ⟨true,[]⟩ (.bool x5) [],df,(A6_0 x6),df,(A6_1 x6 x7),(A6_2 x6 x8),df,df,df,df,df,df,df,dt,dt,dt,dt,dt,dt,dt,dt,dt] [⟨rT⟩,⟨rT⟩,⟨rT⟩,⟨rT⟩,⟨rT⟩,⟨c7⟩,⟨c7⟩,⟨c7⟩,⟨c7⟩,⟨(nF c6)⟩,⟨(nF c6)⟩,⟨(nF c6)⟩,⟨(nF c6)⟩,⟨(nF c5)⟩,⟨(nF c5)⟩,⟨(nF c5)⟩,⟨(ok_site_Site_Part k (conv .i64 x3) x6.1 x6.2.1 x6.2.2.1 x6.2.2.2 _ e4)⟩,⟨(ok_site_Site_Part k (conv .i64 x2) x6.1 x6.2.1 x6.2.2.1 x6.2.2.2 _ e3)⟩,⟨rF⟩,⟨(ok_law10_played k x1 _ e2)⟩,⟨(nF c1)⟩,⟨(ok_law10_alive k _ e0)⟩] (by kernel_rfl)
       rw[if_neg c7] at h;replace c7:=eqf c7
       by_cases c8:eqI x7.1 0=true
       · rw[if_pos c8] at h
         by_cases c9:eqI x8.1 0=true
         · rw[if_pos c9] at h
           obtain⟨x9,e10,h⟩:=bsm h
           by_cases c11:eqI x9.1 0=true
           · rw[if_pos c11] at h
             obtain⟨x10,e12,h⟩:=bsm h
             obtain⟨x11,e13,h⟩:=bsm h
             by_cases c14:eqI x10.1 9=true
             · rw[if_pos c14] at h
               by_cases c15:eqI x11.1 9=true
               · rw[if_pos c15] at h
                 obtain⟨x12,e16,h⟩:=bsm h
                 by_cases c17:eqI x12.1 0=true
                 · rw[if_pos c17] at h
                   obtain⟨x13,e18,h⟩:=bsm h
                   obtain rfl:=osi h
                   exact Tri.of (x:=X6) mixed facts6 [.call ⟨true,[]⟩ (.bool x5) [],df,(A6_0 x6),df,(A6_1 x6 x7),(A6_2 x6 x8),df,df,df,df,df,df,df,df,df,df,df,df,df,df,df,df,(A6_3 x9),df,(A6_4 x10),(A6_5 x11),df,df,df,df,(A6_6 x12),df,.call ⟨true,[]⟩ (.tup [(.int .i64 x13.2.1),(.int .i64 x13.1)]) [(.row [(.sl 2 (List.map e_u8_i64 x13.2.2.1)),(.sl 3 (List.map e_u8_i64_b x13.2.2.2.1)),(.mp 1),(.ref 4 2 5 0 x13.2.2.2.2.2.length .virt)]),(.map (encM .i64 (fun y=>AV.agg (e_i64_Lu8i64E_b_i64 y)) x13.2.2.2.2.1) x13.2.2.2.2.1.length),(.arr 4 (List.map e_i64_i64_u8_i64 x13.2.2.2.2.2) 5 5 true)]] [⟨(ok_site_Site_Do_7 k 2 (conv .i64 x3) x4 0 x12.2.2.1 x12.2.2.2.1 x12.2.2.2.2.1 x12.2.2.2.2.2 _ e18)⟩,⟨(nF c17)⟩,⟨(ok_site_Site_Do_6 k 6 (conv .i64 x2) 0 2 x11.2.2.1 x11.2.2.2.1 x11.2.2.2.2.1 x11.2.2.2.2.2 _ e16)⟩,⟨(nF c15)⟩,⟨(nF c14)⟩,⟨(nF c14)⟩,⟨(nF c14)⟩,⟨(ok_site_Site_Do_5 k 3 (conv .i64 x3) x4 1 x10.2.2.1 x10.2.2.2.1 x10.2.2.2.2.1 x10.2.2.2.2.2 _ e13)⟩,⟨(ok_site_Site_Do_4 k 2 (conv .i64 x3) x4 0 x9.2.2.1 x9.2.2.2.1 x9.2.2.2.2.1 x9.2.2.2.2.2 _ e12)⟩,⟨(nF c11)⟩,⟨(ok_site_Site_Do_3 k 3 (conv .i64 x2) x4 1 x6.1 x6.2.1 x6.2.2.1 x6.2.2.2 _ e10)⟩,⟨(nF c9)⟩,⟨(nF c8)⟩,⟨(nF c8)⟩,⟨(nF c8)⟩,⟨(nF c8)⟩,⟨c7⟩,⟨c7⟩,⟨c7⟩,⟨c7⟩,⟨(nF c6)⟩,⟨(nF c6)⟩,⟨(nF c6)⟩,⟨(nF c6)⟩,⟨(nF c5)⟩,⟨(nF c5)⟩,⟨(nF c5)⟩,⟨(ok_site_Site_Part k (conv .i64 x3) x6.1 x6.2.1 x6.2.2.1 x6.2.2.2 _ e4)⟩,⟨(ok_site_Site_Part k (conv .i64 x2) x6.1 x6.2.1 x6.2.2.1 x6.2.2.2 _ e3)⟩,⟨rF⟩,⟨(ok_law10_played k x1 _ e2)⟩,⟨(nF c1)⟩,⟨(ok_law10_alive k _ e0)⟩] (by kernel_rfl)
                 rw[if_neg c17] at h;replace c17:=eqf c17
                 obtain rfl:=osi h
                 exact Tri.of (x:=X6) mixed facts6 [.call ⟨true,[]⟩ (.bool x5) [],df,(A6_0 x6),df,(A6_1 x6 x7),(A6_2 x6 x8),df,df,df,df,df,df,df,df,df,df,df,df,df,df,df,df,(A6_3 x9),df,(A6_4 x10),(A6_5 x11),df,df,df,df,(A6_6 x12),dt] [⟨(nT c17)⟩,⟨(ok_site_Site_Do_6 k 6 (conv .i64 x2) 0 2 x11.2.2.1 x11.2.2.2.1 x11.2.2.2.2.1 x11.2.2.2.2.2 _ e16)⟩,⟨(nF c15)⟩,⟨(nF c14)⟩,⟨(nF c14)⟩,⟨(nF c14)⟩,⟨(ok_site_Site_Do_5 k 3 (conv .i64 x3) x4 1 x10.2.2.1 x10.2.2.2.1 x10.2.2.2.2.1 x10.2.2.2.2.2 _ e13)⟩,⟨(ok_site_Site_Do_4 k 2 (conv .i64 x3) x4 0 x9.2.2.1 x9.2.2.2.1 x9.2.2.2.2.1 x9.2.2.2.2.2 _ e12)⟩,⟨(nF c11)⟩,⟨(ok_site_Site_Do_3 k 3 (conv .i64 x2) x4 1 x6.1 x6.2.1 x6.2.2.1 x6.2.2.2 _ e10)⟩,⟨(nF c9)⟩,⟨(nF c8)⟩,⟨(nF c8)⟩,⟨(nF c8)⟩,⟨(nF c8)⟩,⟨c7⟩,⟨c7⟩,⟨c7⟩,⟨c7⟩,⟨(nF c6)⟩,⟨(nF c6)⟩,⟨(nF c6)⟩,⟨(nF c6)⟩,⟨(nF c5)⟩,⟨(nF c5)⟩,⟨(nF c5)⟩,⟨(ok_site_Site_Part k (conv .i64 x3) x6.1 x6.2.1 x6.2.2.1 x6.2.2.2 _ e4)⟩,⟨(ok_site_Site_Part k (conv .i64 x2) x6.1 x6.2.1 x6.2.2.1 x6.2.2.2 _ e3)⟩,⟨rF⟩,⟨(ok_law10_played k x1 _ e2)⟩,⟨(nF c1)⟩,⟨(ok_law10_alive k _ e0)⟩] (by kernel_rfl)
               rw[if_neg c15] at h;replace c15:=eqf c15
               obtain rfl:=osi h
               exact Tri.of (x:=X6) mixed facts6 [.call ⟨true,[]⟩ (.bool x5) [],df,(A6_0 x6),df,(A6_1 x6 x7),(A6_2 x6 x8),df,df,df,df,df,df,df,df,df,df,df,df,df,df,df,df,(A6_3 x9),df,(A6_4 x10),(A6_5 x11),df,df,df,dt] [⟨(nT c15)⟩,⟨(nF c14)⟩,⟨(nF c14)⟩,⟨(nF c14)⟩,⟨(ok_site_Site_Do_5 k 3 (conv .i64 x3) x4 1 x10.2.2.1 x10.2.2.2.1 x10.2.2.2.2.1 x10.2.2.2.2.2 _ e13)⟩,⟨(ok_site_Site_Do_4 k 2 (conv .i64 x3) x4 0 x9.2.2.1 x9.2.2.2.1 x9.2.2.2.2.1 x9.2.2.2.2.2 _ e12)⟩,⟨(nF c11)⟩,⟨(ok_site_Site_Do_3 k 3 (conv .i64 x2) x4 1 x6.1 x6.2.1 x6.2.2.1 x6.2.2.2 _ e10)⟩,⟨(nF c9)⟩,⟨(nF c8)⟩,⟨(nF c8)⟩,⟨(nF c8)⟩,⟨(nF c8)⟩,⟨c7⟩,⟨c7⟩,⟨c7⟩,⟨c7⟩,⟨(nF c6)⟩,⟨(nF c6)⟩,⟨(nF c6)⟩,⟨(nF c6)⟩,⟨(nF c5)⟩,⟨(nF c5)⟩,⟨(nF c5)⟩,⟨(ok_site_Site_Part k (conv .i64 x3) x6.1 x6.2.1 x6.2.2.1 x6.2.2.2 _ e4)⟩,⟨(ok_site_Site_Part k (conv .i64 x2) x6.1 x6.2.1 x6.2.2.1 x6.2.2.2 _ e3)⟩,⟨rF⟩,⟨(ok_law10_played k x1 _ e2)⟩,⟨(nF c1)⟩,⟨(ok_law10_alive k _ e0)⟩] (by kernel_rfl)
             rw[if_neg c14] at h;replace c14:=eqf c14
             obtain rfl:=osi h
             exact Tri.of (x:=X6) mixed facts6 [.call ⟨true,[]⟩ (.bool x5) [],df,(A6_0 x6),df,(A6_1 x6 x7),(A6_2 x6 x8),df,df,df,df,df,df,df,df,df,df,df,df,df,df,df,df,(A6_3 x9),df,(A6_4 x10),(A6_5 x11),dt,dt,dt,dt] [⟨rT⟩,⟨(nT c14)⟩,⟨(nT c14)⟩,⟨(nT c14)⟩,⟨(ok_site_Site_Do_5 k 3 (conv .i64 x3) x4 1 x10.2.2.1 x10.2.2.2.1 x10.2.2.2.2.1 x10.2.2.2.2.2 _ e13)⟩,⟨(ok_site_Site_Do_4 k 2 (conv .i64 x3) x4 0 x9.2.2.1 x9.2.2.2.1 x9.2.2.2.2.1 x9.2.2.2.2.2 _ e12)⟩,⟨(nF c11)⟩,⟨(ok_site_Site_Do_3 k 3 (conv .i64 x2) x4 1 x6.1 x6.2.1 x6.2.2.1 x6.2.2.2 _ e10)⟩,⟨(nF c9)⟩,⟨(nF c8)⟩,⟨(nF c8)⟩,⟨(nF c8)⟩,⟨(nF c8)⟩,⟨c7⟩,⟨c7⟩,⟨c7⟩,⟨c7⟩,⟨(nF c6)⟩,⟨(nF c6)⟩,⟨(nF c6)⟩,⟨(nF c6)⟩,⟨(nF c5)⟩,⟨(nF c5)⟩,⟨(nF c5)⟩,⟨(ok_site_Site_Part k (conv .i64 x3) x6.1 x6.2.1 x6.2.2.1 x6.2.2.2 _ e4)⟩,⟨(ok_site_Site_Part k (conv .i64 x2) x6.1 x6.2.1 x6.2.2.1 x6.2.2.2 _ e3)⟩,⟨rF⟩,⟨(ok_law10_played k x1 _ e2)⟩,⟨(nF c1)⟩,⟨(ok_law10_alive k _ e0)⟩] (by kernel_rfl)
           rw[if_neg c11] at h;replace c11:=eqf c11
           obtain rfl:=osi h
           exact Tri.of (x:=X6) mixed facts6 [.call ⟨true,[]⟩ (.bool x5) [],df,(A6_0 x6),df,(A6_1 x6 x7),(A6_2 x6 x8),df,df,df,df,df,df,df,df,df,df,df,df,df,df,df,df,(A6_3 x9),dt] [⟨(nT c11)⟩,⟨(ok_site_Site_Do_3 k 3 (conv .i64 x2) x4 1 x6.1 x6.2.1 x6.2.2.1 x6.2.2.2 _ e10)⟩,⟨(nF c9)⟩,⟨(nF c8)⟩,⟨(nF c8)⟩,⟨(nF c8)⟩,⟨(nF c8)⟩,⟨c7⟩,⟨c7⟩,⟨c7⟩,⟨c7⟩,⟨(nF c6)⟩,⟨(nF c6)⟩,⟨(nF c6)⟩,⟨(nF c6)⟩,⟨(nF c5)⟩,⟨(nF c5)⟩,⟨(nF c5)⟩,⟨(ok_site_Site_Part k (conv .i64 x3) x6.1 x6.2.1 x6.2.2.1 x6.2.2.2 _ e4)⟩,⟨(ok_site_Site_Part k (conv .i64 x2) x6.1 x6.2.1 x6.2.2.1 x6.2.2.2 _ e3)⟩,⟨rF⟩,⟨(ok_law10_played k x1 _ e2)⟩,⟨(nF c1)⟩,⟨(ok_law10_alive k _ e0)⟩] (by kernel_rfl)
         rw[if_neg c9] at h;replace c9:=eqf c9
         obtain rfl:=osi h
         exact Tri.of (x:=X6) mixed facts6 [.call ⟨true,[]⟩ (.bool x5) [],df,(A6_0 x6),df,(A6_1 x6 x7),(A6_2 x6 x8),df,df,df,df,df,df,df,df,df,df,df,df,df,df,df,dt] [⟨(nT c9)⟩,⟨(nF c8)⟩,⟨(nF c8)⟩,⟨(nF c8)⟩,⟨(nF c8)⟩,⟨c7⟩,⟨c7⟩,⟨c7⟩,⟨c7⟩,⟨(nF c6)⟩,⟨(nF c6)⟩,⟨(nF c6)⟩,⟨(nF c6)⟩,⟨(nF c5)⟩,⟨(nF c5)⟩,⟨(nF c5)⟩,⟨(ok_site_Site_Part k (conv .i64 x3) x6.1 x6.2.1 x6.2.2.1 x6.2.2.2 _ e4)⟩,⟨(ok_site_Site_Part k (conv .i64 x2) x6.1 x6.2.1 x6.2.2.1 x6.2.2.2 _ e3)⟩,⟨rF⟩,⟨(ok_law10_played k x1 _ e2)⟩,⟨(nF c1)⟩,⟨(ok_law10_alive k _ e0)⟩] (by kernel_rfl)
       rw[if_neg c8] at h;replace c8:=eqf c8
       obtain rfl:=osi h
       exact Tri.of (x:=X6) mixed facts6 [.call ⟨true,[]⟩ (.bool x5) [],df,(A6_0 x6),df,(A6_1 x6 x7),(A6_2 x6 x8),df,df,df,df,df,df,df,df,df,df,df,dt,dt,dt,dt,dt] [⟨rT⟩,⟨(nT c8)⟩,⟨(nT c8)⟩,⟨(nT c8)⟩,⟨(nT c8)⟩,⟨c7⟩,⟨c7⟩,⟨c7⟩,⟨c7⟩,⟨(nF c6)⟩,⟨(nF c6)⟩,⟨(nF c6)⟩,⟨(nF c6)⟩,⟨(nF c5)⟩,⟨(nF c5)⟩,⟨(nF c5)⟩,⟨(ok_site_Site_Part k (conv .i64 x3) x6.1 x6.2.1 x6.2.2.1 x6.2.2.2 _ e4)⟩,⟨(ok_site_Site_Part k (conv .i64 x2) x6.1 x6.2.1 x6.2.2.1 x6.2.2.2 _ e3)⟩,⟨rF⟩,⟨(ok_law10_played k x1 _ e2)⟩,⟨(nF c1)⟩,⟨(ok_law10_alive k _ e0)⟩] (by kernel_rfl)
     rw[if_neg c6] at h;replace c6:=eqf c6
     obtain rfl:=osi h
     exact Tri.of (x:=X6) mixed facts6 [.call ⟨true,[]⟩ (.bool x5) [],df,(A6_0 x6),df,(A6_1 x6 x7),(A6_2 x6 x8),df,df,df,dt,dt,dt,dt,dt,dt,dt,dt,dt,dt,dt,dt,dt] [⟨rT⟩,⟨rT⟩,⟨rT⟩,⟨rT⟩,⟨rT⟩,⟨rT⟩,⟨rT⟩,⟨rT⟩,⟨rT⟩,⟨(nT c6)⟩,⟨(nT c6)⟩,⟨(nT c6)⟩,⟨(nT c6)⟩,⟨(nF c5)⟩,⟨(nF c5)⟩,⟨(nF c5)⟩,⟨(ok_site_Site_Part k (conv .i64 x3) x6.1 x6.2.1 x6.2.2.1 x6.2.2.2 _ e4)⟩,⟨(ok_site_Site_Part k (conv .i64 x2) x6.1 x6.2.1 x6.2.2.1 x6.2.2.2 _ e3)⟩,⟨rF⟩,⟨(ok_law10_played k x1 _ e2)⟩,⟨(nF c1)⟩,⟨(ok_law10_alive k _ e0)⟩] (by kernel_rfl)
   rw[if_neg c5] at h;replace c5:=eqf c5
   obtain rfl:=osi h
   exact Tri.of (x:=X6) mixed facts6 [.call ⟨true,[]⟩ (.bool x5) [],df,(A6_0 x6),df,(A6_1 x6 x7),(A6_2 x6 x8),dt,dt,dt,dt,dt,dt,dt,dt,dt,dt,dt,dt,dt,dt,dt,dt] [⟨rT⟩,⟨rT⟩,⟨rT⟩,⟨rT⟩,⟨rT⟩,⟨rT⟩,⟨rT⟩,⟨rT⟩,⟨rT⟩,⟨rT⟩,⟨rT⟩,⟨rT⟩,⟨rT⟩,⟨(nT c5)⟩,⟨(nT c5)⟩,⟨(nT c5)⟩,⟨(ok_site_Site_Part k (conv .i64 x3) x6.1 x6.2.1 x6.2.2.1 x6.2.2.2 _ e4)⟩,⟨(ok_site_Site_Part k (conv .i64 x2) x6.1 x6.2.1 x6.2.2.1 x6.2.2.2 _ e3)⟩,⟨rF⟩,⟨(ok_law10_played k x1 _ e2)⟩,⟨(nF c1)⟩,⟨(ok_law10_alive k _ e0)⟩] (by kernel_rfl)
 rw[if_neg c1] at h;replace c1:=eqf c1
 obtain rfl:=osi h
 exact Tri.of (x:=X6) mixed facts6 [.call ⟨true,[]⟩ (.bool x5) [],dt] [⟨(nT c1)⟩,⟨(ok_law10_alive k _ e0)⟩] (by kernel_rfl)
end Go.Ws
