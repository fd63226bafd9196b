/-
  Walks, merged.
  Conditions: none.
-/
import Derived.Test.YtojldadifhneeaaZPre
import Derived.Test.YtojldadifhneeaaZPure
import Derived.Test.YtojldadifhneeaaZWGSiteAgain0
set_option linter.unusedVariables false
set_option linter.unusedSimpArgs false
namespace Go.Ws
open Go.Proofs
set_option linter.unusedSimpArgs false
set_option linter.unusedVariables false
set_option maxRecDepth 1000000
set_option maxHeartbeats 4000000
noncomputable def X26_8 (x1:Ty16) (x2:Ty12) (x3:Ty6) (x4:Ty11):Ctx:=⟨Try.f26,[(.row [(.sl 2 (List.map e_u8_i64 x1)),(.sl 3 (List.map e_u8_i64_b x2)),(.mp 1),(.ref 4 2 0 0 x4.length .virt)]),(.map (encM .i64 (fun y=>AV.agg (e_i64_Lu8i64E_b_i64 y)) x3) x3.length),(.arr 4 (List.map e_i64_i64_u8_i64 x4) 0 0 false)],false⟩
theorem ok_site_Site_good_8 (x1:Ty16) (x2:Ty12) (x3:Ty6) (x4:Ty11):Tri Try.prog 26 [(.hp 0 0)] [(.row [(.sl 2 (List.map e_u8_i64 x1)),(.sl 3 (List.map e_u8_i64_b x2)),(.mp 1),(.ref 4 2 0 0 x4.length .virt)]),(.map (encM .i64 (fun y=>AV.agg (e_i64_Lu8i64E_b_i64 y)) x3) x3.length),(.arr 4 (List.map e_i64_i64_u8_i64 x4) 0 0 false)] (.bool (!false)) [(.row [(.sl 2 (List.map e_u8_i64 x1)),(.sl 3 (List.map e_u8_i64_b x2)),(.mp 1),(.ref 4 2 0 0 x4.length .virt)]),(.map (encM .i64 (fun y=>AV.agg (e_i64_Lu8i64E_b_i64 y)) x3) x3.length),(.arr 4 (List.map e_i64_i64_u8_i64 x4) 0 0 false)]:=by
 obtain⟨r,h⟩:∃r,site_Site_good_8 x1 x2 x3 x4=r:=⟨_,rfl⟩
 try rw[h]
 unfold site_Site_good_8 at h
 obtain rfl:=h
 exact Tri.of (x:=(X26_8 x1 x2 x3 x4)) mixed facts26 [dt,dt,dt,dt,dt,dt,.norm 0 ⟨[(2,[])],[],false,[],[]⟩] [⟨(nT rfl)⟩,⟨(nT rfl)⟩,⟨(nT rfl)⟩,⟨(nT rfl)⟩,⟨(nT rfl)⟩,⟨(nT rfl)⟩] (by kernel_rfl)
end Go.Ws

namespace Go.Ws
open Go.Proofs
set_option linter.unusedSimpArgs false
set_option linter.unusedVariables false
set_option maxRecDepth 1000000
set_option maxHeartbeats 4000000
noncomputable def X37_8 (x9:Ty16) (x10:Ty12) (x11:Ty6) (x12:Ty11):Ctx:=⟨Try.f37,[(.row [(.sl 2 (List.map e_u8_i64 x9)),(.sl 3 (List.map e_u8_i64_b x10)),(.mp 1),(.ref 4 2 0 0 x12.length .virt)]),(.map (encM .i64 (fun y=>AV.agg (e_i64_Lu8i64E_b_i64 y)) x11) x11.length),(.arr 4 (List.map e_i64_i64_u8_i64 x12) 0 0 false)],false⟩
noncomputable def L37_8_0:Code:=at_ Try.f37 [1,1,1,1,1,1,1,0,1,4,5]
def S37_8_0 (x2:Ty16) (x5:Int) (x6:Int) (x7:Int) (x8:Int) (x9:Ty16) (x11:Ty6) (x12:Ty11) (x13:Ty12 × Int) (v837001_1:Int) (v837001_2:Int):St:=⟨mkT 92 [(5,(.hp 3 0)),(10,(.int .i64 v837001_1)),(75,(.sl 2 (List.map e_u8_i64 x2))),(76,(.int .i64 (nI x2.length))),(77,(.int .i64 v837001_2))],[(.row [(.sl 2 (List.map e_u8_i64 x9)),(.sl 3 (List.map e_u8_i64_b x13.1)),(.mp 1),(.ref 4 2 0 0 x12.length .virt)]),(.map (encM .i64 (fun y=>AV.agg (e_i64_Lu8i64E_b_i64 y)) x11) x11.length),(.arr 4 (List.map e_i64_i64_u8_i64 x12) 0 0 false),(.row [(.int .i64 x5),(.int .i64 x6),(.int .u8 x7),(.int .i64 x8)])]⟩
def E37_8_0_0 (x9:Ty16) (x11:Ty6) (x12:Ty11) (x13:Ty12 × Int) (v837002_1:Int):St:=⟨mkT 92 [(10,(.int .i64 v837002_1))],[(.row [(.sl 2 (List.map e_u8_i64 x9)),(.sl 3 (List.map e_u8_i64_b x13.1)),(.mp 1),(.ref 4 2 0 0 x12.length .virt)]),(.map (encM .i64 (fun y=>AV.agg (e_i64_Lu8i64E_b_i64 y)) x11) x11.length),(.arr 4 (List.map e_i64_i64_u8_i64 x12) 0 0 false)]⟩
def O37_8_0 (x2:Ty16) (x5:Int) (x6:Int) (x7:Int) (x8:Int) (x9:Ty16) (x10:Ty12) (x11:Ty6) (x12:Ty11) (x13:Ty12 × Int) (y:(Int)):GX:=.st (.exit 0) (E37_8_0_0 x9 x11 x12 x13 y)
def A37_8_0 (x13:Ty12 × Int):Ans:=.call ⟨true,[]⟩ (.tup [(.sl 3 (List.map e_u8_i64_b x13.1)),(.int .i64 x13.2)]) []
def A37_8_1 (x14:Int × Ty16 × Bool × Int × Int):Ans:=.call ⟨true,[]⟩ (.tup [(.agg [(.int .i64 x14.1),(.sl 2 (List.map e_u8_i64 x14.2.1)),(.bool x14.2.2.1),(.int .i64 x14.2.2.2.1)]),(.int .i64 x14.2.2.2.2)]) []
def A37_8_2:Ans:=.norm 0 ⟨[(6,[]),(7,[])],[],false,[],[]⟩
theorem ok_site_Site_access_8_l0 (x2:Ty16) (x5:Int) (x6:Int) (x7:Int) (x8:Int) (x9:Ty16) (x10:Ty12) (x11:Ty6) (x12:Ty11) (x13:Ty12 × Int) (y:(Int)):∀(k:Nat) (v837001_1:Int) (v837001_2:Int),site_Site_access_8_l0 k x2 x5 x6 x7 x8 x9 x10 x11 x12 x13 v837001_1 v837001_2=some y→LT Try.prog (X37_8 x9 x10 x11 x12) L37_8_0 (S37_8_0 x2 x5 x6 x7 x8 x9 x11 x12 x13 v837001_1 v837001_2) (O37_8_0 x2 x5 x6 x7 x8 x9 x10 x11 x12 x13 y)
 | 0,v837001_1,v837001_2,h=>by cases h
 | k+1,v837001_1,v837001_2,h=>by
  rw[site_Site_access_8_l0] at h
  by_cases cL0:ltI v837001_2 (nI x2.length)=true
  · rw[if_pos cL0] at h
    by_cases cL1:inI v837001_2 x2.length=true
    · rw[if_pos cL1] at h
      obtain⟨v837000_1,eL2,h⟩:=bsm h
      by_cases cL3:eqI v837000_1.1 x7=true
      · rw[if_pos cL3] at h
        exact LT.next mixed (hs:=⟨[(5,[]),(10,[]),(75,[]),(76,[]),(77,[])],[⟨.tmp 5,[],none⟩],false,[],[]⟩) (es:=none) [dt,.n x2.length,.row [(.int .u8 v837000_1.1),(.int .i64 v837000_1.2)],dt] [⟨cL3⟩,⟨(cells_map (e:=e_u8_i64) eL2 2 0 2 (by decide))⟩,⟨cL1⟩,⟨(len_map e_u8_i64 x2)⟩,⟨cL0⟩] (by kernel_rfl) (ok_site_Site_access_8_l0 x2 x5 x6 x7 x8 x9 x10 x11 x12 x13 y k (iadd .i64 v837001_1 v837000_1.2) (iadd .i64 v837001_2 1) h)
      rw[if_neg cL3] at h;replace cL3:=eqf cL3
      exact LT.next mixed (hs:=⟨[(5,[]),(10,[]),(75,[]),(76,[]),(77,[])],[⟨.tmp 5,[],none⟩],false,[],[]⟩) (es:=none) [dt,.n x2.length,.row [(.int .u8 v837000_1.1),(.int .i64 v837000_1.2)],df] [⟨cL3⟩,⟨(cells_map (e:=e_u8_i64) eL2 2 0 2 (by decide))⟩,⟨cL1⟩,⟨(len_map e_u8_i64 x2)⟩,⟨cL0⟩] (by kernel_rfl) (ok_site_Site_access_8_l0 x2 x5 x6 x7 x8 x9 x10 x11 x12 x13 y k v837001_1 (iadd .i64 v837001_2 1) h)
    rw[if_neg cL1] at h;replace cL1:=eqf cL1
    cases h
  rw[if_neg cL0] at h;replace cL0:=eqf cL0
  obtain rfl:=osi h
  show LT _ _ _ _ (.st (.exit 0) (E37_8_0_0 x9 x11 x12 x13 v837001_1))
  exact LT.done mixed (hs:=⟨[],[],false,[],[]⟩) (es:=(some ⟨[(10,[])],[],false,[],[]⟩)) [df] [⟨cL0⟩] (by kernel_rfl) (fun s h=>by cases h)
theorem ok_site_Site_access_8 (k:Nat) (x1:Int) (x2:Ty16) (x3:Bool) (x4:Int) (x5:Int) (x6:Int) (x7:Int) (x8:Int) (x9:Ty16) (x10:Ty12) (x11:Ty6) (x12:Ty11) (r:Ty12 × Ty6 × Int × Int) (h:site_Site_access_8 k x1 x2 x3 x4 x5 x6 x7 x8 x9 x10 x11 x12=some r):Tri Try.prog 37 [(.hp 0 0),(.agg [(.int .i64 x1),(.sl 2 (List.map e_u8_i64 x2)),(.bool x3),(.int .i64 x4)]),(.agg [(.int .i64 x5),(.int .i64 x6),(.int .u8 x7),(.int .i64 x8)])] [(.row [(.sl 2 (List.map e_u8_i64 x9)),(.sl 3 (List.map e_u8_i64_b x10)),(.mp 1),(.ref 4 2 0 0 x12.length .virt)]),(.map (encM .i64 (fun y=>AV.agg (e_i64_Lu8i64E_b_i64 y)) x11) x11.length),(.arr 4 (List.map e_i64_i64_u8_i64 x12) 0 0 false)] (.tup [(.int .i64 r.2.2.2),(.int .i64 r.2.2.1)]) [(.row [(.sl 2 (List.map e_u8_i64 x9)),(.sl 3 (List.map e_u8_i64_b r.1)),(.mp 1),(.ref 4 2 0 0 x12.length .virt)]),(.map (encM .i64 (fun y=>AV.agg (e_i64_Lu8i64E_b_i64 y)) r.2.1) r.2.1.length),(.arr 4 (List.map e_i64_i64_u8_i64 x12) 0 0 false)]:=by
 unfold site_Site_access_8 at h
 by_cases c0:eqI x1 0=true
 · rw[if_pos c0] at h
   obtain⟨x13,e1,h⟩:=bsm h
   by_cases c2:eqI x13.2 0=true
   · rw[if_pos c2] at h
     by_cases c3:eqI x5 3=true
     · rw[if_pos c3] at h
       obtain⟨x14,e4,h⟩:=bsm h
       by_cases c5:eqI x14.2.2.2.2 0=true
       · rw[if_pos c5] at h
         by_cases c6:mHas x11 x6=true
         · rw[if_pos c6] at h
           obtain⟨x15,e7,h⟩:=bsm h
           obtain rfl:=osi h
           exact Tri.of (x:=(X37_8 x9 x10 x11 x12)) mixed facts37 [df,(A37_8_0 x13),df,dt,(A37_8_1 x14),df,.opt (some (.agg [(.int .i64 x15.1),(.sl 2 (List.map e_u8_i64 x15.2.1)),(.bool x15.2.2.1),(.int .i64 x15.2.2.2)])),.n (mIx x11 x6),.ents (encM .i64 (fun y=>AV.agg (e_i64_Lu8i64E_b_i64 y)) x11) x11.length,.ents (encM .i64 (fun y=>AV.agg (e_i64_Lu8i64E_b_i64 y)) (mPut x11 x6 (x14.1,x14.2.1,x14.2.2.1,x14.2.2.2.1))) (mPut x11 x6 (x14.1,x14.2.1,x14.2.2.1,x14.2.2.2.1)).length,A37_8_2] [⟨(sb_some .i64 (fun y=>AV.agg (e_i64_Lu8i64E_b_i64 y)) e7 (x14.1,x14.2.1,x14.2.2.1,x14.2.2.2.1))⟩,⟨(ent_some .i64 (fun y=>AV.agg (e_i64_Lu8i64E_b_i64 y)) e7 (.agg [(.int .i64 0),(.sl 2 (List.map e_u8_i64 [])),(.bool false),(.int .i64 0)]))⟩,⟨(idx_enc .i64 (fun y=>AV.agg (e_i64_Lu8i64E_b_i64 y)) x11 x6)⟩,⟨(look_some .i64 (fun y=>AV.agg (e_i64_Lu8i64E_b_i64 y)) e7)⟩,⟨(nF c5)⟩,⟨(ok_part_Add k x1 x2 x3 x4 x7 x8 _ e4)⟩,⟨c3⟩,⟨(nF c2)⟩,⟨(ok_lock_Take k x10 x6 x7 (eqI x5 3) _ e1)⟩,⟨(nF c0)⟩] (by kernel_rfl)
         rw[if_neg c6] at h;replace c6:=eqf c6
         obtain rfl:=osi h
         exact Tri.of (x:=(X37_8 x9 x10 x11 x12)) mixed facts37 [df,(A37_8_0 x13),df,dt,(A37_8_1 x14),df,.opt none,.n (mIx x11 x6),.ents (encM .i64 (fun y=>AV.agg (e_i64_Lu8i64E_b_i64 y)) (mPut x11 x6 (0,[],false,0))) (mPut x11 x6 (0,[],false,0)).length,.ents (encM .i64 (fun y=>AV.agg (e_i64_Lu8i64E_b_i64 y)) (mPut x11 x6 (x14.1,x14.2.1,x14.2.2.1,x14.2.2.2.1))) (mPut x11 x6 (x14.1,x14.2.1,x14.2.2.1,x14.2.2.2.1)).length,A37_8_2] [⟨(sb_none .i64 (fun y=>AV.agg (e_i64_Lu8i64E_b_i64 y)) (l:=x11) (q:=x6) (0,[],false,0) (x14.1,x14.2.1,x14.2.2.1,x14.2.2.2.1))⟩,⟨(ent_none .i64 (fun y=>AV.agg (e_i64_Lu8i64E_b_i64 y)) c6 (0,[],false,0))⟩,⟨(idx_enc .i64 (fun y=>AV.agg (e_i64_Lu8i64E_b_i64 y)) x11 x6)⟩,⟨(look_none .i64 (fun y=>AV.agg (e_i64_Lu8i64E_b_i64 y)) c6)⟩,⟨(nF c5)⟩,⟨(ok_part_Add k x1 x2 x3 x4 x7 x8 _ e4)⟩,⟨c3⟩,⟨(nF c2)⟩,⟨(ok_lock_Take k x10 x6 x7 (eqI x5 3) _ e1)⟩,⟨(nF c0)⟩] (by kernel_rfl)
       rw[if_neg c5] at h;replace c5:=eqf c5
       obtain rfl:=osi h
       exact Tri.of (x:=(X37_8 x9 x10 x11 x12)) mixed facts37 [df,(A37_8_0 x13),df,dt,(A37_8_1 x14),dt,A37_8_2] [⟨(nT c5)⟩,⟨(ok_part_Add k x1 x2 x3 x4 x7 x8 _ e4)⟩,⟨c3⟩,⟨(nF c2)⟩,⟨(ok_lock_Take k x10 x6 x7 (eqI x5 3) _ e1)⟩,⟨(nF c0)⟩] (by kernel_rfl)
     rw[if_neg c3] at h;replace c3:=eqf c3
     obtain⟨x14,e4,h⟩:=bsm h
     obtain⟨x16,e5,h⟩:=bsm h
     obtain rfl:=osi h
     exact Tri.of (x:=(X37_8 x9 x10 x11 x12)) mixed facts37 [df,(A37_8_0 x13),df,df,.call ⟨true,[]⟩ (.int .i64 x14) [],.n x2.length,.norm 2 ⟨[(5,[]),(10,[]),(75,[]),(76,[]),(77,[])],[⟨.tmp 5,[],none⟩],false,[],[]⟩,.out (.st .normal (E37_8_0_0 x9 x11 x12 x13 x16)),A37_8_2] [⟨(LT.block (ok_site_Site_access_8_l0 x2 x5 x6 x7 x8 x9 x10 x11 x12 x13 _ k x14 0 e5))⟩,⟨(len_map e_u8_i64 x2)⟩,⟨(ok_ledger_Get k x9 x7 _ e4)⟩,⟨c3⟩,⟨(nF c2)⟩,⟨(ok_lock_Take k x10 x6 x7 (eqI x5 3) _ e1)⟩,⟨(nF c0)⟩] (by kernel_rfl)
   rw[if_neg c2] at h;replace c2:=eqf c2
   obtain rfl:=osi h
   exact Tri.of (x:=(X37_8 x9 x10 x11 x12)) mixed facts37 [df,(A37_8_0 x13),dt,A37_8_2] [⟨(nT c2)⟩,⟨(ok_lock_Take k x10 x6 x7 (eqI x5 3) _ e1)⟩,⟨(nF c0)⟩] (by kernel_rfl)
 rw[if_neg c0] at h;replace c0:=eqf c0
 obtain rfl:=osi h
 exact Tri.of (x:=(X37_8 x9 x10 x11 x12)) mixed facts37 [dt,A37_8_2] [⟨(nT c0)⟩] (by kernel_rfl)
end Go.Ws

namespace Go.Ws
open Go.Proofs
set_option linter.unusedSimpArgs false
set_option linter.unusedVariables false
set_option maxRecDepth 1000000
set_option maxHeartbeats 4000000
noncomputable def X38_8 (x9:Ty16) (x10:Ty12) (x11:Ty6) (x12:Ty11):Ctx:=⟨Try.f38,[(.row [(.sl 2 (List.map e_u8_i64 x9)),(.sl 3 (List.map e_u8_i64_b x10)),(.mp 1),(.ref 4 2 0 0 x12.length .virt)]),(.map (encM .i64 (fun y=>AV.agg (e_i64_Lu8i64E_b_i64 y)) x11) x11.length),(.arr 4 (List.map e_i64_i64_u8_i64 x12) 0 0 false)],false⟩
def A38_8_0 (x13:Int × Ty16 × Bool × Int × Int):Ans:=.call ⟨true,[]⟩ (.tup [(.agg [(.int .i64 x13.1),(.sl 2 (List.map e_u8_i64 x13.2.1)),(.bool x13.2.2.1),(.int .i64 x13.2.2.2.1)]),(.int .i64 x13.2.2.2.2)]) []
def A38_8_1 (x15:Ty12):Ans:=.call ⟨true,[]⟩ (.sl 3 (List.map e_u8_i64_b x15)) []
def A38_8_2 (x13:Int × Ty16 × Bool × Int × Ty16 × Int):Ans:=.call ⟨true,[]⟩ (.tup [(.agg [(.int .i64 x13.1),(.sl 2 (List.map e_u8_i64 x13.2.1)),(.bool x13.2.2.1),(.int .i64 x13.2.2.2.1)]),(.sl 2 (List.map e_u8_i64 x13.2.2.2.2.1)),(.int .i64 x13.2.2.2.2.2)]) []
def A38_8_3 (x6:Int) (x11:Ty6) (x13:Int × Ty16 × Bool × Int × Ty16 × Int):Ans:=.ents (encM .i64 (fun y=>AV.agg (e_i64_Lu8i64E_b_i64 y)) (mPut x11 x6 (x13.1,x13.2.1,x13.2.2.1,x13.2.2.2.1))) (mPut x11 x6 (x13.1,x13.2.1,x13.2.2.1,x13.2.2.2.1)).length
def A38_8_4 (x14:Ty16 × Int):Ans:=.call ⟨true,[]⟩ (.tup [(.sl 2 (List.map e_u8_i64 x14.1)),(.int .i64 x14.2)]) []
theorem ok_site_Site_end_8 (k:Nat) (x1:Int) (x2:Ty16) (x3:Bool) (x4:Int) (x5:Int) (x6:Int) (x7:Int) (x8:Int) (x9:Ty16) (x10:Ty12) (x11:Ty6) (x12:Ty11) (r:Ty16 × Ty12 × Ty6 × Int) (h:site_Site_end_8 k x1 x2 x3 x4 x5 x6 x7 x8 x9 x10 x11 x12=some r):Tri Try.prog 38 [(.hp 0 0),(.agg [(.int .i64 x1),(.sl 2 (List.map e_u8_i64 x2)),(.bool x3),(.int .i64 x4)]),(.agg [(.int .i64 x5),(.int .i64 x6),(.int .u8 x7),(.int .i64 x8)])] [(.row [(.sl 2 (List.map e_u8_i64 x9)),(.sl 3 (List.map e_u8_i64_b x10)),(.mp 1),(.ref 4 2 0 0 x12.length .virt)]),(.map (encM .i64 (fun y=>AV.agg (e_i64_Lu8i64E_b_i64 y)) x11) x11.length),(.arr 4 (List.map e_i64_i64_u8_i64 x12) 0 0 false)] (.int .i64 r.2.2.2) [(.row [(.sl 2 (List.map e_u8_i64 r.1)),(.sl 3 (List.map e_u8_i64_b r.2.1)),(.mp 1),(.ref 4 2 0 0 x12.length .virt)]),(.map (encM .i64 (fun y=>AV.agg (e_i64_Lu8i64E_b_i64 y)) r.2.2.1) r.2.2.1.length),(.arr 4 (List.map e_i64_i64_u8_i64 x12) 0 0 false)]:=by
 unfold site_Site_end_8 at h
 by_cases c0:eqI x5 4=true
 · rw[if_pos c0] at h
   obtain⟨x13,e1,h⟩:=bsm h
   by_cases c2:eqI x13.2.2.2.2 0=true
   · rw[if_pos c2] at h
     obtain⟨x14,e3,h⟩:=bsm h
     by_cases c4:eqI x13.1 2=true
     · rw[if_pos c4] at h
       obtain⟨x15,e5,h⟩:=bsm h
       obtain rfl:=osi h
       exact Tri.of (x:=(X38_8 x9 x10 x11 x12)) mixed facts38 [dt,(A38_8_0 x13),df,.ents (encM .i64 (fun y=>AV.agg (e_i64_Lu8i64E_b_i64 y)) (mPut x11 x6 (x13.1,x13.2.1,x13.2.2.1,x13.2.2.2.1))) (mPut x11 x6 (x13.1,x13.2.1,x13.2.2.1,x13.2.2.2.1)).length,.call ⟨true,[[],[(0,2)]]⟩ (.tup [(.sl 2 (List.map e_u8_i64 x14.1)),(.int .i64 x14.2)]) [],df,df,df,df,dt,(A38_8_1 x15),.norm 0 ⟨[(6,[])],[],false,[],[]⟩] [⟨(ok_lock_Free k x10 x6 _ e5)⟩,⟨c4⟩,⟨(nF c0)⟩,⟨(nF c0)⟩,⟨(nF c0)⟩,⟨(nF c0)⟩,⟨(ok_ledger_Put k x9 [] _ e3)⟩,⟨(put_enc .i64 (fun y=>AV.agg (e_i64_Lu8i64E_b_i64 y)) x11 x6 (x13.1,x13.2.1,x13.2.2.1,x13.2.2.2.1))⟩,⟨(nF c2)⟩,⟨(ok_part_Vote k x1 x2 x3 x4 (!eqI x8 0) _ e1)⟩,⟨c0⟩] (by kernel_rfl)
     rw[if_neg c4] at h;replace c4:=eqf c4
     obtain rfl:=osi h
     exact Tri.of (x:=(X38_8 x9 x10 x11 x12)) mixed facts38 [dt,(A38_8_0 x13),df,.ents (encM .i64 (fun y=>AV.agg (e_i64_Lu8i64E_b_i64 y)) (mPut x11 x6 (x13.1,x13.2.1,x13.2.2.1,x13.2.2.2.1))) (mPut x11 x6 (x13.1,x13.2.1,x13.2.2.1,x13.2.2.2.1)).length,.call ⟨true,[[],[(0,2)]]⟩ (.tup [(.sl 2 (List.map e_u8_i64 x14.1)),(.int .i64 x14.2)]) [],df,df,df,df,df,.norm 0 ⟨[(6,[])],[],false,[],[]⟩] [⟨c4⟩,⟨(nF c0)⟩,⟨(nF c0)⟩,⟨(nF c0)⟩,⟨(nF c0)⟩,⟨(ok_ledger_Put k x9 [] _ e3)⟩,⟨(put_enc .i64 (fun y=>AV.agg (e_i64_Lu8i64E_b_i64 y)) x11 x6 (x13.1,x13.2.1,x13.2.2.1,x13.2.2.2.1))⟩,⟨(nF c2)⟩,⟨(ok_part_Vote k x1 x2 x3 x4 (!eqI x8 0) _ e1)⟩,⟨c0⟩] (by kernel_rfl)
   rw[if_neg c2] at h;replace c2:=eqf c2
   obtain rfl:=osi h
   exact Tri.of (x:=(X38_8 x9 x10 x11 x12)) mixed facts38 [dt,(A38_8_0 x13),dt,.norm 0 ⟨[(6,[])],[],false,[],[]⟩] [⟨(nT c2)⟩,⟨(ok_part_Vote k x1 x2 x3 x4 (!eqI x8 0) _ e1)⟩,⟨c0⟩] (by kernel_rfl)
 rw[if_neg c0] at h;replace c0:=eqf c0
 by_cases c1:eqI x5 5=true
 · rw[if_pos c1] at h
   obtain⟨x13,e2,h⟩:=bsm h
   by_cases c3:eqI x13.2.2.2.2.2 0=true
   · rw[if_pos c3] at h
     obtain⟨x14,e4,h⟩:=bsm h
     obtain⟨x15,e5,h⟩:=bsm h
     obtain rfl:=osi h
     exact Tri.of (x:=(X38_8 x9 x10 x11 x12)) mixed facts38 [df,dt,(A38_8_2 x13),df,(A38_8_3 x6 x11 x13),(A38_8_4 x14),dt,dt,dt,dt,dt,(A38_8_1 x15),.norm 0 ⟨[(6,[])],[],false,[],[]⟩] [⟨(ok_lock_Free k x10 x6 _ e5)⟩,⟨rT⟩,⟨(nT c0)⟩,⟨(nT c0)⟩,⟨(nT c0)⟩,⟨(nT c0)⟩,⟨(ok_ledger_Put k x9 x13.2.2.2.2.1 _ e4)⟩,⟨(put_enc .i64 (fun y=>AV.agg (e_i64_Lu8i64E_b_i64 y)) x11 x6 (x13.1,x13.2.1,x13.2.2.1,x13.2.2.2.1))⟩,⟨(nF c3)⟩,⟨(ok_part_Local k x1 x2 x3 x4 _ e2)⟩,⟨c1⟩,⟨c0⟩] (by kernel_rfl)
   rw[if_neg c3] at h;replace c3:=eqf c3
   obtain rfl:=osi h
   exact Tri.of (x:=(X38_8 x9 x10 x11 x12)) mixed facts38 [df,dt,(A38_8_2 x13),dt,.norm 0 ⟨[(6,[])],[],false,[],[]⟩] [⟨(nT c3)⟩,⟨(ok_part_Local k x1 x2 x3 x4 _ e2)⟩,⟨c1⟩,⟨c0⟩] (by kernel_rfl)
 rw[if_neg c1] at h;replace c1:=eqf c1
 by_cases c2:eqI x8 1=true
 · rw[if_pos c2] at h
   obtain⟨x13,e3,h⟩:=bsm h
   by_cases c4:eqI x13.2.2.2.2.2 0=true
   · rw[if_pos c4] at h
     obtain⟨x14,e5,h⟩:=bsm h
     obtain⟨x15,e6,h⟩:=bsm h
     obtain rfl:=osi h
     exact Tri.of (x:=(X38_8 x9 x10 x11 x12)) mixed facts38 [df,df,dt,dt,dt,dt,dt,(A38_8_2 x13),df,(A38_8_3 x6 x11 x13),(A38_8_4 x14),dt,dt,dt,dt,dt,(A38_8_1 x15),.norm 0 ⟨[(6,[])],[],false,[],[]⟩] [⟨(ok_lock_Free k x10 x6 _ e6)⟩,⟨rT⟩,⟨(nT c0)⟩,⟨(nT c0)⟩,⟨(nT c0)⟩,⟨(nT c0)⟩,⟨(ok_ledger_Put k x9 x13.2.2.2.2.1 _ e5)⟩,⟨(put_enc .i64 (fun y=>AV.agg (e_i64_Lu8i64E_b_i64 y)) x11 x6 (x13.1,x13.2.1,x13.2.2.1,x13.2.2.2.1))⟩,⟨(nF c4)⟩,⟨(ok_part_Decide k x1 x2 x3 x4 x8 _ e3)⟩,⟨rT⟩,⟨c2⟩,⟨c2⟩,⟨c2⟩,⟨c2⟩,⟨c1⟩,⟨c0⟩] (by kernel_rfl)
   rw[if_neg c4] at h;replace c4:=eqf c4
   obtain rfl:=osi h
   exact Tri.of (x:=(X38_8 x9 x10 x11 x12)) mixed facts38 [df,df,dt,dt,dt,dt,dt,(A38_8_2 x13),dt,.norm 0 ⟨[(6,[])],[],false,[],[]⟩] [⟨(nT c4)⟩,⟨(ok_part_Decide k x1 x2 x3 x4 x8 _ e3)⟩,⟨rT⟩,⟨c2⟩,⟨c2⟩,⟨c2⟩,⟨c2⟩,⟨c1⟩,⟨c0⟩] (by kernel_rfl)
 rw[if_neg c2] at h;replace c2:=eqf c2
 by_cases c3:eqI x8 2=true
 · rw[if_pos c3] at h
   obtain⟨x13,e4,h⟩:=bsm h
   by_cases c5:eqI x13.2.2.2.2.2 0=true
   · rw[if_pos c5] at h
     obtain⟨x14,e6,h⟩:=bsm h
     obtain⟨x15,e7,h⟩:=bsm h
     obtain rfl:=osi h
     exact Tri.of (x:=(X38_8 x9 x10 x11 x12)) mixed facts38 [df,df,df,df,df,df,dt,(A38_8_2 x13),df,(A38_8_3 x6 x11 x13),(A38_8_4 x14),dt,dt,dt,dt,dt,(A38_8_1 x15),.norm 0 ⟨[(6,[])],[],false,[],[]⟩] [⟨(ok_lock_Free k x10 x6 _ e7)⟩,⟨rT⟩,⟨(nT c0)⟩,⟨(nT c0)⟩,⟨(nT c0)⟩,⟨(nT c0)⟩,⟨(ok_ledger_Put k x9 x13.2.2.2.2.1 _ e6)⟩,⟨(put_enc .i64 (fun y=>AV.agg (e_i64_Lu8i64E_b_i64 y)) x11 x6 (x13.1,x13.2.1,x13.2.2.1,x13.2.2.2.1))⟩,⟨(nF c5)⟩,⟨(ok_part_Decide k x1 x2 x3 x4 x8 _ e4)⟩,⟨c3⟩,⟨c2⟩,⟨c2⟩,⟨c2⟩,⟨c2⟩,⟨c1⟩,⟨c0⟩] (by kernel_rfl)
   rw[if_neg c5] at h;replace c5:=eqf c5
   obtain rfl:=osi h
   exact Tri.of (x:=(X38_8 x9 x10 x11 x12)) mixed facts38 [df,df,df,df,df,df,dt,(A38_8_2 x13),dt,.norm 0 ⟨[(6,[])],[],false,[],[]⟩] [⟨(nT c5)⟩,⟨(ok_part_Decide k x1 x2 x3 x4 x8 _ e4)⟩,⟨c3⟩,⟨c2⟩,⟨c2⟩,⟨c2⟩,⟨c2⟩,⟨c1⟩,⟨c0⟩] (by kernel_rfl)
 rw[if_neg c3] at h;replace c3:=eqf c3
 obtain rfl:=osi h
 exact Tri.of (x:=(X38_8 x9 x10 x11 x12)) mixed facts38 [df,df,df,df,df,df,df,dt,.norm 0 ⟨[(6,[])],[],false,[],[]⟩] [⟨(nT (rfl:eqI 2 0=false))⟩,⟨c3⟩,⟨c2⟩,⟨c2⟩,⟨c2⟩,⟨c2⟩,⟨c1⟩,⟨c0⟩] (by kernel_rfl)
end Go.Ws

namespace Go.Ws
open Go.Proofs
set_option linter.unusedSimpArgs false
set_option linter.unusedVariables false
set_option maxRecDepth 1000000
set_option maxHeartbeats 4000000
noncomputable def X27_8 (x9:Ty16) (x10:Ty12) (x11:Ty6) (x12:Ty11):Ctx:=⟨Try.f27,[(.row [(.sl 2 (List.map e_u8_i64 x9)),(.sl 3 (List.map e_u8_i64_b x10)),(.mp 1),(.ref 4 2 0 0 x12.length .virt)]),(.map (encM .i64 (fun y=>AV.agg (e_i64_Lu8i64E_b_i64 y)) x11) x11.length),(.arr 4 (List.map e_i64_i64_u8_i64 x12) 0 0 false)],false⟩
def A27_8_0:Ans:=.norm 0 ⟨[(6,[]),(7,[])],[],false,[],[]⟩
def A27_8_1 (x9:Ty16) (x12:Ty11) (x13:Ty12 × Ty6 × Int × Int):Ans:=.call ⟨true,[]⟩ (.tup [(.int .i64 x13.2.2.2),(.int .i64 x13.2.2.1)]) [(.row [(.sl 2 (List.map e_u8_i64 x9)),(.sl 3 (List.map e_u8_i64_b x13.1)),(.mp 1),(.ref 4 2 0 0 x12.length .virt)]),(.map (encM .i64 (fun y=>AV.agg (e_i64_Lu8i64E_b_i64 y)) x13.2.1) x13.2.1.length),(.arr 4 (List.map e_i64_i64_u8_i64 x12) 0 0 false)]
theorem ok_site_Site_step_8 (k:Nat) (x1:Int) (x2:Ty16) (x3:Bool) (x4:Int) (x5:Int) (x6:Int) (x7:Int) (x8:Int) (x9:Ty16) (x10:Ty12) (x11:Ty6) (x12:Ty11) (r:Int × Int × Ty12 × Ty6 × Ty16) (h:site_Site_step_8 k x1 x2 x3 x4 x5 x6 x7 x8 x9 x10 x11 x12=some r):Tri Try.prog 27 [(.hp 0 0),(.agg [(.int .i64 x1),(.sl 2 (List.map e_u8_i64 x2)),(.bool x3),(.int .i64 x4)]),(.agg [(.int .i64 x5),(.int .i64 x6),(.int .u8 x7),(.int .i64 x8)])] [(.row [(.sl 2 (List.map e_u8_i64 x9)),(.sl 3 (List.map e_u8_i64_b x10)),(.mp 1),(.ref 4 2 0 0 x12.length .virt)]),(.map (encM .i64 (fun y=>AV.agg (e_i64_Lu8i64E_b_i64 y)) x11) x11.length),(.arr 4 (List.map e_i64_i64_u8_i64 x12) 0 0 false)] (.tup [(.int .i64 r.1),(.int .i64 r.2.1)]) [(.row [(.sl 2 (List.map e_u8_i64 r.2.2.2.2)),(.sl 3 (List.map e_u8_i64_b r.2.2.1)),(.mp 1),(.ref 4 2 0 0 x12.length .virt)]),(.map (encM .i64 (fun y=>AV.agg (e_i64_Lu8i64E_b_i64 y)) r.2.2.2.1) r.2.2.2.1.length),(.arr 4 (List.map e_i64_i64_u8_i64 x12) 0 0 false)]:=by
 unfold site_Site_step_8 at h
 by_cases c0:eqI x5 1=true
 · rw[if_pos c0] at h
   obtain rfl:=osi h
   exact Tri.of (x:=(X27_8 x9 x10 x11 x12)) mixed facts27 [dt,.ents (encM .i64 (fun y=>AV.agg (e_i64_Lu8i64E_b_i64 y)) (mPut x11 x6 (x1,x2,x3,x4))) (mPut x11 x6 (x1,x2,x3,x4)).length,A27_8_0] [⟨(put_enc .i64 (fun y=>AV.agg (e_i64_Lu8i64E_b_i64 y)) x11 x6 (x1,x2,x3,x4))⟩,⟨c0⟩] (by kernel_rfl)
 rw[if_neg c0] at h;replace c0:=eqf c0
 by_cases c1:eqI x5 2=true
 · rw[if_pos c1] at h
   obtain⟨x13,e2,h⟩:=bsm h
   obtain rfl:=osi h
   exact Tri.of (x:=(X27_8 x9 x10 x11 x12)) mixed facts27 [df,dt,dt,(A27_8_1 x9 x12 x13),A27_8_0] [⟨(ok_site_Site_access_8 k x1 x2 x3 x4 x5 x6 x7 x8 x9 x10 x11 x12 _ e2)⟩,⟨c1⟩,⟨c1⟩,⟨c0⟩] (by kernel_rfl)
 rw[if_neg c1] at h;replace c1:=eqf c1
 by_cases c2:eqI x5 3=true
 · rw[if_pos c2] at h
   obtain⟨x13,e3,h⟩:=bsm h
   obtain rfl:=osi h
   exact Tri.of (x:=(X27_8 x9 x10 x11 x12)) mixed facts27 [df,df,dt,(A27_8_1 x9 x12 x13),A27_8_0] [⟨(ok_site_Site_access_8 k x1 x2 x3 x4 x5 x6 x7 x8 x9 x10 x11 x12 _ e3)⟩,⟨c2⟩,⟨c1⟩,⟨c0⟩] (by kernel_rfl)
 rw[if_neg c2] at h;replace c2:=eqf c2
 obtain⟨x13,e3,h⟩:=bsm h
 obtain rfl:=osi h
 exact Tri.of (x:=(X27_8 x9 x10 x11 x12)) mixed facts27 [df,df,df,.call ⟨true,[]⟩ (.int .i64 x13.2.2.2) [(.row [(.sl 2 (List.map e_u8_i64 x13.1)),(.sl 3 (List.map e_u8_i64_b x13.2.1)),(.mp 1),(.ref 4 2 0 0 x12.length .virt)]),(.map (encM .i64 (fun y=>AV.agg (e_i64_Lu8i64E_b_i64 y)) x13.2.2.1) x13.2.2.1.length),(.arr 4 (List.map e_i64_i64_u8_i64 x12) 0 0 false)],A27_8_0] [⟨(ok_site_Site_end_8 k x1 x2 x3 x4 x5 x6 x7 x8 x9 x10 x11 x12 _ e3)⟩,⟨c2⟩,⟨c1⟩,⟨c0⟩] (by kernel_rfl)
end Go.Ws

namespace Go.Ws
open Go.Proofs
set_option linter.unusedSimpArgs false
set_option linter.unusedVariables false
set_option maxRecDepth 1000000
set_option maxHeartbeats 4000000
noncomputable def X14_8 (x5:Ty16) (x6:Ty12) (x7:Ty6) (x8:Ty11):Ctx:=⟨Try.f14,[(.row [(.sl 2 (List.map e_u8_i64 x5)),(.sl 3 (List.map e_u8_i64_b x6)),(.mp 1),(.ref 4 2 0 0 x8.length .virt)]),(.map (encM .i64 (fun y=>AV.agg (e_i64_Lu8i64E_b_i64 y)) x7) x7.length),(.arr 4 (List.map e_i64_i64_u8_i64 x8) 0 0 false)],false⟩
def A14_8_0 (x5:Ty16) (x6:Ty12) (x7:Ty6) (x8:Ty11):Ans:=.call ⟨true,[]⟩ (.bool (!false)) [(.row [(.sl 2 (List.map e_u8_i64 x5)),(.sl 3 (List.map e_u8_i64_b x6)),(.mp 1),(.ref 4 2 0 0 x8.length .virt)]),(.map (encM .i64 (fun y=>AV.agg (e_i64_Lu8i64E_b_i64 y)) x7) x7.length),(.arr 4 (List.map e_i64_i64_u8_i64 x8) 0 0 false)]
def A14_8_1:Ans:=.norm 0 ⟨[(4,[]),(5,[])],[],false,[],[none,none,some 1]⟩
def A14_8_2 (x9:Int × Ty16 × Bool × Int):Ans:=.opt (some (.agg [(.int .i64 x9.1),(.sl 2 (List.map e_u8_i64 x9.2.1)),(.bool x9.2.2.1),(.int .i64 x9.2.2.2)]))
def A14_8_3 (x8:Ty11) (x10:Int × Int × Ty12 × Ty6 × Ty16):Ans:=.call ⟨true,[]⟩ (.tup [(.int .i64 x10.1),(.int .i64 x10.2.1)]) [(.row [(.sl 2 (List.map e_u8_i64 x10.2.2.2.2)),(.sl 3 (List.map e_u8_i64_b x10.2.2.1)),(.mp 1),(.ref 4 2 0 0 x8.length .virt)]),(.map (encM .i64 (fun y=>AV.agg (e_i64_Lu8i64E_b_i64 y)) x10.2.2.2.1) x10.2.2.2.1.length),(.arr 4 (List.map e_i64_i64_u8_i64 x8) 0 0 false)]
def A14_8_4 (x8:Ty11) (x9:Int × Int × Ty12 × Ty6 × Ty16):Ans:=.call ⟨true,[]⟩ (.tup [(.int .i64 x9.1),(.int .i64 x9.2.1)]) [(.row [(.sl 2 (List.map e_u8_i64 x9.2.2.2.2)),(.sl 3 (List.map e_u8_i64_b x9.2.2.1)),(.mp 1),(.ref 4 2 0 0 x8.length .virt)]),(.map (encM .i64 (fun y=>AV.agg (e_i64_Lu8i64E_b_i64 y)) x9.2.2.2.1) x9.2.2.2.1.length),(.arr 4 (List.map e_i64_i64_u8_i64 x8) 0 0 false)]
theorem ok_site_Site_Do_8 (k:Nat) (x1:Int) (x2:Int) (x3:Int) (x4:Int) (x5:Ty16) (x6:Ty12) (x7:Ty6) (x8:Ty11) (r:Int × Int × Ty16 × Ty12 × Ty6 × Ty11) (h:site_Site_Do_8 k x1 x2 x3 x4 x5 x6 x7 x8=some r):Tri Try.prog 14 [(.hp 0 0),(.agg [(.int .i64 x1),(.int .i64 x2),(.int .u8 x3),(.int .i64 x4)])] [(.row [(.sl 2 (List.map e_u8_i64 x5)),(.sl 3 (List.map e_u8_i64_b x6)),(.mp 1),(.ref 4 2 0 0 x8.length .virt)]),(.map (encM .i64 (fun y=>AV.agg (e_i64_Lu8i64E_b_i64 y)) x7) x7.length),(.arr 4 (List.map e_i64_i64_u8_i64 x8) 0 0 false)] (.tup [(.int .i64 r.2.1),(.int .i64 r.1)]) [(.row [(.sl 2 (List.map e_u8_i64 r.2.2.1)),(.sl 3 (List.map e_u8_i64_b r.2.2.2.1)),(.mp 1),(.ref 4 2 1 0 r.2.2.2.2.2.length .virt)]),(.map (encM .i64 (fun y=>AV.agg (e_i64_Lu8i64E_b_i64 y)) r.2.2.2.2.1) r.2.2.2.2.1.length),(.arr 4 (List.map e_i64_i64_u8_i64 r.2.2.2.2.2) 1 1 false)]:=by
 unfold site_Site_Do_8 at h
 by_cases c0:ltI x1 1=true
 · rw[if_pos c0] at h
   obtain rfl:=osi h
   exact Tri.of (x:=(X14_8 x5 x6 x7 x8)) mixed facts14 [(A14_8_0 x5 x6 x7 x8),df,dt,dt,dt,dt,dt,dt,dt,dt,dt,dt,dt,dt,dt,A14_8_1] [⟨rT⟩,⟨rT⟩,⟨rT⟩,⟨rT⟩,⟨rT⟩,⟨rT⟩,⟨rT⟩,⟨rT⟩,⟨rT⟩,⟨c0⟩,⟨c0⟩,⟨c0⟩,⟨c0⟩,⟨(nF (nT rfl))⟩,⟨(ok_site_Site_good_8 x5 x6 x7 x8)⟩] (by kernel_rfl)
 rw[if_neg c0] at h;replace c0:=eqf c0
 by_cases c1:ltI 6 x1=true
 · rw[if_pos c1] at h
   obtain rfl:=osi h
   exact Tri.of (x:=(X14_8 x5 x6 x7 x8)) mixed facts14 [(A14_8_0 x5 x6 x7 x8),df,df,df,df,df,dt,dt,dt,dt,dt,dt,dt,dt,dt,A14_8_1] [⟨rT⟩,⟨rT⟩,⟨rT⟩,⟨rT⟩,⟨rT⟩,⟨c1⟩,⟨c1⟩,⟨c1⟩,⟨c1⟩,⟨c0⟩,⟨c0⟩,⟨c0⟩,⟨c0⟩,⟨(nF (nT rfl))⟩,⟨(ok_site_Site_good_8 x5 x6 x7 x8)⟩] (by kernel_rfl)
 rw[if_neg c1] at h;replace c1:=eqf c1
 by_cases c2:ltI x2 0=true
 · rw[if_pos c2] at h
   obtain rfl:=osi h
   exact Tri.of (x:=(X14_8 x5 x6 x7 x8)) mixed facts14 [(A14_8_0 x5 x6 x7 x8),df,df,df,df,df,df,df,df,df,dt,dt,dt,dt,dt,A14_8_1] [⟨rT⟩,⟨c2⟩,⟨c2⟩,⟨c2⟩,⟨c2⟩,⟨c1⟩,⟨c1⟩,⟨c1⟩,⟨c1⟩,⟨c0⟩,⟨c0⟩,⟨c0⟩,⟨c0⟩,⟨(nF (nT rfl))⟩,⟨(ok_site_Site_good_8 x5 x6 x7 x8)⟩] (by kernel_rfl)
 rw[if_neg c2] at h;replace c2:=eqf c2
 by_cases c3:ltI x2 1000=true
 · rw[if_pos c3] at h
   by_cases c4:mHas x7 x2=true
   · rw[if_pos c4] at h
     obtain⟨x9,e5,h⟩:=bsm h
     by_cases c6:eqB true (eqI x1 1)=true
     · rw[if_pos c6] at h
       obtain rfl:=osi h
       exact Tri.of (x:=(X14_8 x5 x6 x7 x8)) mixed facts14 [(A14_8_0 x5 x6 x7 x8),df,df,df,df,df,df,df,df,df,df,df,df,df,df,(A14_8_2 x9),dt,dt,A14_8_1] [⟨rT⟩,⟨c6⟩,⟨(look_some .i64 (fun y=>AV.agg (e_i64_Lu8i64E_b_i64 y)) e5)⟩,⟨(nF c3)⟩,⟨c2⟩,⟨c2⟩,⟨c2⟩,⟨c2⟩,⟨c1⟩,⟨c1⟩,⟨c1⟩,⟨c1⟩,⟨c0⟩,⟨c0⟩,⟨c0⟩,⟨c0⟩,⟨(nF (nT rfl))⟩,⟨(ok_site_Site_good_8 x5 x6 x7 x8)⟩] (by kernel_rfl)
     rw[if_neg c6] at h;replace c6:=eqf c6
     obtain⟨x10,e7,h⟩:=bsm h
     by_cases c8:eqI x10.2.1 0=true
     · rw[if_pos c8] at h
       by_cases c9:roomI (((x8++[(x1,x2,x3,x4)]).length)*32)=true
       · rw[if_pos c9] at h
         obtain rfl:=osi h
         exact Tri.of (x:=(X14_8 x5 x6 x7 x8)) mixed facts14 [(A14_8_0 x5 x6 x7 x8),df,df,df,df,df,df,df,df,df,df,df,df,df,df,(A14_8_2 x9),df,(A14_8_3 x8 x10),df,.rows (List.map e_i64_i64_u8_i64 [(x1,x2,x3,x4)]),.n ((x8++[(x1,x2,x3,x4)]).length),.n x8.length,dt,.rows (List.map e_i64_i64_u8_i64 (x8++[(x1,x2,x3,x4)])),A14_8_1] [⟨(app_map e_i64_i64_u8_i64 x8 [(x1,x2,x3,x4)])⟩,⟨(eqN_self x8.length)⟩,⟨(len_map e_i64_i64_u8_i64 x8)⟩,⟨c9⟩,⟨(by simp only[wl,List.length_map,List.map_nil,List.map_cons]<;>omega:x8.length+(List.map e_i64_i64_u8_i64 [(x1,x2,x3,x4)]).length=(x8++[(x1,x2,x3,x4)]).length)⟩,⟨(part_all e_i64_i64_u8_i64 (l:=[(x1,x2,x3,x4)]) (n:=1) rfl)⟩,⟨(le_map e_i64_i64_u8_i64 (Nat.le_refl 1):0+1≤(List.map e_i64_i64_u8_i64 [(x1,x2,x3,x4)]).length)⟩,⟨(nF c8)⟩,⟨(ok_site_Site_step_8 k x9.1 x9.2.1 x9.2.2.1 x9.2.2.2 x1 x2 x3 x4 x5 x6 x7 x8 _ e7)⟩,⟨c6⟩,⟨(look_some .i64 (fun y=>AV.agg (e_i64_Lu8i64E_b_i64 y)) e5)⟩,⟨(nF c3)⟩,⟨c2⟩,⟨c2⟩,⟨c2⟩,⟨c2⟩,⟨c1⟩,⟨c1⟩,⟨c1⟩,⟨c1⟩,⟨c0⟩,⟨c0⟩,⟨c0⟩,⟨c0⟩,⟨(nF (nT rfl))⟩,⟨(ok_site_Site_good_8 x5 x6 x7 x8)⟩] (by kernel_rfl)
       rw[if_neg c9] at h;replace c9:=eqf c9
       cases h
     rw[if_neg c8] at h;replace c8:=eqf c8
     obtain rfl:=osi h
     exact Tri.of (x:=(X14_8 x5 x6 x7 x8)) mixed facts14 [(A14_8_0 x5 x6 x7 x8),df,df,df,df,df,df,df,df,df,df,df,df,df,df,(A14_8_2 x9),df,(A14_8_3 x8 x10),dt,A14_8_1] [⟨(nT c8)⟩,⟨(ok_site_Site_step_8 k x9.1 x9.2.1 x9.2.2.1 x9.2.2.2 x1 x2 x3 x4 x5 x6 x7 x8 _ e7)⟩,⟨c6⟩,⟨(look_some .i64 (fun y=>AV.agg (e_i64_Lu8i64E_b_i64 y)) e5)⟩,⟨(nF c3)⟩,⟨c2⟩,⟨c2⟩,⟨c2⟩,⟨c2⟩,⟨c1⟩,⟨c1⟩,⟨c1⟩,⟨c1⟩,⟨c0⟩,⟨c0⟩,⟨c0⟩,⟨c0⟩,⟨(nF (nT rfl))⟩,⟨(ok_site_Site_good_8 x5 x6 x7 x8)⟩] (by kernel_rfl)
   rw[if_neg c4] at h;replace c4:=eqf c4
   by_cases c5:eqB false (eqI x1 1)=true
   · rw[if_pos c5] at h
     obtain rfl:=osi h
     exact Tri.of (x:=(X14_8 x5 x6 x7 x8)) mixed facts14 [(A14_8_0 x5 x6 x7 x8),df,df,df,df,df,df,df,df,df,df,df,df,df,df,.opt none,dt,df,A14_8_1] [⟨rF⟩,⟨c5⟩,⟨(look_none .i64 (fun y=>AV.agg (e_i64_Lu8i64E_b_i64 y)) c4)⟩,⟨(nF c3)⟩,⟨c2⟩,⟨c2⟩,⟨c2⟩,⟨c2⟩,⟨c1⟩,⟨c1⟩,⟨c1⟩,⟨c1⟩,⟨c0⟩,⟨c0⟩,⟨c0⟩,⟨c0⟩,⟨(nF (nT rfl))⟩,⟨(ok_site_Site_good_8 x5 x6 x7 x8)⟩] (by kernel_rfl)
   rw[if_neg c5] at h;replace c5:=eqf c5
   obtain⟨x9,e6,h⟩:=bsm h
   by_cases c7:eqI x9.2.1 0=true
   · rw[if_pos c7] at h
     by_cases c8:roomI (((x8++[(x1,x2,x3,x4)]).length)*32)=true
     · rw[if_pos c8] at h
       obtain rfl:=osi h
       exact Tri.of (x:=(X14_8 x5 x6 x7 x8)) mixed facts14 [(A14_8_0 x5 x6 x7 x8),df,df,df,df,df,df,df,df,df,df,df,df,df,df,.opt none,df,(A14_8_4 x8 x9),df,.rows (List.map e_i64_i64_u8_i64 [(x1,x2,x3,x4)]),.n ((x8++[(x1,x2,x3,x4)]).length),.n x8.length,dt,.rows (List.map e_i64_i64_u8_i64 (x8++[(x1,x2,x3,x4)])),A14_8_1] [⟨(app_map e_i64_i64_u8_i64 x8 [(x1,x2,x3,x4)])⟩,⟨(eqN_self x8.length)⟩,⟨(len_map e_i64_i64_u8_i64 x8)⟩,⟨c8⟩,⟨(by simp only[wl,List.length_map,List.map_nil,List.map_cons]<;>omega:x8.length+(List.map e_i64_i64_u8_i64 [(x1,x2,x3,x4)]).length=(x8++[(x1,x2,x3,x4)]).length)⟩,⟨(part_all e_i64_i64_u8_i64 (l:=[(x1,x2,x3,x4)]) (n:=1) rfl)⟩,⟨(le_map e_i64_i64_u8_i64 (Nat.le_refl 1):0+1≤(List.map e_i64_i64_u8_i64 [(x1,x2,x3,x4)]).length)⟩,⟨(nF c7)⟩,⟨(ok_site_Site_step_8 k 0 [] false 0 x1 x2 x3 x4 x5 x6 x7 x8 _ e6)⟩,⟨c5⟩,⟨(look_none .i64 (fun y=>AV.agg (e_i64_Lu8i64E_b_i64 y)) c4)⟩,⟨(nF c3)⟩,⟨c2⟩,⟨c2⟩,⟨c2⟩,⟨c2⟩,⟨c1⟩,⟨c1⟩,⟨c1⟩,⟨c1⟩,⟨c0⟩,⟨c0⟩,⟨c0⟩,⟨c0⟩,⟨(nF (nT rfl))⟩,⟨(ok_site_Site_good_8 x5 x6 x7 x8)⟩] (by kernel_rfl)
     rw[if_neg c8] at h;replace c8:=eqf c8
     cases h
   rw[if_neg c7] at h;replace c7:=eqf c7
   obtain rfl:=osi h
   exact Tri.of (x:=(X14_8 x5 x6 x7 x8)) mixed facts14 [(A14_8_0 x5 x6 x7 x8),df,df,df,df,df,df,df,df,df,df,df,df,df,df,.opt none,df,(A14_8_4 x8 x9),dt,A14_8_1] [⟨(nT c7)⟩,⟨(ok_site_Site_step_8 k 0 [] false 0 x1 x2 x3 x4 x5 x6 x7 x8 _ e6)⟩,⟨c5⟩,⟨(look_none .i64 (fun y=>AV.agg (e_i64_Lu8i64E_b_i64 y)) c4)⟩,⟨(nF c3)⟩,⟨c2⟩,⟨c2⟩,⟨c2⟩,⟨c2⟩,⟨c1⟩,⟨c1⟩,⟨c1⟩,⟨c1⟩,⟨c0⟩,⟨c0⟩,⟨c0⟩,⟨c0⟩,⟨(nF (nT rfl))⟩,⟨(ok_site_Site_good_8 x5 x6 x7 x8)⟩] (by kernel_rfl)
 rw[if_neg c3] at h;replace c3:=eqf c3
 obtain rfl:=osi h
 exact Tri.of (x:=(X14_8 x5 x6 x7 x8)) mixed facts14 [(A14_8_0 x5 x6 x7 x8),df,df,df,df,df,df,df,df,df,df,df,df,df,dt,A14_8_1] [⟨(nT c3)⟩,⟨c2⟩,⟨c2⟩,⟨c2⟩,⟨c2⟩,⟨c1⟩,⟨c1⟩,⟨c1⟩,⟨c1⟩,⟨c0⟩,⟨c0⟩,⟨c0⟩,⟨c0⟩,⟨(nF (nT rfl))⟩,⟨(ok_site_Site_good_8 x5 x6 x7 x8)⟩] (by kernel_rfl)
end Go.Ws

namespace Go.Ws
open Go.Proofs
set_option linter.unusedSimpArgs false
set_option linter.unusedVariables false
set_option maxRecDepth 1000000
set_option maxHeartbeats 4000000
noncomputable def X22:Ctx:=⟨Try.f22,[],false⟩
noncomputable def L22_0:Code:=at_ Try.f22 [1,1,0,1,4,5]
def S22_0 (x1:Ty11) (v22001_1:Int) (v22001_2:Ty16) (v22001_3:Ty12) (v22001_4:Ty6) (v22001_5:Ty11):St:=⟨mkT 26 [(4,(.hp 0 0)),(10,(.sl 4 (List.map e_i64_i64_u8_i64 x1))),(11,(.int .i64 (nI x1.length))),(12,(.int .i64 v22001_1))],[(.row [(.sl 2 (List.map e_u8_i64 v22001_2)),(.sl 3 (List.map e_u8_i64_b v22001_3)),(.mp 1),(.ref 4 2 0 0 v22001_5.length .virt)]),(.map (encM .i64 (fun y=>AV.agg (e_i64_Lu8i64E_b_i64 y)) v22001_4) v22001_4.length),(.arr 4 (List.map e_i64_i64_u8_i64 v22001_5) 0 0 false)]⟩
def E22_0_0 (v22002_1:Ty16) (v22002_2:Ty12) (v22002_3:Ty6) (v22002_4:Ty11):St:=⟨mkT 26 [(4,(.hp 0 0))],[(.row [(.sl 2 (List.map e_u8_i64 v22002_1)),(.sl 3 (List.map e_u8_i64_b v22002_2)),(.mp 1),(.ref 4 2 0 0 v22002_4.length .virt)]),(.map (encM .i64 (fun y=>AV.agg (e_i64_Lu8i64E_b_i64 y)) v22002_3) v22002_3.length),(.arr 4 (List.map e_i64_i64_u8_i64 v22002_4) 0 0 false)]⟩
def O22_0 (x1:Ty11) (y:Ty0):GX:=match y with
 | .inl y=>.st (.exit 0) (E22_0_0 y.1 y.2.1 y.2.2.1 y.2.2.2)
 | .inr y=>.fin (Sum.elim (fun y=>(.tup [(.hp 0 0),(.int .i64 0)])) (fun y=>(.tup [.nilp,(.int .i64 4)])) y) (Sum.elim (fun y=>[(.row [(.sl 2 (List.map e_u8_i64 y.1)),(.sl 3 (List.map e_u8_i64_b y.2.1)),(.mp 1),(.ref 4 2 0 0 y.2.2.2.length .virt)]),(.map (encM .i64 (fun y=>AV.agg (e_i64_Lu8i64E_b_i64 y)) y.2.2.1) y.2.2.1.length),(.arr 4 (List.map e_i64_i64_u8_i64 y.2.2.2) 0 0 false)]) (fun y=>[]) y)
def A22_0 (v22000_2:Int × Int × Ty16 × Ty12 × Ty6 × Ty11):Ans:=.call ⟨true,[]⟩ (.tup [(.int .i64 v22000_2.2.1),(.int .i64 v22000_2.1)]) [(.row [(.sl 2 (List.map e_u8_i64 v22000_2.2.2.1)),(.sl 3 (List.map e_u8_i64_b v22000_2.2.2.2.1)),(.mp 1),(.ref 4 2 1 0 v22000_2.2.2.2.2.2.length .virt)]),(.map (encM .i64 (fun y=>AV.agg (e_i64_Lu8i64E_b_i64 y)) v22000_2.2.2.2.2.1) v22000_2.2.2.2.2.1.length),(.arr 4 (List.map e_i64_i64_u8_i64 v22000_2.2.2.2.2.2) 1 1 false)]
def A22_1:Ans:=.call ⟨true,[]⟩ (.hp 0 0) [(.row [.nils,.nils,(.mp 1),.nils]),(.map (encM .i64 (fun y=>AV.agg (e_i64_Lu8i64E_b_i64 y)) ([]:Ty6)) ([]:Ty6).length)]
def A22_2:Ans:=.norm 2 ⟨[(4,[]),(10,[]),(11,[]),(12,[])],[⟨.tmp 4,[(0,2),(1,3)],none⟩,⟨.cell 0 2,[],none⟩,⟨.cell 0 3,[],some 4⟩],false,[],[]⟩
theorem ok_site_Replay_l0 (x1:Ty11) (y:Ty0):∀(k:Nat) (v22001_1:Int) (v22001_2:Ty16) (v22001_3:Ty12) (v22001_4:Ty6) (v22001_5:Ty11),site_Replay_l0 k x1 v22001_1 v22001_2 v22001_3 v22001_4 v22001_5=some y→LT Try.prog X22 L22_0 (S22_0 x1 v22001_1 v22001_2 v22001_3 v22001_4 v22001_5) (O22_0 x1 y)
 | 0,v22001_1,v22001_2,v22001_3,v22001_4,v22001_5,h=>by cases h
 | k+1,v22001_1,v22001_2,v22001_3,v22001_4,v22001_5,h=>by
  rw[site_Replay_l0] at h
  by_cases cL0:ltI v22001_1 (nI x1.length)=true
  · rw[if_pos cL0] at h
    by_cases cL1:inI v22001_1 x1.length=true
    · rw[if_pos cL1] at h
      obtain⟨v22000_1,eL2,h⟩:=bsm h
      obtain⟨v22000_2,eL3,h⟩:=bsm h
      by_cases cL4:eqI v22000_2.1 0=true
      · rw[if_pos cL4] at h
        exact LT.next mixed (hs:=⟨[(4,[]),(10,[]),(11,[]),(12,[])],[⟨.tmp 4,[],none⟩,⟨.cell 0 2,[],none⟩,⟨.cell 0 3,[],some 4⟩],false,[],[]⟩) (es:=none) [dt,.n x1.length,.row [(.int .i64 v22000_1.1),(.int .i64 v22000_1.2.1),(.int .u8 v22000_1.2.2.1),(.int .i64 v22000_1.2.2.2)],(A22_0 v22000_2),df,.n v22000_2.2.2.2.2.2.length,.rows (List.map e_i64_i64_u8_i64 v22000_2.2.2.2.2.2)] [⟨(take_all e_i64_i64_u8_i64 (l:=v22000_2.2.2.2.2.2) (n:=v22000_2.2.2.2.2.2.length) rfl)⟩,⟨(rfl:v22000_2.2.2.2.2.2.length=v22000_2.2.2.2.2.2.length)⟩,⟨(zle v22000_2.2.2.2.2.2.length)⟩,⟨(nF cL4)⟩,⟨(ok_site_Site_Do_8 k v22000_1.1 v22000_1.2.1 v22000_1.2.2.1 v22000_1.2.2.2 v22001_2 v22001_3 v22001_4 v22001_5 _ eL3)⟩,⟨(cells_map (e:=e_i64_i64_u8_i64) eL2 4 0 4 (by decide))⟩,⟨cL1⟩,⟨(len_map e_i64_i64_u8_i64 x1)⟩,⟨cL0⟩] (by kernel_rfl) (ok_site_Replay_l0 x1 y k (iadd .i64 v22001_1 1) v22000_2.2.2.1 v22000_2.2.2.2.1 v22000_2.2.2.2.2.1 v22000_2.2.2.2.2.2 h)
      rw[if_neg cL4] at h;replace cL4:=eqf cL4
      obtain rfl:=osi h
      show LT _ _ _ _ (.fin (.tup [.nilp,(.int .i64 4)]) [])
      exact LT.done mixed (hs:=⟨[],[],false,[],[]⟩) (es:=none) [dt,.n x1.length,.row [(.int .i64 v22000_1.1),(.int .i64 v22000_1.2.1),(.int .u8 v22000_1.2.2.1),(.int .i64 v22000_1.2.2.2)],(A22_0 v22000_2),dt,.norm 0 ⟨[(2,[]),(3,[])],[],false,[],[]⟩] [⟨(nT cL4)⟩,⟨(ok_site_Site_Do_8 k v22000_1.1 v22000_1.2.1 v22000_1.2.2.1 v22000_1.2.2.2 v22001_2 v22001_3 v22001_4 v22001_5 _ eL3)⟩,⟨(cells_map (e:=e_i64_i64_u8_i64) eL2 4 0 4 (by decide))⟩,⟨cL1⟩,⟨(len_map e_i64_i64_u8_i64 x1)⟩,⟨cL0⟩] (by kernel_rfl) (fun s h=>by cases h)
    rw[if_neg cL1] at h;replace cL1:=eqf cL1
    cases h
  rw[if_neg cL0] at h;replace cL0:=eqf cL0
  obtain rfl:=osi h
  show LT _ _ _ _ (.st (.exit 0) (E22_0_0 v22001_2 v22001_3 v22001_4 v22001_5))
  exact LT.done mixed (hs:=⟨[],[],false,[],[]⟩) (es:=(some ⟨[(4,[])],[⟨.tmp 4,[],none⟩,⟨.cell 0 2,[],none⟩,⟨.cell 0 3,[],none⟩],false,[],[]⟩)) [df] [⟨cL0⟩] (by kernel_rfl) (fun s h=>by cases h)
theorem ok_site_Replay (k:Nat) (x1:Ty11) (r:Ty3) (h:site_Replay k x1=some r):Tri Try.prog 22 [(.sl 4 (List.map e_i64_i64_u8_i64 x1))] [] (Sum.elim (fun y=>(.tup [(.hp 0 0),(.int .i64 0)])) (fun y=>(.tup [.nilp,(.int .i64 4)])) r) (Sum.elim (fun y=>[(.row [(.sl 2 (List.map e_u8_i64 y.1)),(.sl 3 (List.map e_u8_i64_b y.2.1)),(.mp 1),(.ref 4 2 0 0 y.2.2.2.length .virt)]),(.map (encM .i64 (fun y=>AV.agg (e_i64_Lu8i64E_b_i64 y)) y.2.2.1) y.2.2.1.length),(.arr 4 (List.map e_i64_i64_u8_i64 y.2.2.2) 0 0 false)]) (fun y=>[]) r):=by
 unfold site_Replay at h
 obtain⟨x2,e0,h⟩:=bsm h
 cases x2 with
 | inl x3 =>
  simp only[Sum.elim_inl] at h
  obtain rfl:=osi h
  exact Tri.of (x:=X22) mixed facts22 [A22_1,.n x1.length,A22_2,.n 0,.rows (List.map e_i64_i64_u8_i64 []),.out (.st .normal (E22_0_0 x3.1 x3.2.1 x3.2.2.1 x3.2.2.2)),.norm 0 ⟨[(2,[]),(3,[])],[⟨.tmp 2,[],none⟩,⟨.cell 0 2,[],none⟩,⟨.cell 0 3,[],none⟩],false,[],[]⟩] [⟨(LT.block (ok_site_Replay_l0 x1 _ k 0 [] [] ([]:Ty6) [] e0))⟩,⟨(take_all e_i64_i64_u8_i64 (l:=[]) (n:=0) rfl)⟩,⟨(rfl:0=0)⟩,⟨(zle 0)⟩,⟨(len_map e_i64_i64_u8_i64 x1)⟩,⟨(ok_site_New)⟩] (by kernel_rfl)
 | inr x3 =>
  simp only[Sum.elim_inr] at h
  obtain rfl:=osi h
  exact Tri.of (x:=X22) mixed facts22 [A22_1,.n x1.length,A22_2,.n 0,.rows (List.map e_i64_i64_u8_i64 []),.out (.fin (Sum.elim (fun y=>(.tup [(.hp 0 0),(.int .i64 0)])) (fun y=>(.tup [.nilp,(.int .i64 4)])) x3) (Sum.elim (fun y=>[(.row [(.sl 2 (List.map e_u8_i64 y.1)),(.sl 3 (List.map e_u8_i64_b y.2.1)),(.mp 1),(.ref 4 2 0 0 y.2.2.2.length .virt)]),(.map (encM .i64 (fun y=>AV.agg (e_i64_Lu8i64E_b_i64 y)) y.2.2.1) y.2.2.1.length),(.arr 4 (List.map e_i64_i64_u8_i64 y.2.2.2) 0 0 false)]) (fun y=>[]) x3))] [⟨(LT.blockFin (id:=0) (ok_site_Replay_l0 x1 _ k 0 [] [] ([]:Ty6) [] e0))⟩,⟨(take_all e_i64_i64_u8_i64 (l:=[]) (n:=0) rfl)⟩,⟨(rfl:0=0)⟩,⟨(zle 0)⟩,⟨(len_map e_i64_i64_u8_i64 x1)⟩,⟨(ok_site_New)⟩] (by kernel_rfl)
end Go.Ws

namespace Go.Ws
open Go.Proofs
set_option linter.unusedSimpArgs false
set_option linter.unusedVariables false
set_option maxRecDepth 1000000
set_option maxHeartbeats 4000000
noncomputable def X9:Ctx:=⟨Try.f9,[],true⟩
noncomputable def L9_2:Code:=at_ Try.f9 [1,1,1,1,1,1,1,1,1,1,0,1,4,5]
def S9_2 (x9:Ty16 × Ty12 × Ty16 × Ty12 × Ty6 × Ty11 × Ty6 × Ty11) (v9021_1:Int):St:=⟨mkT 106 [(14,(.ref 4 0 0 0 x9.2.2.2.2.2.1.length .virt)),(15,(.ref 4 1 0 0 x9.2.2.2.2.2.2.2.length .virt)),(92,(.int .i64 (nI x9.2.2.2.2.2.1.length))),(93,(.int .i64 v9021_1))],[(.arr 4 (List.map e_i64_i64_u8_i64 x9.2.2.2.2.2.1) 0 0 true),(.arr 4 (List.map e_i64_i64_u8_i64 x9.2.2.2.2.2.2.2) 0 0 true)]⟩
def E9_2_4:St:=⟨mkT 106 [],[]⟩
def O9_2 (x9:Ty16 × Ty12 × Ty16 × Ty12 × Ty6 × Ty11 × Ty6 × Ty11) (y:Ty14):GX:=match y with
 | .inl y=>.st (.exit 4) (E9_2_4)
 | .inr y=>.fin (.bool y) []
noncomputable def L9_1:Code:=at_ Try.f9 [1,1,1,1,1,1,1,0,1,4,5]
def S9_1 (x9:Ty16 × Ty12 × Ty16 × Ty12 × Ty6 × Ty11 × Ty6 × Ty11) (v9011_1:Int):St:=⟨mkT 106 [(5,(.hp 0 0)),(6,(.hp 1 0)),(71,(.int .u8 v9011_1))],[(.row [(.sl 2 (List.map e_u8_i64 x9.1)),(.sl 3 (List.map e_u8_i64_b x9.2.1)),(.mp 2),(.ref 4 3 0 0 x9.2.2.2.2.2.1.length .virt)]),(.row [(.sl 2 (List.map e_u8_i64 x9.2.2.1)),(.sl 3 (List.map e_u8_i64_b x9.2.2.2.1)),(.mp 4),(.ref 4 5 0 0 x9.2.2.2.2.2.2.2.length .virt)]),(.map (encM .i64 (fun y=>AV.agg (e_i64_Lu8i64E_b_i64 y)) x9.2.2.2.2.1) x9.2.2.2.2.1.length),(.arr 4 (List.map e_i64_i64_u8_i64 x9.2.2.2.2.2.1) 0 0 true),(.map (encM .i64 (fun y=>AV.agg (e_i64_Lu8i64E_b_i64 y)) x9.2.2.2.2.2.2.1) x9.2.2.2.2.2.2.1.length),(.arr 4 (List.map e_i64_i64_u8_i64 x9.2.2.2.2.2.2.2) 0 0 true)]⟩
def E9_1_2 (x9:Ty16 × Ty12 × Ty16 × Ty12 × Ty6 × Ty11 × Ty6 × Ty11):St:=⟨mkT 106 [(5,(.hp 0 0)),(6,(.hp 1 0))],[(.row [(.sl 2 (List.map e_u8_i64 x9.1)),(.sl 3 (List.map e_u8_i64_b x9.2.1)),(.mp 2),(.ref 4 3 0 0 x9.2.2.2.2.2.1.length .virt)]),(.row [(.sl 2 (List.map e_u8_i64 x9.2.2.1)),(.sl 3 (List.map e_u8_i64_b x9.2.2.2.1)),(.mp 4),(.ref 4 5 0 0 x9.2.2.2.2.2.2.2.length .virt)]),(.map (encM .i64 (fun y=>AV.agg (e_i64_Lu8i64E_b_i64 y)) x9.2.2.2.2.1) x9.2.2.2.2.1.length),(.arr 4 (List.map e_i64_i64_u8_i64 x9.2.2.2.2.2.1) 0 0 true),(.map (encM .i64 (fun y=>AV.agg (e_i64_Lu8i64E_b_i64 y)) x9.2.2.2.2.2.2.1) x9.2.2.2.2.2.2.1.length),(.arr 4 (List.map e_i64_i64_u8_i64 x9.2.2.2.2.2.2.2) 0 0 true)]⟩
def O9_1 (x9:Ty16 × Ty12 × Ty16 × Ty12 × Ty6 × Ty11 × Ty6 × Ty11) (y:Ty14):GX:=match y with
 | .inl y=>.st (.exit 2) (E9_1_2 x9)
 | .inr y=>.fin (.bool y) []
noncomputable def L9_0:Code:=at_ Try.f9 [1,1,1,1,1,1,0,1,4,5]
def S9_0 (x2:Ty11) (v9001_1:Int) (v9001_2:Ty16) (v9001_3:Ty12) (v9001_4:Ty16) (v9001_5:Ty12) (v9001_6:Ty6) (v9001_7:Ty11) (v9001_8:Ty6) (v9001_9:Ty11):St:=⟨mkT 106 [(1,(.sl 4 (List.map e_i64_i64_u8_i64 x2))),(5,(.hp 0 0)),(6,(.hp 1 0)),(8,(.int .i64 v9001_1))],[(.row [(.sl 2 (List.map e_u8_i64 v9001_2)),(.sl 3 (List.map e_u8_i64_b v9001_3)),(.mp 2),(.ref 4 3 0 0 v9001_7.length .virt)]),(.row [(.sl 2 (List.map e_u8_i64 v9001_4)),(.sl 3 (List.map e_u8_i64_b v9001_5)),(.mp 4),(.ref 4 5 0 0 v9001_9.length .virt)]),(.map (encM .i64 (fun y=>AV.agg (e_i64_Lu8i64E_b_i64 y)) v9001_6) v9001_6.length),(.arr 4 (List.map e_i64_i64_u8_i64 v9001_7) 0 0 true),(.map (encM .i64 (fun y=>AV.agg (e_i64_Lu8i64E_b_i64 y)) v9001_8) v9001_8.length),(.arr 4 (List.map e_i64_i64_u8_i64 v9001_9) 0 0 true)]⟩
def E9_0_0 (v9002_1:Ty16) (v9002_2:Ty12) (v9002_3:Ty16) (v9002_4:Ty12) (v9002_5:Ty6) (v9002_6:Ty11) (v9002_7:Ty6) (v9002_8:Ty11):St:=⟨mkT 106 [(5,(.hp 0 0)),(6,(.hp 1 0))],[(.row [(.sl 2 (List.map e_u8_i64 v9002_1)),(.sl 3 (List.map e_u8_i64_b v9002_2)),(.mp 2),(.ref 4 3 0 0 v9002_6.length .virt)]),(.row [(.sl 2 (List.map e_u8_i64 v9002_3)),(.sl 3 (List.map e_u8_i64_b v9002_4)),(.mp 4),(.ref 4 5 0 0 v9002_8.length .virt)]),(.map (encM .i64 (fun y=>AV.agg (e_i64_Lu8i64E_b_i64 y)) v9002_5) v9002_5.length),(.arr 4 (List.map e_i64_i64_u8_i64 v9002_6) 0 0 true),(.map (encM .i64 (fun y=>AV.agg (e_i64_Lu8i64E_b_i64 y)) v9002_7) v9002_7.length),(.arr 4 (List.map e_i64_i64_u8_i64 v9002_8) 0 0 true)]⟩
def O9_0 (x2:Ty11) (y:Ty1):GX:=match y with
 | .inl y=>.st (.exit 0) (E9_0_0 y.1 y.2.1 y.2.2.1 y.2.2.2.1 y.2.2.2.2.1 y.2.2.2.2.2.1 y.2.2.2.2.2.2.1 y.2.2.2.2.2.2.2)
 | .inr y=>.fin (.bool y) []
def A9_0 (v9020_1:Int × Int × Int × Int):Ans:=.row [(.int .i64 v9020_1.1),(.int .i64 v9020_1.2.1),(.int .u8 v9020_1.2.2.1),(.int .i64 v9020_1.2.2.2)]
def A9_1 (v9020_2:Int × Int × Int × Int):Ans:=.row [(.int .i64 v9020_2.1),(.int .i64 v9020_2.2.1),(.int .u8 v9020_2.2.2.1),(.int .i64 v9020_2.2.2.2)]
def A9_2 (v9000_1:Int × Int × Int × Int):Ans:=.row [(.int .i64 v9000_1.1),(.int .i64 v9000_1.2.1),(.int .u8 v9000_1.2.2.1),(.int .i64 v9000_1.2.2.2)]
def A9_3 (v9000_2:Int × Int × Ty16 × Ty12 × Ty6 × Ty11):Ans:=.call ⟨true,[]⟩ (.tup [(.int .i64 v9000_2.2.1),(.int .i64 v9000_2.1)]) [(.row [(.sl 2 (List.map e_u8_i64 v9000_2.2.2.1)),(.sl 3 (List.map e_u8_i64_b v9000_2.2.2.2.1)),(.mp 1),(.ref 4 2 1 0 v9000_2.2.2.2.2.2.length .virt)]),(.map (encM .i64 (fun y=>AV.agg (e_i64_Lu8i64E_b_i64 y)) v9000_2.2.2.2.2.1) v9000_2.2.2.2.2.1.length),(.arr 4 (List.map e_i64_i64_u8_i64 v9000_2.2.2.2.2.2) 1 1 true)]
def A9_4 (v9000_3:Int × Int × Ty16 × Ty12 × Ty6 × Ty11):Ans:=.call ⟨true,[]⟩ (.tup [(.int .i64 v9000_3.2.1),(.int .i64 v9000_3.1)]) [(.row [(.sl 2 (List.map e_u8_i64 v9000_3.2.2.1)),(.sl 3 (List.map e_u8_i64_b v9000_3.2.2.2.1)),(.mp 1),(.ref 4 2 1 0 v9000_3.2.2.2.2.2.length .virt)]),(.map (encM .i64 (fun y=>AV.agg (e_i64_Lu8i64E_b_i64 y)) v9000_3.2.2.2.2.1) v9000_3.2.2.2.2.1.length),(.arr 4 (List.map e_i64_i64_u8_i64 v9000_3.2.2.2.2.2) 1 1 true)]
def A9_5 (x4:Ty16 × Ty12 × Ty6 × Ty11):Ans:=.call ⟨true,[]⟩ (.hp 0 0) [(.row [(.sl 2 (List.map e_u8_i64 x4.1)),(.sl 3 (List.map e_u8_i64_b x4.2.1)),(.mp 1),(.ref 4 2 0 0 x4.2.2.2.length .virt)]),(.map (encM .i64 (fun y=>AV.agg (e_i64_Lu8i64E_b_i64 y)) x4.2.2.1) x4.2.2.1.length),(.arr 4 (List.map e_i64_i64_u8_i64 x4.2.2.2) 0 0 true)]
def A9_6 (x4:Ty16 × Ty12 × Ty6 × Ty11):Ans:=.call ⟨true,[]⟩ (.ref 4 3 0 0 x4.2.2.2.length .virt) [(.row [(.sl 2 (List.map e_u8_i64 x4.1)),(.sl 3 (List.map e_u8_i64_b x4.2.1)),(.mp 1),(.ref 4 2 0 0 x4.2.2.2.length .virt)]),(.map (encM .i64 (fun y=>AV.agg (e_i64_Lu8i64E_b_i64 y)) x4.2.2.1) x4.2.2.1.length),(.arr 4 (List.map e_i64_i64_u8_i64 x4.2.2.2) 0 0 true),(.arr 4 (List.map e_i64_i64_u8_i64 x4.2.2.2) 0 0 false)]
def A9_7 (x7:Ty16 × Ty12 × Ty6 × Ty11):Ans:=.call ⟨true,[]⟩ (.tup [(.hp 0 0),(.int .i64 0)]) [(.row [(.sl 2 (List.map e_u8_i64 x7.1)),(.sl 3 (List.map e_u8_i64_b x7.2.1)),(.mp 1),(.ref 4 2 0 0 x7.2.2.2.length .virt)]),(.map (encM .i64 (fun y=>AV.agg (e_i64_Lu8i64E_b_i64 y)) x7.2.2.1) x7.2.2.1.length),(.arr 4 (List.map e_i64_i64_u8_i64 x7.2.2.2) 0 0 false)]
def A9_8:Ans:=.norm 2 ⟨[(1,[]),(5,[]),(6,[]),(8,[])],[⟨.tmp 5,[],none⟩,⟨.tmp 6,[],none⟩,⟨.cell 0 2,[],none⟩,⟨.cell 0 3,[],none⟩,⟨.cell 1 2,[],none⟩,⟨.cell 1 3,[],none⟩],true,[],[]⟩
def A9_9:Ans:=.norm 8 ⟨[(5,[]),(6,[]),(71,[])],[⟨.tmp 5,[],none⟩,⟨.tmp 6,[],none⟩,⟨.cell 0 2,[],none⟩,⟨.cell 0 3,[],none⟩,⟨.cell 1 2,[],none⟩,⟨.cell 1 3,[],none⟩],true,[],[]⟩
def A9_10 (x9:Ty16 × Ty12 × Ty16 × Ty12 × Ty6 × Ty11 × Ty6 × Ty11):Ans:=.call ⟨true,[]⟩ (.ref 4 3 0 0 x9.2.2.2.2.2.1.length .virt) [(.row [(.sl 2 (List.map e_u8_i64 x9.1)),(.sl 3 (List.map e_u8_i64_b x9.2.1)),(.mp 1),(.ref 4 2 0 0 x9.2.2.2.2.2.1.length .virt)]),(.map (encM .i64 (fun y=>AV.agg (e_i64_Lu8i64E_b_i64 y)) x9.2.2.2.2.1) x9.2.2.2.2.1.length),(.arr 4 (List.map e_i64_i64_u8_i64 x9.2.2.2.2.2.1) 0 0 true),(.arr 4 (List.map e_i64_i64_u8_i64 x9.2.2.2.2.2.1) 0 0 false)]
def A9_11 (x9:Ty16 × Ty12 × Ty16 × Ty12 × Ty6 × Ty11 × Ty6 × Ty11):Ans:=.call ⟨true,[]⟩ (.ref 4 3 0 0 x9.2.2.2.2.2.2.2.length .virt) [(.row [(.sl 2 (List.map e_u8_i64 x9.2.2.1)),(.sl 3 (List.map e_u8_i64_b x9.2.2.2.1)),(.mp 1),(.ref 4 2 0 0 x9.2.2.2.2.2.2.2.length .virt)]),(.map (encM .i64 (fun y=>AV.agg (e_i64_Lu8i64E_b_i64 y)) x9.2.2.2.2.2.2.1) x9.2.2.2.2.2.2.1.length),(.arr 4 (List.map e_i64_i64_u8_i64 x9.2.2.2.2.2.2.2) 0 0 true),(.arr 4 (List.map e_i64_i64_u8_i64 x9.2.2.2.2.2.2.2) 0 0 false)]
def A9_12:Ans:=.norm 14 ⟨[(14,[]),(15,[]),(92,[]),(93,[])],[⟨.tmp 14,[],none⟩,⟨.tmp 15,[],none⟩],true,[],[]⟩
theorem ok_law10_SiteAgain_l2 (x9:Ty16 × Ty12 × Ty16 × Ty12 × Ty6 × Ty11 × Ty6 × Ty11) (y:Ty14):∀(k:Nat) (v9021_1:Int),law10_SiteAgain_l2 k x9 v9021_1=some y→LT Try.prog X9 L9_2 (S9_2 x9 v9021_1) (O9_2 x9 y)
 | 0,v9021_1,h=>by cases h
 | k+1,v9021_1,h=>by
  rw[law10_SiteAgain_l2] at h
  by_cases cL0:ltI v9021_1 (nI x9.2.2.2.2.2.1.length)=true
  · rw[if_pos cL0] at h
    by_cases cL1:inI v9021_1 x9.2.2.2.2.2.1.length=true
    · rw[if_pos cL1] at h
      obtain⟨v9020_1,eL2,h⟩:=bsm h
      by_cases cL3:inI v9021_1 x9.2.2.2.2.2.2.2.length=true
      · rw[if_pos cL3] at h
        obtain⟨v9020_2,eL4,h⟩:=bsm h
        by_cases cL5:eqI v9020_1.1 v9020_2.1=true
        · rw[if_pos cL5] at h
          by_cases cL6:eqI v9020_1.2.1 v9020_2.2.1=true
          · rw[if_pos cL6] at h
            by_cases cL7:eqI v9020_1.2.2.1 v9020_2.2.2.1=true
            · rw[if_pos cL7] at h
              by_cases cL8:eqI v9020_1.2.2.2 v9020_2.2.2.2=true
              · rw[if_pos cL8] at h
                exact LT.next mixed (hs:=⟨[(14,[]),(15,[]),(92,[]),(93,[])],[⟨.tmp 14,[],none⟩,⟨.tmp 15,[],none⟩],true,[],[]⟩) (es:=none) [dt,(A9_0 v9020_1),(A9_1 v9020_2),df] [⟨(nF (aT cL5 (aT cL6 (aT cL7 cL8))))⟩,⟨(cells_map (e:=e_i64_i64_u8_i64) eL4 4 0 4 (by decide))⟩,⟨cL3⟩,⟨(cells_map (e:=e_i64_i64_u8_i64) eL2 4 0 4 (by decide))⟩,⟨cL1⟩,⟨cL0⟩] (by kernel_rfl) (ok_law10_SiteAgain_l2 x9 y k (iadd .i64 v9021_1 1) h)
              rw[if_neg cL8] at h;replace cL8:=eqf cL8
              obtain rfl:=osi h
              show LT _ _ _ _ (.fin (.bool false) [])
              exact LT.done mixed (hs:=⟨[],[],false,[],[]⟩) (es:=none) [dt,(A9_0 v9020_1),(A9_1 v9020_2),dt] [⟨(nT (aF2 cL5 (aF2 cL6 (aF2 cL7 cL8))))⟩,⟨(cells_map (e:=e_i64_i64_u8_i64) eL4 4 0 4 (by decide))⟩,⟨cL3⟩,⟨(cells_map (e:=e_i64_i64_u8_i64) eL2 4 0 4 (by decide))⟩,⟨cL1⟩,⟨cL0⟩] (by kernel_rfl) (fun s h=>by cases h)
            rw[if_neg cL7] at h;replace cL7:=eqf cL7
            obtain rfl:=osi h
            show LT _ _ _ _ (.fin (.bool false) [])
            exact LT.done mixed (hs:=⟨[],[],false,[],[]⟩) (es:=none) [dt,(A9_0 v9020_1),(A9_1 v9020_2),dt] [⟨(nT (aF2 cL5 (aF2 cL6 (aF1 (b:=eqI v9020_1.2.2.2 v9020_2.2.2.2) cL7))))⟩,⟨(cells_map (e:=e_i64_i64_u8_i64) eL4 4 0 4 (by decide))⟩,⟨cL3⟩,⟨(cells_map (e:=e_i64_i64_u8_i64) eL2 4 0 4 (by decide))⟩,⟨cL1⟩,⟨cL0⟩] (by kernel_rfl) (fun s h=>by cases h)
          rw[if_neg cL6] at h;replace cL6:=eqf cL6
          obtain rfl:=osi h
          show LT _ _ _ _ (.fin (.bool false) [])
          exact LT.done mixed (hs:=⟨[],[],false,[],[]⟩) (es:=none) [dt,(A9_0 v9020_1),(A9_1 v9020_2),dt] [⟨(nT (aF2 cL5 (aF1 (b:=(eqI v9020_1.2.2.1 v9020_2.2.2.1 && eqI v9020_1.2.2.2 v9020_2.2.2.2)) cL6)))⟩,⟨(cells_map (e:=e_i64_i64_u8_i64) eL4 4 0 4 (by decide))⟩,⟨cL3⟩,⟨(cells_map (e:=e_i64_i64_u8_i64) eL2 4 0 4 (by decide))⟩,⟨cL1⟩,⟨cL0⟩] (by kernel_rfl) (fun s h=>by cases h)
        rw[if_neg cL5] at h;replace cL5:=eqf cL5
        obtain rfl:=osi h
        show LT _ _ _ _ (.fin (.bool false) [])
        exact LT.done mixed (hs:=⟨[],[],false,[],[]⟩) (es:=none) [dt,(A9_0 v9020_1),(A9_1 v9020_2),dt] [⟨(nT (aF1 (b:=(eqI v9020_1.2.1 v9020_2.2.1 && (eqI v9020_1.2.2.1 v9020_2.2.2.1 && eqI v9020_1.2.2.2 v9020_2.2.2.2))) cL5))⟩,⟨(cells_map (e:=e_i64_i64_u8_i64) eL4 4 0 4 (by decide))⟩,⟨cL3⟩,⟨(cells_map (e:=e_i64_i64_u8_i64) eL2 4 0 4 (by decide))⟩,⟨cL1⟩,⟨cL0⟩] (by kernel_rfl) (fun s h=>by cases h)
      rw[if_neg cL3] at h;replace cL3:=eqf cL3
      cases h
    rw[if_neg cL1] at h;replace cL1:=eqf cL1
    cases h
  rw[if_neg cL0] at h;replace cL0:=eqf cL0
  obtain rfl:=osi h
  show LT _ _ _ _ (.st (.exit 4) (E9_2_4))
  exact LT.done mixed (hs:=⟨[],[],false,[],[]⟩) (es:=(some ⟨[],[],true,[],[]⟩)) [df] [⟨cL0⟩] (by kernel_rfl) (fun s h=>by cases h)
theorem ok_law10_SiteAgain_l1 (x9:Ty16 × Ty12 × Ty16 × Ty12 × Ty6 × Ty11 × Ty6 × Ty11) (y:Ty14):∀(k:Nat) (v9011_1:Int),law10_SiteAgain_l1 k x9 v9011_1=some y→LT Try.prog X9 L9_1 (S9_1 x9 v9011_1) (O9_1 x9 y)
 | 0,v9011_1,h=>by cases h
 | k+1,v9011_1,h=>by
  rw[law10_SiteAgain_l1] at h
  by_cases cL0:ltI v9011_1 64=true
  · rw[if_pos cL0] at h
    obtain⟨v9010_1,eL1,h⟩:=bsm h
    obtain⟨v9010_2,eL2,h⟩:=bsm h
    by_cases cL3:eqI v9010_1 v9010_2=true
    · rw[if_pos cL3] at h
      exact LT.next mixed (hs:=⟨[(5,[]),(6,[]),(71,[])],[⟨.tmp 5,[],none⟩,⟨.tmp 6,[],none⟩,⟨.cell 0 2,[],none⟩,⟨.cell 0 3,[],none⟩,⟨.cell 1 2,[],none⟩,⟨.cell 1 3,[],none⟩],true,[],[]⟩) (es:=none) [dt,.call ⟨true,[]⟩ (.int .i64 v9010_1) [(.row [(.sl 2 (List.map e_u8_i64 x9.1)),(.sl 3 (List.map e_u8_i64_b x9.2.1)),(.mp 1),(.ref 4 2 0 0 x9.2.2.2.2.2.1.length .virt)]),(.map (encM .i64 (fun y=>AV.agg (e_i64_Lu8i64E_b_i64 y)) x9.2.2.2.2.1) x9.2.2.2.2.1.length),(.arr 4 (List.map e_i64_i64_u8_i64 x9.2.2.2.2.2.1) 0 0 true)],.call ⟨true,[]⟩ (.int .i64 v9010_2) [(.row [(.sl 2 (List.map e_u8_i64 x9.2.2.1)),(.sl 3 (List.map e_u8_i64_b x9.2.2.2.1)),(.mp 1),(.ref 4 2 0 0 x9.2.2.2.2.2.2.2.length .virt)]),(.map (encM .i64 (fun y=>AV.agg (e_i64_Lu8i64E_b_i64 y)) x9.2.2.2.2.2.2.1) x9.2.2.2.2.2.2.1.length),(.arr 4 (List.map e_i64_i64_u8_i64 x9.2.2.2.2.2.2.2) 0 0 true)],df] [⟨(nF cL3)⟩,⟨(ok_site_Site_Get k v9011_1 x9.2.2.1 x9.2.2.2.1 x9.2.2.2.2.2.2.1 x9.2.2.2.2.2.2.2 _ eL2)⟩,⟨(ok_site_Site_Get k v9011_1 x9.1 x9.2.1 x9.2.2.2.2.1 x9.2.2.2.2.2.1 _ eL1)⟩,⟨cL0⟩] (by kernel_rfl) (ok_law10_SiteAgain_l1 x9 y k (iadd .u8 v9011_1 1) h)
    rw[if_neg cL3] at h;replace cL3:=eqf cL3
    obtain rfl:=osi h
    show LT _ _ _ _ (.fin (.bool false) [])
    exact LT.done mixed (hs:=⟨[],[],false,[],[]⟩) (es:=none) [dt,.call ⟨true,[]⟩ (.int .i64 v9010_1) [(.row [(.sl 2 (List.map e_u8_i64 x9.1)),(.sl 3 (List.map e_u8_i64_b x9.2.1)),(.mp 1),(.ref 4 2 0 0 x9.2.2.2.2.2.1.length .virt)]),(.map (encM .i64 (fun y=>AV.agg (e_i64_Lu8i64E_b_i64 y)) x9.2.2.2.2.1) x9.2.2.2.2.1.length),(.arr 4 (List.map e_i64_i64_u8_i64 x9.2.2.2.2.2.1) 0 0 true)],.call ⟨true,[]⟩ (.int .i64 v9010_2) [(.row [(.sl 2 (List.map e_u8_i64 x9.2.2.1)),(.sl 3 (List.map e_u8_i64_b x9.2.2.2.1)),(.mp 1),(.ref 4 2 0 0 x9.2.2.2.2.2.2.2.length .virt)]),(.map (encM .i64 (fun y=>AV.agg (e_i64_Lu8i64E_b_i64 y)) x9.2.2.2.2.2.2.1) x9.2.2.2.2.2.2.1.length),(.arr 4 (List.map e_i64_i64_u8_i64 x9.2.2.2.2.2.2.2) 0 0 true)],dt] [⟨(nT cL3)⟩,⟨(ok_site_Site_Get k v9011_1 x9.2.2.1 x9.2.2.2.1 x9.2.2.2.2.2.2.1 x9.2.2.2.2.2.2.2 _ eL2)⟩,⟨(ok_site_Site_Get k v9011_1 x9.1 x9.2.1 x9.2.2.2.2.1 x9.2.2.2.2.2.1 _ eL1)⟩,⟨cL0⟩] (by kernel_rfl) (fun s h=>by cases h)
  rw[if_neg cL0] at h;replace cL0:=eqf cL0
  obtain rfl:=osi h
  show LT _ _ _ _ (.st (.exit 2) (E9_1_2 x9))
  exact LT.done mixed (hs:=⟨[],[],false,[],[]⟩) (es:=(some ⟨[(5,[]),(6,[])],[⟨.tmp 5,[],none⟩,⟨.tmp 6,[],none⟩,⟨.cell 0 2,[],none⟩,⟨.cell 0 3,[],none⟩,⟨.cell 1 2,[],none⟩,⟨.cell 1 3,[],none⟩],true,[],[]⟩)) [df] [⟨cL0⟩] (by kernel_rfl) (fun s h=>by cases h)
theorem ok_law10_SiteAgain_l0 (x2:Ty11) (y:Ty1):∀(k:Nat) (v9001_1:Int) (v9001_2:Ty16) (v9001_3:Ty12) (v9001_4:Ty16) (v9001_5:Ty12) (v9001_6:Ty6) (v9001_7:Ty11) (v9001_8:Ty6) (v9001_9:Ty11),law10_SiteAgain_l0 k x2 v9001_1 v9001_2 v9001_3 v9001_4 v9001_5 v9001_6 v9001_7 v9001_8 v9001_9=some y→LT Try.prog X9 L9_0 (S9_0 x2 v9001_1 v9001_2 v9001_3 v9001_4 v9001_5 v9001_6 v9001_7 v9001_8 v9001_9) (O9_0 x2 y)
 | 0,v9001_1,v9001_2,v9001_3,v9001_4,v9001_5,v9001_6,v9001_7,v9001_8,v9001_9,h=>by cases h
 | k+1,v9001_1,v9001_2,v9001_3,v9001_4,v9001_5,v9001_6,v9001_7,v9001_8,v9001_9,h=>by
  rw[law10_SiteAgain_l0] at h
  by_cases cL0:ltI v9001_1 (nI x2.length)=true
  · rw[if_pos cL0] at h
    by_cases cL1:ltI v9001_1 120=true
    · rw[if_pos cL1] at h
      by_cases cL2:inI v9001_1 x2.length=true
      · rw[if_pos cL2] at h
        obtain⟨v9000_1,eL3,h⟩:=bsm h
        obtain⟨v9000_2,eL4,h⟩:=bsm h
        obtain⟨v9000_3,eL5,h⟩:=bsm h
        by_cases cL6:eqI v9000_2.2.1 v9000_3.2.1=true
        · rw[if_pos cL6] at h
          by_cases cL7:eqI v9000_2.1 v9000_3.1=true
          · rw[if_pos cL7] at h
            exact LT.next mixed (hs:=⟨[(1,[]),(5,[]),(6,[]),(8,[])],[⟨.tmp 5,[],none⟩,⟨.tmp 6,[],none⟩,⟨.cell 0 2,[],none⟩,⟨.cell 0 3,[],none⟩,⟨.cell 1 2,[],none⟩,⟨.cell 1 3,[],none⟩],true,[],[]⟩) (es:=none) [.n x2.length,dt,dt,dt,dt,.n x2.length,(A9_2 v9000_1),(A9_3 v9000_2),.n x2.length,(A9_2 v9000_1),(A9_4 v9000_3),df,df,df,df,df] [⟨(nF cL7)⟩,⟨(nF cL6)⟩,⟨(nF cL6)⟩,⟨(nF cL6)⟩,⟨(nF cL6)⟩,⟨(ok_site_Site_Do_3 k v9000_1.1 v9000_1.2.1 v9000_1.2.2.1 v9000_1.2.2.2 v9001_4 v9001_5 v9001_8 v9001_9 _ eL5)⟩,⟨(cells_map (e:=e_i64_i64_u8_i64) eL3 4 0 4 (by decide))⟩,⟨cL2⟩,⟨(len_map e_i64_i64_u8_i64 x2)⟩,⟨(ok_site_Site_Do_3 k v9000_1.1 v9000_1.2.1 v9000_1.2.2.1 v9000_1.2.2.2 v9001_2 v9001_3 v9001_6 v9001_7 _ eL4)⟩,⟨(cells_map (e:=e_i64_i64_u8_i64) eL3 4 0 4 (by decide))⟩,⟨cL2⟩,⟨(len_map e_i64_i64_u8_i64 x2)⟩,⟨cL1⟩,⟨cL0⟩,⟨cL0⟩,⟨cL0⟩,⟨(len_map e_i64_i64_u8_i64 x2)⟩] (by kernel_rfl) (ok_law10_SiteAgain_l0 x2 y k (iadd .i64 v9001_1 1) v9000_2.2.2.1 v9000_2.2.2.2.1 v9000_3.2.2.1 v9000_3.2.2.2.1 v9000_2.2.2.2.2.1 v9000_2.2.2.2.2.2 v9000_3.2.2.2.2.1 v9000_3.2.2.2.2.2 h)
          rw[if_neg cL7] at h;replace cL7:=eqf cL7
          obtain rfl:=osi h
          show LT _ _ _ _ (.fin (.bool false) [])
          exact LT.done mixed (hs:=⟨[],[],false,[],[]⟩) (es:=none) [.n x2.length,dt,dt,dt,dt,.n x2.length,(A9_2 v9000_1),(A9_3 v9000_2),.n x2.length,(A9_2 v9000_1),(A9_4 v9000_3),df,df,df,df,dt] [⟨(nT cL7)⟩,⟨(nF cL6)⟩,⟨(nF cL6)⟩,⟨(nF cL6)⟩,⟨(nF cL6)⟩,⟨(ok_site_Site_Do_3 k v9000_1.1 v9000_1.2.1 v9000_1.2.2.1 v9000_1.2.2.2 v9001_4 v9001_5 v9001_8 v9001_9 _ eL5)⟩,⟨(cells_map (e:=e_i64_i64_u8_i64) eL3 4 0 4 (by decide))⟩,⟨cL2⟩,⟨(len_map e_i64_i64_u8_i64 x2)⟩,⟨(ok_site_Site_Do_3 k v9000_1.1 v9000_1.2.1 v9000_1.2.2.1 v9000_1.2.2.2 v9001_2 v9001_3 v9001_6 v9001_7 _ eL4)⟩,⟨(cells_map (e:=e_i64_i64_u8_i64) eL3 4 0 4 (by decide))⟩,⟨cL2⟩,⟨(len_map e_i64_i64_u8_i64 x2)⟩,⟨cL1⟩,⟨cL0⟩,⟨cL0⟩,⟨cL0⟩,⟨(len_map e_i64_i64_u8_i64 x2)⟩] (by kernel_rfl) (fun s h=>by cases h)
        rw[if_neg cL6] at h;replace cL6:=eqf cL6
        obtain rfl:=osi h
        show LT _ _ _ _ (.fin (.bool false) [])
        exact LT.done mixed (hs:=⟨[],[],false,[],[]⟩) (es:=none) [.n x2.length,dt,dt,dt,dt,.n x2.length,(A9_2 v9000_1),(A9_3 v9000_2),.n x2.length,(A9_2 v9000_1),(A9_4 v9000_3),dt,dt,dt,dt,dt] [⟨rT⟩,⟨(nT cL6)⟩,⟨(nT cL6)⟩,⟨(nT cL6)⟩,⟨(nT cL6)⟩,⟨(ok_site_Site_Do_3 k v9000_1.1 v9000_1.2.1 v9000_1.2.2.1 v9000_1.2.2.2 v9001_4 v9001_5 v9001_8 v9001_9 _ eL5)⟩,⟨(cells_map (e:=e_i64_i64_u8_i64) eL3 4 0 4 (by decide))⟩,⟨cL2⟩,⟨(len_map e_i64_i64_u8_i64 x2)⟩,⟨(ok_site_Site_Do_3 k v9000_1.1 v9000_1.2.1 v9000_1.2.2.1 v9000_1.2.2.2 v9001_2 v9001_3 v9001_6 v9001_7 _ eL4)⟩,⟨(cells_map (e:=e_i64_i64_u8_i64) eL3 4 0 4 (by decide))⟩,⟨cL2⟩,⟨(len_map e_i64_i64_u8_i64 x2)⟩,⟨cL1⟩,⟨cL0⟩,⟨cL0⟩,⟨cL0⟩,⟨(len_map e_i64_i64_u8_i64 x2)⟩] (by kernel_rfl) (fun s h=>by cases h)
      rw[if_neg cL2] at h;replace cL2:=eqf cL2
      cases h
    rw[if_neg cL1] at h;replace cL1:=eqf cL1
    obtain rfl:=osi h
    show LT _ _ _ _ (.st (.exit 0) (E9_0_0 v9001_2 v9001_3 v9001_4 v9001_5 v9001_6 v9001_7 v9001_8 v9001_9))
    exact LT.done mixed (hs:=⟨[],[],false,[],[]⟩) (es:=(some ⟨[(5,[]),(6,[])],[⟨.tmp 5,[],none⟩,⟨.tmp 6,[],none⟩,⟨.cell 0 2,[],none⟩,⟨.cell 0 3,[],none⟩,⟨.cell 1 2,[],none⟩,⟨.cell 1 3,[],none⟩],true,[],[]⟩)) [.n x2.length,dt,dt,dt,df] [⟨cL1⟩,⟨cL0⟩,⟨cL0⟩,⟨cL0⟩,⟨(len_map e_i64_i64_u8_i64 x2)⟩] (by kernel_rfl) (fun s h=>by cases h)
  rw[if_neg cL0] at h;replace cL0:=eqf cL0
  obtain rfl:=osi h
  show LT _ _ _ _ (.st (.exit 0) (E9_0_0 v9001_2 v9001_3 v9001_4 v9001_5 v9001_6 v9001_7 v9001_8 v9001_9))
  exact LT.done mixed (hs:=⟨[],[],false,[],[]⟩) (es:=(some ⟨[(5,[]),(6,[])],[⟨.tmp 5,[],none⟩,⟨.tmp 6,[],none⟩,⟨.cell 0 2,[],none⟩,⟨.cell 0 3,[],none⟩,⟨.cell 1 2,[],none⟩,⟨.cell 1 3,[],none⟩],true,[],[]⟩)) [.n x2.length,df,df,df,df] [⟨rF⟩,⟨cL0⟩,⟨cL0⟩,⟨cL0⟩,⟨(len_map e_i64_i64_u8_i64 x2)⟩] (by kernel_rfl) (fun s h=>by cases h)
theorem ok_law10_SiteAgain (k:Nat) (x1:Ty11) (x2:Ty11) (r:Bool) (h:law10_SiteAgain k x1 x2=some r):Tri Try.prog 9 [(.sl 4 (List.map e_i64_i64_u8_i64 x1)),(.sl 4 (List.map e_i64_i64_u8_i64 x2))] [] (.bool r) []:=by
 unfold law10_SiteAgain at h
 obtain⟨x3,e0,h⟩:=bsm h
 by_cases c1:x3=true
 · rw[if_pos c1] at h
   obtain⟨x4,e2,h⟩:=bsm h
   obtain⟨x5,e3,h⟩:=bsm h
   obtain⟨x6,e4,h⟩:=bsm h
   cases x6 with
   | inl x7 =>
    simp only[Sum.elim_inl] at h
    obtain⟨x8,e6,h⟩:=bsm h
    cases x8 with
    | inl x9 =>
     simp only[Sum.elim_inl] at h
     obtain⟨x10,e8,h⟩:=bsm h
     cases x10 with
     | inl x11 =>
      simp only[Sum.elim_inl] at h
      obtain⟨x12,e10,h⟩:=bsm h
      obtain⟨x13,e11,h⟩:=bsm h
      by_cases c12:eqI (nI x9.2.2.2.2.2.1.length) (nI x9.2.2.2.2.2.2.2.length)=true
      · rw[if_pos c12] at h
        obtain⟨x14,e13,h⟩:=bsm h
        cases x14 with
        | inl x15 =>
         simp only[Sum.elim_inl] at h
         obtain rfl:=osi h
         exact Tri.of (x:=X9) mixed facts9 [.call ⟨true,[]⟩ (.bool x3) [],df,(A9_5 x4),df,(A9_6 x4),(A9_7 x7),.rows (List.map e_i64_i64_u8_i64 x4.2.2.2),df,df,df,df,A9_8,.out (.st .normal (E9_0_0 x9.1 x9.2.1 x9.2.2.1 x9.2.2.2.1 x9.2.2.2.2.1 x9.2.2.2.2.2.1 x9.2.2.2.2.2.2.1 x9.2.2.2.2.2.2.2)),A9_9,.out (.st .normal (E9_1_2 x9)),(A9_10 x9),(A9_11 x9),df,A9_12,.out (.st .normal (E9_2_4))] [⟨(LT.block (ok_law10_SiteAgain_l2 x9 _ k 0 e13))⟩,⟨(nF c12)⟩,⟨(ok_site_Site_Log k x9.2.2.1 x9.2.2.2.1 x9.2.2.2.2.2.2.1 x9.2.2.2.2.2.2.2 _ e11)⟩,⟨(ok_site_Site_Log k x9.1 x9.2.1 x9.2.2.2.2.1 x9.2.2.2.2.2.1 _ e10)⟩,⟨(LT.block (ok_law10_SiteAgain_l1 x9 _ k 0 e8))⟩,⟨(LT.block (ok_law10_SiteAgain_l0 x2 _ k 0 x4.1 x4.2.1 x7.1 x7.2.1 x4.2.2.1 x4.2.2.2 x7.2.2.1 x7.2.2.2 e6))⟩,⟨rF⟩,⟨(nF (rfl:eqI 0 0=true))⟩,⟨(nF (rfl:eqI 0 0=true))⟩,⟨(nF (rfl:eqI 0 0=true))⟩,⟨(ok_site_Replay k x4.2.2.2 (.inl x7) e4)⟩,⟨(part_all e_i64_i64_u8_i64 (l:=x4.2.2.2) (n:=x4.2.2.2.length) rfl)⟩,⟨(le_map e_i64_i64_u8_i64 (Nat.le_refl x4.2.2.2.length):0+x4.2.2.2.length≤(List.map e_i64_i64_u8_i64 x4.2.2.2).length)⟩,⟨(ok_site_Site_Log k x4.1 x4.2.1 x4.2.2.1 x4.2.2.2 _ e3)⟩,⟨rF⟩,⟨(ok_law10_played k x1 _ e2)⟩,⟨(nF c1)⟩,⟨(ok_law10_alive k _ e0)⟩] (by kernel_rfl)
        | inr x15 =>
         simp only[Sum.elim_inr] at h
         obtain rfl:=osi h
         exact Tri.of (x:=X9) mixed facts9 [.call ⟨true,[]⟩ (.bool x3) [],df,(A9_5 x4),df,(A9_6 x4),(A9_7 x7),.rows (List.map e_i64_i64_u8_i64 x4.2.2.2),df,df,df,df,A9_8,.out (.st .normal (E9_0_0 x9.1 x9.2.1 x9.2.2.1 x9.2.2.2.1 x9.2.2.2.2.1 x9.2.2.2.2.2.1 x9.2.2.2.2.2.2.1 x9.2.2.2.2.2.2.2)),A9_9,.out (.st .normal (E9_1_2 x9)),(A9_10 x9),(A9_11 x9),df,A9_12,.out (.fin (.bool x15) [])] [⟨(LT.blockFin (id:=4) (ok_law10_SiteAgain_l2 x9 _ k 0 e13))⟩,⟨(nF c12)⟩,⟨(ok_site_Site_Log k x9.2.2.1 x9.2.2.2.1 x9.2.2.2.2.2.2.1 x9.2.2.2.2.2.2.2 _ e11)⟩,⟨(ok_site_Site_Log k x9.1 x9.2.1 x9.2.2.2.2.1 x9.2.2.2.2.2.1 _ e10)⟩,⟨(LT.block (ok_law10_SiteAgain_l1 x9 _ k 0 e8))⟩,⟨(LT.block (ok_law10_SiteAgain_l0 x2 _ k 0 x4.1 x4.2.1 x7.1 x7.2.1 x4.2.2.1 x4.2.2.2 x7.2.2.1 x7.2.2.2 e6))⟩,⟨rF⟩,⟨(nF (rfl:eqI 0 0=true))⟩,⟨(nF (rfl:eqI 0 0=true))⟩,⟨(nF (rfl:eqI 0 0=true))⟩,⟨(ok_site_Replay k x4.2.2.2 (.inl x7) e4)⟩,⟨(part_all e_i64_i64_u8_i64 (l:=x4.2.2.2) (n:=x4.2.2.2.length) rfl)⟩,⟨(le_map e_i64_i64_u8_i64 (Nat.le_refl x4.2.2.2.length):0+x4.2.2.2.length≤(List.map e_i64_i64_u8_i64 x4.2.2.2).length)⟩,⟨(ok_site_Site_Log k x4.1 x4.2.1 x4.2.2.1 x4.2.2.2 _ e3)⟩,⟨rF⟩,⟨(ok_law10_played k x1 _ e2)⟩,⟨(nF c1)⟩,⟨(ok_law10_alive k _ e0)⟩] (by kernel_rfl)
      rw[if_neg c12] at h;replace c12:=eqf c12
      obtain rfl:=osi h
      exact Tri.of (x:=X9) mixed facts9 [.call ⟨true,[]⟩ (.bool x3) [],df,(A9_5 x4),df,(A9_6 x4),(A9_7 x7),.rows (List.map e_i64_i64_u8_i64 x4.2.2.2),df,df,df,df,A9_8,.out (.st .normal (E9_0_0 x9.1 x9.2.1 x9.2.2.1 x9.2.2.2.1 x9.2.2.2.2.1 x9.2.2.2.2.2.1 x9.2.2.2.2.2.2.1 x9.2.2.2.2.2.2.2)),A9_9,.out (.st .normal (E9_1_2 x9)),(A9_10 x9),(A9_11 x9),dt] [⟨(nT c12)⟩,⟨(ok_site_Site_Log k x9.2.2.1 x9.2.2.2.1 x9.2.2.2.2.2.2.1 x9.2.2.2.2.2.2.2 _ e11)⟩,⟨(ok_site_Site_Log k x9.1 x9.2.1 x9.2.2.2.2.1 x9.2.2.2.2.2.1 _ e10)⟩,⟨(LT.block (ok_law10_SiteAgain_l1 x9 _ k 0 e8))⟩,⟨(LT.block (ok_law10_SiteAgain_l0 x2 _ k 0 x4.1 x4.2.1 x7.1 x7.2.1 x4.2.2.1 x4.2.2.2 x7.2.2.1 x7.2.2.2 e6))⟩,⟨rF⟩,⟨(nF (rfl:eqI 0 0=true))⟩,⟨(nF (rfl:eqI 0 0=true))⟩,⟨(nF (rfl:eqI 0 0=true))⟩,⟨(ok_site_Replay k x4.2.2.2 (.inl x7) e4)⟩,⟨(part_all e_i64_i64_u8_i64 (l:=x4.2.2.2) (n:=x4.2.2.2.length) rfl)⟩,⟨(le_map e_i64_i64_u8_i64 (Nat.le_refl x4.2.2.2.length):0+x4.2.2.2.length≤(List.map e_i64_i64_u8_i64 x4.2.2.2).length)⟩,⟨(ok_site_Site_Log k x4.1 x4.2.1 x4.2.2.1 x4.2.2.2 _ e3)⟩,⟨rF⟩,⟨(ok_law10_played k x1 _ e2)⟩,⟨(nF c1)⟩,⟨(ok_law10_alive k _ e0)⟩] (by kernel_rfl)
     | inr x11 =>
      simp only[Sum.elim_inr] at h
      obtain rfl:=osi h
      exact Tri.of (x:=X9) mixed facts9 [.call ⟨true,[]⟩ (.bool x3) [],df,(A9_5 x4),df,(A9_6 x4),(A9_7 x7),.rows (List.map e_i64_i64_u8_i64 x4.2.2.2),df,df,df,df,A9_8,.out (.st .normal (E9_0_0 x9.1 x9.2.1 x9.2.2.1 x9.2.2.2.1 x9.2.2.2.2.1 x9.2.2.2.2.2.1 x9.2.2.2.2.2.2.1 x9.2.2.2.2.2.2.2)),A9_9,.out (.fin (.bool x11) [])] [⟨(LT.blockFin (id:=2) (ok_law10_SiteAgain_l1 x9 _ k 0 e8))⟩,⟨(LT.block (ok_law10_SiteAgain_l0 x2 _ k 0 x4.1 x4.2.1 x7.1 x7.2.1 x4.2.2.1 x4.2.2.2 x7.2.2.1 x7.2.2.2 e6))⟩,⟨rF⟩,⟨(nF (rfl:eqI 0 0=true))⟩,⟨(nF (rfl:eqI 0 0=true))⟩,⟨(nF (rfl:eqI 0 0=true))⟩,⟨(ok_site_Replay k x4.2.2.2 (.inl x7) e4)⟩,⟨(part_all e_i64_i64_u8_i64 (l:=x4.2.2.2) (n:=x4.2.2.2.length) rfl)⟩,⟨(le_map e_i64_i64_u8_i64 (Nat.le_refl x4.2.2.2.length):0+x4.2.2.2.length≤(List.map e_i64_i64_u8_i64 x4.2.2.2).length)⟩,⟨(ok_site_Site_Log k x4.1 x4.2.1 x4.2.2.1 x4.2.2.2 _ e3)⟩,⟨rF⟩,⟨(ok_law10_played k x1 _ e2)⟩,⟨(nF c1)⟩,⟨(ok_law10_alive k _ e0)⟩] (by kernel_rfl)
    | inr x9 =>
     simp only[Sum.elim_inr] at h
     obtain rfl:=osi h
     exact Tri.of (x:=X9) mixed facts9 [.call ⟨true,[]⟩ (.bool x3) [],df,(A9_5 x4),df,(A9_6 x4),(A9_7 x7),.rows (List.map e_i64_i64_u8_i64 x4.2.2.2),df,df,df,df,A9_8,.out (.fin (.bool x9) [])] [⟨(LT.blockFin (id:=0) (ok_law10_SiteAgain_l0 x2 _ k 0 x4.1 x4.2.1 x7.1 x7.2.1 x4.2.2.1 x4.2.2.2 x7.2.2.1 x7.2.2.2 e6))⟩,⟨rF⟩,⟨(nF (rfl:eqI 0 0=true))⟩,⟨(nF (rfl:eqI 0 0=true))⟩,⟨(nF (rfl:eqI 0 0=true))⟩,⟨(ok_site_Replay k x4.2.2.2 (.inl x7) e4)⟩,⟨(part_all e_i64_i64_u8_i64 (l:=x4.2.2.2) (n:=x4.2.2.2.length) rfl)⟩,⟨(le_map e_i64_i64_u8_i64 (Nat.le_refl x4.2.2.2.length):0+x4.2.2.2.length≤(List.map e_i64_i64_u8_i64 x4.2.2.2).length)⟩,⟨(ok_site_Site_Log k x4.1 x4.2.1 x4.2.2.1 x4.2.2.2 _ e3)⟩,⟨rF⟩,⟨(ok_law10_played k x1 _ e2)⟩,⟨(nF c1)⟩,⟨(ok_law10_alive k _ e0)⟩] (by kernel_rfl)
   | inr x7 =>
    simp only[Sum.elim_inr] at h
    obtain rfl:=osi h
    exact Tri.of (x:=X9) mixed facts9 [.call ⟨true,[]⟩ (.bool x3) [],df,(A9_5 x4),df,(A9_6 x4),.call ⟨true,[]⟩ (.tup [.nilp,(.int .i64 4)]) [],.rows (List.map e_i64_i64_u8_i64 x4.2.2.2),dt,dt,dt,dt] [⟨rT⟩,⟨(nT (rfl:eqI 4 0=false))⟩,⟨(nT (rfl:eqI 4 0=false))⟩,⟨(nT (rfl:eqI 4 0=false))⟩,⟨(ok_site_Replay k x4.2.2.2 (.inr x7) e4)⟩,⟨(part_all e_i64_i64_u8_i64 (l:=x4.2.2.2) (n:=x4.2.2.2.length) rfl)⟩,⟨(le_map e_i64_i64_u8_i64 (Nat.le_refl x4.2.2.2.length):0+x4.2.2.2.length≤(List.map e_i64_i64_u8_i64 x4.2.2.2).length)⟩,⟨(ok_site_Site_Log k x4.1 x4.2.1 x4.2.2.1 x4.2.2.2 _ e3)⟩,⟨rF⟩,⟨(ok_law10_played k x1 _ e2)⟩,⟨(nF c1)⟩,⟨(ok_law10_alive k _ e0)⟩] (by kernel_rfl)
 rw[if_neg c1] at h;replace c1:=eqf c1
 obtain rfl:=osi h
 exact Tri.of (x:=X9) mixed facts9 [.call ⟨true,[]⟩ (.bool x3) [],dt] [⟨(nT c1)⟩,⟨(ok_law10_alive k _ e0)⟩] (by kernel_rfl)
end Go.Ws
