/-
  Walks, merged.
  Conditions: none.
-/
import Derived.Test.YtojldadifhneeaaZPre
import Derived.Test.YtojldadifhneeaaZPure
import Derived.Test.YtojldadifhneeaaZWGSiteOwn0
set_option linter.unusedVariables false
set_option linter.unusedSimpArgs false
namespace Go.Ws
open Go.Proofs
set_option linter.unusedSimpArgs false
set_option linter.unusedVariables false
set_option maxRecDepth 1000000
set_option maxHeartbeats 4000000
noncomputable def X20 (x2:Ty11) (x3:Ty8) (x4:Ty2) (x5:Ty7):Ctx:=⟨Try.f20,[(.row [(.sl 2 (List.map e_u8_i64 x2)),(.sl 3 (List.map e_u8_i64_b x3)),(.mp 1),(.ref 4 2 0 0 x5.length .virt)]),(.map (encM .i64 (fun y=>AV.agg (e_i64_Lu8i64E_b_i64 y)) x4) x4.length),(.arr 4 (List.map e_i64_i64_u8_i64 x5) 0 0 false)],false⟩
theorem ok_site_Site_Get (k:Nat) (x1:Int) (x2:Ty11) (x3:Ty8) (x4:Ty2) (x5:Ty7) (r:Int) (h:site_Site_Get k x1 x2 x3 x4 x5=some r):Tri Try.prog 20 [(.hp 0 0),(.int .u8 x1)] [(.row [(.sl 2 (List.map e_u8_i64 x2)),(.sl 3 (List.map e_u8_i64_b x3)),(.mp 1),(.ref 4 2 0 0 x5.length .virt)]),(.map (encM .i64 (fun y=>AV.agg (e_i64_Lu8i64E_b_i64 y)) x4) x4.length),(.arr 4 (List.map e_i64_i64_u8_i64 x5) 0 0 false)] (.int .i64 r) [(.row [(.sl 2 (List.map e_u8_i64 x2)),(.sl 3 (List.map e_u8_i64_b x3)),(.mp 1),(.ref 4 2 0 0 x5.length .virt)]),(.map (encM .i64 (fun y=>AV.agg (e_i64_Lu8i64E_b_i64 y)) x4) x4.length),(.arr 4 (List.map e_i64_i64_u8_i64 x5) 0 0 false)]:=by
    unfold site_Site_Get at h
    obtain ⟨x6,e0,h⟩:=Option.bind_eq_some_iff.1 h
    obtain rfl:=Option.some.inj h
    exact Tri.of (x:=(X20 x2 x3 x4 x5)) mixed facts20 [.call ⟨true,[]⟩ (.bool (!false)) [(.row [(.sl 2 (List.map e_u8_i64 x2)),(.sl 3 (List.map e_u8_i64_b x3)),(.mp 1),(.ref 4 2 0 0 x5.length .virt)]),(.map (encM .i64 (fun y=>AV.agg (e_i64_Lu8i64E_b_i64 y)) x4) x4.length),(.arr 4 (List.map e_i64_i64_u8_i64 x5) 0 0 false)],df,.call ⟨true,[]⟩ (.int .i64 x6) [],.norm 0 ⟨[(4,[])],[],false,[],[]⟩] [⟨(ok_ledger_Get k x2 x1 _ e0)⟩,⟨(nF (nT rfl))⟩,⟨(ok_site_Site_good_3 x2 x3 x4 x5)⟩] (by kernel_rfl)
end Go.Ws

namespace Go.Ws
open Go.Proofs
set_option linter.unusedSimpArgs false
set_option linter.unusedVariables false
set_option maxRecDepth 1000000
set_option maxHeartbeats 4000000
noncomputable def X32_1001:Ctx:=⟨Try.f32,[],false⟩
theorem ok_slices_Clone_32_1001 (k:Nat) (x1:Ty7) (r:Unit) (h:slices_Clone_32_1001 k x1=some r):Tri Try.prog 32 [(.inl 4 (List.map e_i64_i64_u8_i64 x1))] [] (.ref 4 0 0 0 x1.length .virt) [(.arr 4 (List.map e_i64_i64_u8_i64 x1) 0 0 false)]:=by
    unfold slices_Clone_32_1001 at h
    by_cases c0:roomI (x1.length * 32)=true
    · rw [if_pos c0] at h
      obtain rfl:=Option.some.inj h
      exact Tri.of (x:=X32_1001) mixed facts32 [df,.n x1.length,.norm 0 ⟨[(2,[])],[⟨.tmp 2,[],some 4⟩],false,[],[]⟩,.n x1.length,.rows (List.map e_i64_i64_u8_i64 x1)] [⟨(take_all e_i64_i64_u8_i64 (l:=x1) (n:=x1.length) rfl)⟩,⟨(rfl:x1.length=x1.length)⟩,⟨(zle x1.length)⟩,⟨c0⟩,⟨(len_map e_i64_i64_u8_i64 x1)⟩,⟨rF⟩] (by kernel_rfl)
    · rw [if_neg c0] at h
      replace c0:=eqf c0
      cases h
end Go.Ws

namespace Go.Ws
open Go.Proofs
set_option linter.unusedSimpArgs false
set_option linter.unusedVariables false
set_option maxRecDepth 1000000
set_option maxHeartbeats 4000000
noncomputable def X32_1002:Ctx:=⟨Try.f32,[],false⟩
theorem ok_slices_Clone_32_1002:Tri Try.prog 32 [.nils] [] (.ref 4 0 0 0 0 .virt) [(.arr 4 (List.map e_i64_i64_u8_i64 []) 0 0 false)]:=by
    obtain ⟨r,h⟩:∃ r,slices_Clone_32_1002=r:=⟨_,rfl⟩
    try rw [h]
    unfold slices_Clone_32_1002 at h
    obtain rfl:=h
    exact Tri.of (x:=X32_1002) mixed facts32 [dt,.norm 0 ⟨[(2,[])],[⟨.tmp 2,[],some 4⟩],false,[],[]⟩,.n 0,.rows (List.map e_i64_i64_u8_i64 [])] [⟨(take_all e_i64_i64_u8_i64 (l:=[]) (n:=0) rfl)⟩,⟨(rfl:0=0)⟩,⟨(zle 0)⟩,⟨rT⟩] (by kernel_rfl)
end Go.Ws

namespace Go.Ws
open Go.Proofs
set_option linter.unusedSimpArgs false
set_option linter.unusedVariables false
set_option maxRecDepth 1000000
set_option maxHeartbeats 4000000
theorem ok_slices_Clone_32 (k:Nat) (x1:Ty7) (r:Unit) (h:slices_Clone_32 k x1=some r):Tri Try.prog 32 [(.sl 4 (List.map e_i64_i64_u8_i64 x1))] [] (.ref 4 0 0 0 x1.length .virt) [(.arr 4 (List.map e_i64_i64_u8_i64 x1) 0 0 false)]:=by
    refine Tri.slOf (ok_slices_Clone_32_1001 k x1 r h) fun h0=>?_
    have hx:x1=[]:=by simpa using h0
    subst hx
    exact ok_slices_Clone_32_1002
end Go.Ws

namespace Go.Ws
open Go.Proofs
set_option linter.unusedSimpArgs false
set_option linter.unusedVariables false
set_option maxRecDepth 1000000
set_option maxHeartbeats 4000000
noncomputable def X21 (x1:Ty11) (x2:Ty8) (x3:Ty2) (x4:Ty7):Ctx:=⟨Try.f21,[(.row [(.sl 2 (List.map e_u8_i64 x1)),(.sl 3 (List.map e_u8_i64_b x2)),(.mp 1),(.ref 4 2 0 0 x4.length .virt)]),(.map (encM .i64 (fun y=>AV.agg (e_i64_Lu8i64E_b_i64 y)) x3) x3.length),(.arr 4 (List.map e_i64_i64_u8_i64 x4) 0 0 false)],false⟩
theorem ok_site_Site_Log (k:Nat) (x1:Ty11) (x2:Ty8) (x3:Ty2) (x4:Ty7) (r:Unit) (h:site_Site_Log k x1 x2 x3 x4=some r):Tri Try.prog 21 [(.hp 0 0)] [(.row [(.sl 2 (List.map e_u8_i64 x1)),(.sl 3 (List.map e_u8_i64_b x2)),(.mp 1),(.ref 4 2 0 0 x4.length .virt)]),(.map (encM .i64 (fun y=>AV.agg (e_i64_Lu8i64E_b_i64 y)) x3) x3.length),(.arr 4 (List.map e_i64_i64_u8_i64 x4) 0 0 false)] (.ref 4 3 0 0 x4.length .virt) [(.row [(.sl 2 (List.map e_u8_i64 x1)),(.sl 3 (List.map e_u8_i64_b x2)),(.mp 1),(.ref 4 2 0 0 x4.length .virt)]),(.map (encM .i64 (fun y=>AV.agg (e_i64_Lu8i64E_b_i64 y)) x3) x3.length),(.arr 4 (List.map e_i64_i64_u8_i64 x4) 0 0 true),(.arr 4 (List.map e_i64_i64_u8_i64 x4) 0 0 false)]:=by
    unfold site_Site_Log at h
    obtain ⟨x5,e0,h⟩:=Option.bind_eq_some_iff.1 h
    obtain rfl:=Option.some.inj h
    exact Tri.of (x:=(X21 x1 x2 x3 x4)) mixed facts21 [.call ⟨true,[]⟩ (.bool (!false)) [(.row [(.sl 2 (List.map e_u8_i64 x1)),(.sl 3 (List.map e_u8_i64_b x2)),(.mp 1),(.ref 4 2 0 0 x4.length .virt)]),(.map (encM .i64 (fun y=>AV.agg (e_i64_Lu8i64E_b_i64 y)) x3) x3.length),(.arr 4 (List.map e_i64_i64_u8_i64 x4) 0 0 false)],df,.call ⟨true,[]⟩ (.ref 4 0 0 0 x4.length .virt) [(.arr 4 (List.map e_i64_i64_u8_i64 x4) 0 0 false)],.rows (List.map e_i64_i64_u8_i64 x4),.norm 0 ⟨[(2,[])],[⟨.tmp 2,[],none⟩],false,[],[]⟩] [⟨(ok_slices_Clone_32 k x4 _ e0)⟩,⟨(part_all e_i64_i64_u8_i64 (l:=x4) (n:=x4.length) rfl)⟩,⟨(le_map e_i64_i64_u8_i64 (Nat.le_refl x4.length):0 + x4.length≤(List.map e_i64_i64_u8_i64 x4).length)⟩,⟨(nF (nT rfl))⟩,⟨(ok_site_Site_good_3 x1 x2 x3 x4)⟩] (by kernel_rfl)
end Go.Ws

namespace Go.Ws
open Go.Proofs
set_option linter.unusedSimpArgs false
set_option linter.unusedVariables false
set_option maxRecDepth 1000000
set_option maxHeartbeats 4000000
noncomputable def X12:Ctx:=⟨Try.f12,[],true⟩
noncomputable def L12_0:Code:=at_ Try.f12 [1,1,1,0,1,4,5]
def S12_0 (v12001_1:Int) (v12001_2:Ty11) (v12001_3:Ty8) (v12001_4:Ty2) (v12001_5:Ty7):St:=⟨mkT 73 [(1,(.hp 0 0)),(27,(.ref 6 1 0 0 8 .full)),(28,(.int .i64 8)),(29,(.int .i64 v12001_1))],[(.row [(.sl 2 (List.map e_u8_i64 v12001_2)),(.sl 3 (List.map e_u8_i64_b v12001_3)),(.mp 2),(.ref 4 3 0 0 v12001_5.length .virt)]),(.arr 6 (List.map e_i64_i64_u8_i64_i64_i64 [(1,1,0,0,0,0),(3,1,3,5,0,0),(1,2,0,0,0,0),(2,2,3,0,0,9),(4,1,0,1,0,0),(5,1,0,0,0,0),(2,2,3,0,5,0),(6,1,0,2,0,0)]) 0 0 false),(.map (encM .i64 (fun y=>AV.agg (e_i64_Lu8i64E_b_i64 y)) v12001_4) v12001_4.length),(.arr 4 (List.map e_i64_i64_u8_i64 v12001_5) 0 0 false)]⟩
def E12_0_0 (v12002_1:Ty11) (v12002_2:Ty8) (v12002_3:Ty2) (v12002_4:Ty7):St:=⟨mkT 73 [(1,(.hp 0 0))],[(.row [(.sl 2 (List.map e_u8_i64 v12002_1)),(.sl 3 (List.map e_u8_i64_b v12002_2)),(.mp 1),(.ref 4 2 0 0 v12002_4.length .virt)]),(.map (encM .i64 (fun y=>AV.agg (e_i64_Lu8i64E_b_i64 y)) v12002_3) v12002_3.length),(.arr 4 (List.map e_i64_i64_u8_i64 v12002_4) 0 0 false)]⟩
def O12_0 (y:(Sum (Ty11 × Ty8 × Ty2 × Ty7) (Bool))):GX:=match y with
  | .inl y=>.st (.exit 0) (E12_0_0 y.1 y.2.1 y.2.2.1 y.2.2.2)
  | .inr y=>.fin (.bool y) []
def A12_0 (v12000_1:Int × Int × Int × Int × Int × Int):Ans:=.row [(.int .i64 v12000_1.1),(.int .i64 v12000_1.2.1),(.int .u8 v12000_1.2.2.1),(.int .i64 v12000_1.2.2.2.1),(.int .i64 v12000_1.2.2.2.2.1),(.int .i64 v12000_1.2.2.2.2.2)]
def A12_1 (v12000_2:Int × Int × Ty11 × Ty8 × Ty2 × Ty7):Ans:=.call ⟨true,[]⟩ (.tup [(.int .i64 v12000_2.2.1),(.int .i64 v12000_2.1)]) [(.row [(.sl 2 (List.map e_u8_i64 v12000_2.2.2.1)),(.sl 3 (List.map e_u8_i64_b v12000_2.2.2.2.1)),(.mp 1),(.ref 4 2 1 0 v12000_2.2.2.2.2.2.length .virt)]),(.map (encM .i64 (fun y=>AV.agg (e_i64_Lu8i64E_b_i64 y)) v12000_2.2.2.2.2.1) v12000_2.2.2.2.2.1.length),(.arr 4 (List.map e_i64_i64_u8_i64 v12000_2.2.2.2.2.2) 1 1 false)]
def A12_2:Ans:=.call ⟨true,[]⟩ (.hp 0 0) [(.row [.nils,.nils,(.mp 1),.nils]),(.map (encM .i64 (fun y=>AV.agg (e_i64_Lu8i64E_b_i64 y)) ([]:Ty2)) ([]:Ty2).length)]
def A12_3:Ans:=.norm 2 ⟨[(1,[]),(27,[]),(28,[]),(29,[])],[⟨.tmp 1,[(0,2),(1,3)],none⟩,⟨.tmp 27,[],none⟩,⟨.cell 0 2,[],none⟩,⟨.cell 0 3,[],some 4⟩],false,[],[]⟩
def A12_4 (x2:Ty11 × Ty8 × Ty2 × Ty7) (x3:Int × Bool × Int × Ty11 × Bool):Ans:=.call ⟨true,[]⟩ (.tup [(.agg [(.int .i64 x3.1),(.ref 2 3 0 0 x3.2.2.2.1.length .virt),(.bool x3.2.1),(.int .i64 x3.2.2.1)]),(.bool x3.2.2.2.2)]) [(.row [(.sl 2 (List.map e_u8_i64 x2.1)),(.sl 3 (List.map e_u8_i64_b x2.2.1)),(.mp 1),(.ref 4 2 0 0 x2.2.2.2.length .virt)]),(.map (encM .i64 (fun y=>AV.agg (e_i64_Lu8i64E_b_i64 y)) x2.2.2.1) x2.2.2.1.length),(.arr 4 (List.map e_i64_i64_u8_i64 x2.2.2.2) 0 0 false),(.arr 2 (List.map e_u8_i64 x3.2.2.2.1) 0 0 false)]
def A12_5 (x2:Ty11 × Ty8 × Ty2 × Ty7) (x4:Int):Ans:=.call ⟨true,[]⟩ (.int .i64 x4) [(.row [(.sl 2 (List.map e_u8_i64 x2.1)),(.sl 3 (List.map e_u8_i64_b x2.2.1)),(.mp 1),(.ref 4 2 0 0 x2.2.2.2.length .virt)]),(.map (encM .i64 (fun y=>AV.agg (e_i64_Lu8i64E_b_i64 y)) x2.2.2.1) x2.2.2.1.length),(.arr 4 (List.map e_i64_i64_u8_i64 x2.2.2.2) 0 0 false)]
theorem ok_law10_alive_l0 (y:(Sum (Ty11 × Ty8 × Ty2 × Ty7) (Bool))):∀ (k:Nat) (v12001_1:Int) (v12001_2:Ty11) (v12001_3:Ty8) (v12001_4:Ty2) (v12001_5:Ty7),law10_alive_l0 k v12001_1 v12001_2 v12001_3 v12001_4 v12001_5=some y→LT Try.prog X12 L12_0 (S12_0 v12001_1 v12001_2 v12001_3 v12001_4 v12001_5) (O12_0 y)
  | 0,v12001_1,v12001_2,v12001_3,v12001_4,v12001_5,h=>by cases h
  | k + 1,v12001_1,v12001_2,v12001_3,v12001_4,v12001_5,h=>by
    rw [law10_alive_l0] at h
    by_cases cL0:ltI v12001_1 8=true
    · rw [if_pos cL0] at h
      by_cases cL1:inI v12001_1 8=true
      · rw [if_pos cL1] at h
        obtain ⟨v12000_1,eL2,h⟩:=Option.bind_eq_some_iff.1 h
        obtain ⟨v12000_2,eL3,h⟩:=Option.bind_eq_some_iff.1 h
        by_cases cL4:eqI v12000_2.2.1 v12000_1.2.2.2.2.1=true
        · rw [if_pos cL4] at h
          by_cases cL5:eqI v12000_2.1 v12000_1.2.2.2.2.2=true
          · rw [if_pos cL5] at h
            exact LT.next mixed (hs:=⟨[(1,[]),(27,[]),(28,[]),(29,[])],[⟨.tmp 1,[],none⟩,⟨.tmp 27,[],none⟩,⟨.cell 0 2,[],none⟩,⟨.cell 0 3,[],some 4⟩],false,[],[]⟩) (es:=none) [dt,(A12_0 v12000_1),(A12_1 v12000_2),df,df,df,df,df,df,.n v12000_2.2.2.2.2.2.length,.rows (List.map e_i64_i64_u8_i64 v12000_2.2.2.2.2.2)] [⟨(take_all e_i64_i64_u8_i64 (l:=v12000_2.2.2.2.2.2) (n:=v12000_2.2.2.2.2.2.length) rfl)⟩,⟨(rfl:v12000_2.2.2.2.2.2.length=v12000_2.2.2.2.2.2.length)⟩,⟨(zle v12000_2.2.2.2.2.2.length)⟩,⟨(nF cL5)⟩,⟨(nF cL4)⟩,⟨(nF cL4)⟩,⟨(nF cL4)⟩,⟨(nF cL4)⟩,⟨(nF cL4)⟩,⟨(ok_site_Site_Do_3 k v12000_1.1 v12000_1.2.1 v12000_1.2.2.1 v12000_1.2.2.2.1 v12001_2 v12001_3 v12001_4 v12001_5 _ eL3)⟩,⟨(cells_map (e:=e_i64_i64_u8_i64_i64_i64) eL2 6 0 6 (by decide))⟩,⟨cL1⟩,⟨cL0⟩] (by kernel_rfl) (ok_law10_alive_l0 y k (iadd .i64 v12001_1 1) v12000_2.2.2.1 v12000_2.2.2.2.1 v12000_2.2.2.2.2.1 v12000_2.2.2.2.2.2 h)
          · rw [if_neg cL5] at h
            replace cL5:=eqf cL5
            obtain rfl:=Option.some.inj h
            show LT _ _ _ _ (.fin (.bool false) [])
            exact LT.done mixed (hs:=⟨[],[],false,[],[]⟩) (es:=none) [dt,(A12_0 v12000_1),(A12_1 v12000_2),df,df,df,df,df,dt] [⟨(nT cL5)⟩,⟨(nF cL4)⟩,⟨(nF cL4)⟩,⟨(nF cL4)⟩,⟨(nF cL4)⟩,⟨(nF cL4)⟩,⟨(ok_site_Site_Do_3 k v12000_1.1 v12000_1.2.1 v12000_1.2.2.1 v12000_1.2.2.2.1 v12001_2 v12001_3 v12001_4 v12001_5 _ eL3)⟩,⟨(cells_map (e:=e_i64_i64_u8_i64_i64_i64) eL2 6 0 6 (by decide))⟩,⟨cL1⟩,⟨cL0⟩] (by kernel_rfl) (fun s h=>by cases h)
        · rw [if_neg cL4] at h
          replace cL4:=eqf cL4
          obtain rfl:=Option.some.inj h
          show LT _ _ _ _ (.fin (.bool false) [])
          exact LT.done mixed (hs:=⟨[],[],false,[],[]⟩) (es:=none) [dt,(A12_0 v12000_1),(A12_1 v12000_2),dt,dt,dt,dt,dt,dt] [⟨rT⟩,⟨(nT cL4)⟩,⟨(nT cL4)⟩,⟨(nT cL4)⟩,⟨(nT cL4)⟩,⟨(nT cL4)⟩,⟨(ok_site_Site_Do_3 k v12000_1.1 v12000_1.2.1 v12000_1.2.2.1 v12000_1.2.2.2.1 v12001_2 v12001_3 v12001_4 v12001_5 _ eL3)⟩,⟨(cells_map (e:=e_i64_i64_u8_i64_i64_i64) eL2 6 0 6 (by decide))⟩,⟨cL1⟩,⟨cL0⟩] (by kernel_rfl) (fun s h=>by cases h)
      · rw [if_neg cL1] at h
        replace cL1:=eqf cL1
        cases h
    · rw [if_neg cL0] at h
      replace cL0:=eqf cL0
      obtain rfl:=Option.some.inj h
      show LT _ _ _ _ (.st (.exit 0) (E12_0_0 v12001_2 v12001_3 v12001_4 v12001_5))
      exact LT.done mixed (hs:=⟨[],[],false,[],[]⟩) (es:=(some ⟨[(1,[])],[⟨.tmp 1,[],none⟩,⟨.cell 0 2,[],none⟩,⟨.cell 0 3,[],none⟩],false,[],[]⟩)) [df] [⟨cL0⟩] (by kernel_rfl) (fun s h=>by cases h)
theorem ok_law10_alive (k:Nat) (r:Bool) (h:law10_alive k=some r):Tri Try.prog 12 [] [] (.bool r) []:=by
    unfold law10_alive at h
    obtain ⟨x1,e0,h⟩:=Option.bind_eq_some_iff.1 h
    cases x1 with
    | inl x2 =>
      simp only [Sum.elim_inl] at h
      obtain ⟨x3,e2,h⟩:=Option.bind_eq_some_iff.1 h
      obtain ⟨x4,e3,h⟩:=Option.bind_eq_some_iff.1 h
      by_cases c4:eqI x4 0=true
      · rw [if_pos c4] at h
        by_cases c5:x3.2.2.2.2=true
        · rw [if_pos c5] at h
          by_cases c6:eqI x3.1 3=true
          · rw [if_pos c6] at h
            obtain ⟨x5,e7,h⟩:=Option.bind_eq_some_iff.1 h
            obtain rfl:=Option.some.inj h
            exact Tri.of (x:=X12) mixed facts12 [A12_2,df,A12_3,.n 0,.rows (List.map e_i64_i64_u8_i64 []),.out (.st .normal (E12_0_0 x2.1 x2.2.1 x2.2.2.1 x2.2.2.2)),(A12_4 x2 x3),(A12_5 x2 x4),dt,dt,dt,dt,dt,dt,dt,dt,.call ⟨true,[]⟩ (.ref 4 3 0 0 x2.2.2.2.length .virt) [(.row [(.sl 2 (List.map e_u8_i64 x2.1)),(.sl 3 (List.map e_u8_i64_b x2.2.1)),(.mp 1),(.ref 4 2 0 0 x2.2.2.2.length .virt)]),(.map (encM .i64 (fun y=>AV.agg (e_i64_Lu8i64E_b_i64 y)) x2.2.2.1) x2.2.2.1.length),(.arr 4 (List.map e_i64_i64_u8_i64 x2.2.2.2) 0 0 true),(.arr 4 (List.map e_i64_i64_u8_i64 x2.2.2.2) 0 0 false)],dt,dt,dt] [⟨c6⟩,⟨c6⟩,⟨c6⟩,⟨(ok_site_Site_Log k x2.1 x2.2.1 x2.2.2.1 x2.2.2.2 _ e7)⟩,⟨c6⟩,⟨c6⟩,⟨c5⟩,⟨c5⟩,⟨c5⟩,⟨c5⟩,⟨c4⟩,⟨c4⟩,⟨(ok_site_Site_Get k 3 x2.1 x2.2.1 x2.2.2.1 x2.2.2.2 _ e3)⟩,⟨(ok_site_Site_Part k 1 x2.1 x2.2.1 x2.2.2.1 x2.2.2.2 _ e2)⟩,⟨(LT.block (ok_law10_alive_l0 _ k 0 [] [] ([]:Ty2) [] e0))⟩,⟨(take_all e_i64_i64_u8_i64 (l:=[]) (n:=0) rfl)⟩,⟨(rfl:0=0)⟩,⟨(zle 0)⟩,⟨rF⟩,⟨(ok_site_New)⟩] (by kernel_rfl)
          · rw [if_neg c6] at h
            replace c6:=eqf c6
            obtain rfl:=Option.some.inj h
            exact Tri.of (x:=X12) mixed facts12 [A12_2,df,A12_3,.n 0,.rows (List.map e_i64_i64_u8_i64 []),.out (.st .normal (E12_0_0 x2.1 x2.2.1 x2.2.2.1 x2.2.2.2)),(A12_4 x2 x3),(A12_5 x2 x4),dt,dt,dt,dt,dt,dt,df,df,df,df,df] [⟨c6⟩,⟨c6⟩,⟨c6⟩,⟨c6⟩,⟨c6⟩,⟨c5⟩,⟨c5⟩,⟨c5⟩,⟨c5⟩,⟨c4⟩,⟨c4⟩,⟨(ok_site_Site_Get k 3 x2.1 x2.2.1 x2.2.2.1 x2.2.2.2 _ e3)⟩,⟨(ok_site_Site_Part k 1 x2.1 x2.2.1 x2.2.2.1 x2.2.2.2 _ e2)⟩,⟨(LT.block (ok_law10_alive_l0 _ k 0 [] [] ([]:Ty2) [] e0))⟩,⟨(take_all e_i64_i64_u8_i64 (l:=[]) (n:=0) rfl)⟩,⟨(rfl:0=0)⟩,⟨(zle 0)⟩,⟨rF⟩,⟨(ok_site_New)⟩] (by kernel_rfl)
        · rw [if_neg c5] at h
          replace c5:=eqf c5
          obtain rfl:=Option.some.inj h
          exact Tri.of (x:=X12) mixed facts12 [A12_2,df,A12_3,.n 0,.rows (List.map e_i64_i64_u8_i64 []),.out (.st .normal (E12_0_0 x2.1 x2.2.1 x2.2.2.1 x2.2.2.2)),(A12_4 x2 x3),(A12_5 x2 x4),dt,dt,df,df,df,df,df,df,df,df,df] [⟨rF⟩,⟨rF⟩,⟨rF⟩,⟨rF⟩,⟨rF⟩,⟨c5⟩,⟨c5⟩,⟨c5⟩,⟨c5⟩,⟨c4⟩,⟨c4⟩,⟨(ok_site_Site_Get k 3 x2.1 x2.2.1 x2.2.2.1 x2.2.2.2 _ e3)⟩,⟨(ok_site_Site_Part k 1 x2.1 x2.2.1 x2.2.2.1 x2.2.2.2 _ e2)⟩,⟨(LT.block (ok_law10_alive_l0 _ k 0 [] [] ([]:Ty2) [] e0))⟩,⟨(take_all e_i64_i64_u8_i64 (l:=[]) (n:=0) rfl)⟩,⟨(rfl:0=0)⟩,⟨(zle 0)⟩,⟨rF⟩,⟨(ok_site_New)⟩] (by kernel_rfl)
      · rw [if_neg c4] at h
        replace c4:=eqf c4
        obtain rfl:=Option.some.inj h
        exact Tri.of (x:=X12) mixed facts12 [A12_2,df,A12_3,.n 0,.rows (List.map e_i64_i64_u8_i64 []),.out (.st .normal (E12_0_0 x2.1 x2.2.1 x2.2.2.1 x2.2.2.2)),(A12_4 x2 x3),(A12_5 x2 x4),df,df,df,df,df,df,df,df,df,df,df] [⟨rF⟩,⟨rF⟩,⟨rF⟩,⟨rF⟩,⟨rF⟩,⟨rF⟩,⟨rF⟩,⟨rF⟩,⟨rF⟩,⟨c4⟩,⟨c4⟩,⟨(ok_site_Site_Get k 3 x2.1 x2.2.1 x2.2.2.1 x2.2.2.2 _ e3)⟩,⟨(ok_site_Site_Part k 1 x2.1 x2.2.1 x2.2.2.1 x2.2.2.2 _ e2)⟩,⟨(LT.block (ok_law10_alive_l0 _ k 0 [] [] ([]:Ty2) [] e0))⟩,⟨(take_all e_i64_i64_u8_i64 (l:=[]) (n:=0) rfl)⟩,⟨(rfl:0=0)⟩,⟨(zle 0)⟩,⟨rF⟩,⟨(ok_site_New)⟩] (by kernel_rfl)
    | inr x2 =>
      simp only [Sum.elim_inr] at h
      obtain rfl:=Option.some.inj h
      exact Tri.of (x:=X12) mixed facts12 [A12_2,df,A12_3,.n 0,.rows (List.map e_i64_i64_u8_i64 []),.out (.fin (.bool x2) [])] [⟨(LT.blockFin (id:=0) (ok_law10_alive_l0 _ k 0 [] [] ([]:Ty2) [] e0))⟩,⟨(take_all e_i64_i64_u8_i64 (l:=[]) (n:=0) rfl)⟩,⟨(rfl:0=0)⟩,⟨(zle 0)⟩,⟨rF⟩,⟨(ok_site_New)⟩] (by kernel_rfl)
end Go.Ws

namespace Go.Ws
open Go.Proofs
set_option linter.unusedSimpArgs false
set_option linter.unusedVariables false
set_option maxRecDepth 1000000
set_option maxHeartbeats 4000000
noncomputable def X19:Ctx:=⟨Try.f19,[],false⟩
noncomputable def L19_0:Code:=at_ Try.f19 [1,1,1,0,1,4,5]
def S19_0 (x1:Ty7) (v19001_1:Int) (v19001_2:Ty11) (v19001_3:Ty8) (v19001_4:Ty2) (v19001_5:Ty7):St:=⟨mkT 25 [(0,(.sl 4 (List.map e_i64_i64_u8_i64 x1))),(3,(.hp 0 0)),(4,(.int .i64 v19001_1))],[(.row [(.sl 2 (List.map e_u8_i64 v19001_2)),(.sl 3 (List.map e_u8_i64_b v19001_3)),(.mp 1),(.ref 4 2 0 0 v19001_5.length .virt)]),(.map (encM .i64 (fun y=>AV.agg (e_i64_Lu8i64E_b_i64 y)) v19001_4) v19001_4.length),(.arr 4 (List.map e_i64_i64_u8_i64 v19001_5) 0 0 false)]⟩
def E19_0_0 (v19002_1:Ty11) (v19002_2:Ty8) (v19002_3:Ty2) (v19002_4:Ty7):St:=⟨mkT 25 [(3,(.hp 0 0))],[(.row [(.sl 2 (List.map e_u8_i64 v19002_1)),(.sl 3 (List.map e_u8_i64_b v19002_2)),(.mp 1),(.ref 4 2 0 0 v19002_4.length .virt)]),(.map (encM .i64 (fun y=>AV.agg (e_i64_Lu8i64E_b_i64 y)) v19002_3) v19002_3.length),(.arr 4 (List.map e_i64_i64_u8_i64 v19002_4) 0 0 false)]⟩
def O19_0 (x1:Ty7) (y:(Ty11 × Ty8 × Ty2 × Ty7)):GX:=.st (.exit 0) (E19_0_0 y.1 y.2.1 y.2.2.1 y.2.2.2)
theorem ok_law10_played_l0 (x1:Ty7) (y:(Ty11 × Ty8 × Ty2 × Ty7)):∀ (k:Nat) (v19001_1:Int) (v19001_2:Ty11) (v19001_3:Ty8) (v19001_4:Ty2) (v19001_5:Ty7),law10_played_l0 k x1 v19001_1 v19001_2 v19001_3 v19001_4 v19001_5=some y→LT Try.prog X19 L19_0 (S19_0 x1 v19001_1 v19001_2 v19001_3 v19001_4 v19001_5) (O19_0 x1 y)
  | 0,v19001_1,v19001_2,v19001_3,v19001_4,v19001_5,h=>by cases h
  | k + 1,v19001_1,v19001_2,v19001_3,v19001_4,v19001_5,h=>by
    rw [law10_played_l0] at h
    by_cases cL0:ltI v19001_1 (nI x1.length)=true
    · rw [if_pos cL0] at h
      by_cases cL1:ltI v19001_1 120=true
      · rw [if_pos cL1] at h
        by_cases cL2:inI v19001_1 x1.length=true
        · rw [if_pos cL2] at h
          obtain ⟨v19000_1,eL3,h⟩:=Option.bind_eq_some_iff.1 h
          obtain ⟨v19000_2,eL4,h⟩:=Option.bind_eq_some_iff.1 h
          exact LT.next mixed (hs:=⟨[(0,[]),(3,[]),(4,[])],[⟨.tmp 3,[],none⟩,⟨.cell 0 2,[],none⟩,⟨.cell 0 3,[],some 4⟩],false,[],[]⟩) (es:=none) [.n x1.length,dt,dt,dt,dt,.n x1.length,.row [(.int .i64 v19000_1.1),(.int .i64 v19000_1.2.1),(.int .u8 v19000_1.2.2.1),(.int .i64 v19000_1.2.2.2)],.call ⟨true,[]⟩ (.tup [(.int .i64 v19000_2.2.1),(.int .i64 v19000_2.1)]) [(.row [(.sl 2 (List.map e_u8_i64 v19000_2.2.2.1)),(.sl 3 (List.map e_u8_i64_b v19000_2.2.2.2.1)),(.mp 1),(.ref 4 2 1 0 v19000_2.2.2.2.2.2.length .virt)]),(.map (encM .i64 (fun y=>AV.agg (e_i64_Lu8i64E_b_i64 y)) v19000_2.2.2.2.2.1) v19000_2.2.2.2.2.1.length),(.arr 4 (List.map e_i64_i64_u8_i64 v19000_2.2.2.2.2.2) 1 1 false)],.n v19000_2.2.2.2.2.2.length,.rows (List.map e_i64_i64_u8_i64 v19000_2.2.2.2.2.2)] [⟨(take_all e_i64_i64_u8_i64 (l:=v19000_2.2.2.2.2.2) (n:=v19000_2.2.2.2.2.2.length) rfl)⟩,⟨(rfl:v19000_2.2.2.2.2.2.length=v19000_2.2.2.2.2.2.length)⟩,⟨(zle v19000_2.2.2.2.2.2.length)⟩,⟨(ok_site_Site_Do_3 k v19000_1.1 v19000_1.2.1 v19000_1.2.2.1 v19000_1.2.2.2 v19001_2 v19001_3 v19001_4 v19001_5 _ eL4)⟩,⟨(cells_map (e:=e_i64_i64_u8_i64) eL3 4 0 4 (by decide))⟩,⟨cL2⟩,⟨(len_map e_i64_i64_u8_i64 x1)⟩,⟨cL1⟩,⟨cL0⟩,⟨cL0⟩,⟨cL0⟩,⟨(len_map e_i64_i64_u8_i64 x1)⟩] (by kernel_rfl) (ok_law10_played_l0 x1 y k (iadd .i64 v19001_1 1) v19000_2.2.2.1 v19000_2.2.2.2.1 v19000_2.2.2.2.2.1 v19000_2.2.2.2.2.2 h)
        · rw [if_neg cL2] at h
          replace cL2:=eqf cL2
          cases h
      · rw [if_neg cL1] at h
        replace cL1:=eqf cL1
        obtain rfl:=Option.some.inj h
        show LT _ _ _ _ (.st (.exit 0) (E19_0_0 v19001_2 v19001_3 v19001_4 v19001_5))
        exact LT.done mixed (hs:=⟨[],[],false,[],[]⟩) (es:=(some ⟨[(3,[])],[⟨.tmp 3,[],none⟩,⟨.cell 0 2,[],none⟩,⟨.cell 0 3,[],none⟩],false,[],[]⟩)) [.n x1.length,dt,dt,dt,df] [⟨cL1⟩,⟨cL0⟩,⟨cL0⟩,⟨cL0⟩,⟨(len_map e_i64_i64_u8_i64 x1)⟩] (by kernel_rfl) (fun s h=>by cases h)
    · rw [if_neg cL0] at h
      replace cL0:=eqf cL0
      obtain rfl:=Option.some.inj h
      show LT _ _ _ _ (.st (.exit 0) (E19_0_0 v19001_2 v19001_3 v19001_4 v19001_5))
      exact LT.done mixed (hs:=⟨[],[],false,[],[]⟩) (es:=(some ⟨[(3,[])],[⟨.tmp 3,[],none⟩,⟨.cell 0 2,[],none⟩,⟨.cell 0 3,[],none⟩],false,[],[]⟩)) [.n x1.length,df,df,df,df] [⟨rF⟩,⟨cL0⟩,⟨cL0⟩,⟨cL0⟩,⟨(len_map e_i64_i64_u8_i64 x1)⟩] (by kernel_rfl) (fun s h=>by cases h)
theorem ok_law10_played (k:Nat) (x1:Ty7) (r:Ty11 × Ty8 × Ty2 × Ty7) (h:law10_played k x1=some r):Tri Try.prog 19 [(.sl 4 (List.map e_i64_i64_u8_i64 x1))] [] (.hp 0 0) [(.row [(.sl 2 (List.map e_u8_i64 r.1)),(.sl 3 (List.map e_u8_i64_b r.2.1)),(.mp 1),(.ref 4 2 0 0 r.2.2.2.length .virt)]),(.map (encM .i64 (fun y=>AV.agg (e_i64_Lu8i64E_b_i64 y)) r.2.2.1) r.2.2.1.length),(.arr 4 (List.map e_i64_i64_u8_i64 r.2.2.2) 0 0 false)]:=by
    unfold law10_played at h
    obtain ⟨x3,e0,h⟩:=Option.bind_eq_some_iff.1 h
    obtain rfl:=Option.some.inj h
    exact Tri.of (x:=X19) mixed facts19 [.call ⟨true,[]⟩ (.hp 0 0) [(.row [.nils,.nils,(.mp 1),.nils]),(.map (encM .i64 (fun y=>AV.agg (e_i64_Lu8i64E_b_i64 y)) ([]:Ty2)) ([]:Ty2).length)],df,.norm 2 ⟨[(0,[]),(3,[]),(4,[])],[⟨.tmp 3,[(0,2),(1,3)],none⟩,⟨.cell 0 2,[],none⟩,⟨.cell 0 3,[],some 4⟩],false,[],[]⟩,.n 0,.rows (List.map e_i64_i64_u8_i64 []),.out (.st .normal (E19_0_0 x3.1 x3.2.1 x3.2.2.1 x3.2.2.2)),.norm 0 ⟨[(2,[])],[⟨.tmp 2,[],none⟩,⟨.cell 0 2,[],none⟩,⟨.cell 0 3,[],none⟩],false,[],[]⟩] [⟨(LT.block (ok_law10_played_l0 x1 _ k 0 [] [] ([]:Ty2) [] e0))⟩,⟨(take_all e_i64_i64_u8_i64 (l:=[]) (n:=0) rfl)⟩,⟨(rfl:0=0)⟩,⟨(zle 0)⟩,⟨rF⟩,⟨(ok_site_New)⟩] (by kernel_rfl)
end Go.Ws

namespace Go.Ws
open Go.Proofs
set_option linter.unusedSimpArgs false
set_option linter.unusedVariables false
set_option maxRecDepth 1000000
set_option maxHeartbeats 4000000
noncomputable def X26_4 (x1:Ty11) (x2:Ty8) (x3:Ty2) (x4:Ty7):Ctx:=⟨Try.f26,[(.row [(.sl 2 (List.map e_u8_i64 x1)),(.sl 3 (List.map e_u8_i64_b x2)),(.mp 1),(.ref 4 2 1 0 x4.length .virt)]),(.map (encM .i64 (fun y=>AV.agg (e_i64_Lu8i64E_b_i64 y)) x3) x3.length),(.arr 4 (List.map e_i64_i64_u8_i64 x4) 1 1 false)],false⟩
theorem ok_site_Site_good_4 (x1:Ty11) (x2:Ty8) (x3:Ty2) (x4:Ty7):Tri Try.prog 26 [(.hp 0 0)] [(.row [(.sl 2 (List.map e_u8_i64 x1)),(.sl 3 (List.map e_u8_i64_b x2)),(.mp 1),(.ref 4 2 1 0 x4.length .virt)]),(.map (encM .i64 (fun y=>AV.agg (e_i64_Lu8i64E_b_i64 y)) x3) x3.length),(.arr 4 (List.map e_i64_i64_u8_i64 x4) 1 1 false)] (.bool (!false)) [(.row [(.sl 2 (List.map e_u8_i64 x1)),(.sl 3 (List.map e_u8_i64_b x2)),(.mp 1),(.ref 4 2 1 0 x4.length .virt)]),(.map (encM .i64 (fun y=>AV.agg (e_i64_Lu8i64E_b_i64 y)) x3) x3.length),(.arr 4 (List.map e_i64_i64_u8_i64 x4) 1 1 false)]:=by
    obtain ⟨r,h⟩:∃ r,site_Site_good_4 x1 x2 x3 x4=r:=⟨_,rfl⟩
    try rw [h]
    unfold site_Site_good_4 at h
    obtain rfl:=h
    exact Tri.of (x:=(X26_4 x1 x2 x3 x4)) mixed facts26 [dt,dt,dt,dt,dt,dt,.norm 0 ⟨[(2,[])],[],false,[],[]⟩] [⟨(nT rfl)⟩,⟨(nT rfl)⟩,⟨(nT rfl)⟩,⟨(nT rfl)⟩,⟨(nT rfl)⟩,⟨(nT rfl)⟩] (by kernel_rfl)
end Go.Ws

namespace Go.Ws
open Go.Proofs
set_option linter.unusedSimpArgs false
set_option linter.unusedVariables false
set_option maxRecDepth 1000000
set_option maxHeartbeats 4000000
noncomputable def X37_4 (x9:Ty11) (x10:Ty8) (x11:Ty2) (x12:Ty7):Ctx:=⟨Try.f37,[(.row [(.sl 2 (List.map e_u8_i64 x9)),(.sl 3 (List.map e_u8_i64_b x10)),(.mp 1),(.ref 4 2 1 0 x12.length .virt)]),(.map (encM .i64 (fun y=>AV.agg (e_i64_Lu8i64E_b_i64 y)) x11) x11.length),(.arr 4 (List.map e_i64_i64_u8_i64 x12) 1 1 false)],false⟩
noncomputable def L37_4_0:Code:=at_ Try.f37 [1,1,1,1,1,1,1,0,1,4,5]
def S37_4_0 (x2:Ty11) (x5:Int) (x6:Int) (x7:Int) (x8:Int) (x9:Ty11) (x11:Ty2) (x12:Ty7) (x13:Ty8 × Int) (v437001_1:Int) (v437001_2:Int):St:=⟨mkT 92 [(5,(.hp 3 0)),(10,(.int .i64 v437001_1)),(75,(.sl 2 (List.map e_u8_i64 x2))),(76,(.int .i64 (nI x2.length))),(77,(.int .i64 v437001_2))],[(.row [(.sl 2 (List.map e_u8_i64 x9)),(.sl 3 (List.map e_u8_i64_b x13.1)),(.mp 1),(.ref 4 2 1 0 x12.length .virt)]),(.map (encM .i64 (fun y=>AV.agg (e_i64_Lu8i64E_b_i64 y)) x11) x11.length),(.arr 4 (List.map e_i64_i64_u8_i64 x12) 1 1 false),(.row [(.int .i64 x5),(.int .i64 x6),(.int .u8 x7),(.int .i64 x8)])]⟩
def E37_4_0_0 (x9:Ty11) (x11:Ty2) (x12:Ty7) (x13:Ty8 × Int) (v437002_1:Int):St:=⟨mkT 92 [(10,(.int .i64 v437002_1))],[(.row [(.sl 2 (List.map e_u8_i64 x9)),(.sl 3 (List.map e_u8_i64_b x13.1)),(.mp 1),(.ref 4 2 1 0 x12.length .virt)]),(.map (encM .i64 (fun y=>AV.agg (e_i64_Lu8i64E_b_i64 y)) x11) x11.length),(.arr 4 (List.map e_i64_i64_u8_i64 x12) 1 1 false)]⟩
def O37_4_0 (x2:Ty11) (x5:Int) (x6:Int) (x7:Int) (x8:Int) (x9:Ty11) (x10:Ty8) (x11:Ty2) (x12:Ty7) (x13:Ty8 × Int) (y:(Int)):GX:=.st (.exit 0) (E37_4_0_0 x9 x11 x12 x13 y)
def A37_4_0 (x13:Ty8 × Int):Ans:=.call ⟨true,[]⟩ (.tup [(.sl 3 (List.map e_u8_i64_b x13.1)),(.int .i64 x13.2)]) []
def A37_4_1 (x14:Int × Ty11 × Bool × Int × Int):Ans:=.call ⟨true,[]⟩ (.tup [(.agg [(.int .i64 x14.1),(.sl 2 (List.map e_u8_i64 x14.2.1)),(.bool x14.2.2.1),(.int .i64 x14.2.2.2.1)]),(.int .i64 x14.2.2.2.2)]) []
def A37_4_2:Ans:=.norm 0 ⟨[(6,[]),(7,[])],[],false,[],[]⟩
theorem ok_site_Site_access_4_l0 (x2:Ty11) (x5:Int) (x6:Int) (x7:Int) (x8:Int) (x9:Ty11) (x10:Ty8) (x11:Ty2) (x12:Ty7) (x13:Ty8 × Int) (y:(Int)):∀ (k:Nat) (v437001_1:Int) (v437001_2:Int),site_Site_access_4_l0 k x2 x5 x6 x7 x8 x9 x10 x11 x12 x13 v437001_1 v437001_2=some y→LT Try.prog (X37_4 x9 x10 x11 x12) L37_4_0 (S37_4_0 x2 x5 x6 x7 x8 x9 x11 x12 x13 v437001_1 v437001_2) (O37_4_0 x2 x5 x6 x7 x8 x9 x10 x11 x12 x13 y)
  | 0,v437001_1,v437001_2,h=>by cases h
  | k + 1,v437001_1,v437001_2,h=>by
    rw [site_Site_access_4_l0] at h
    by_cases cL0:ltI v437001_2 (nI x2.length)=true
    · rw [if_pos cL0] at h
      by_cases cL1:inI v437001_2 x2.length=true
      · rw [if_pos cL1] at h
        obtain ⟨v437000_1,eL2,h⟩:=Option.bind_eq_some_iff.1 h
        by_cases cL3:eqI v437000_1.1 x7=true
        · rw [if_pos cL3] at h
          exact LT.next mixed (hs:=⟨[(5,[]),(10,[]),(75,[]),(76,[]),(77,[])],[⟨.tmp 5,[],none⟩],false,[],[]⟩) (es:=none) [dt,.n x2.length,.row [(.int .u8 v437000_1.1),(.int .i64 v437000_1.2)],dt] [⟨cL3⟩,⟨(cells_map (e:=e_u8_i64) eL2 2 0 2 (by decide))⟩,⟨cL1⟩,⟨(len_map e_u8_i64 x2)⟩,⟨cL0⟩] (by kernel_rfl) (ok_site_Site_access_4_l0 x2 x5 x6 x7 x8 x9 x10 x11 x12 x13 y k (iadd .i64 v437001_1 v437000_1.2) (iadd .i64 v437001_2 1) h)
        · rw [if_neg cL3] at h
          replace cL3:=eqf cL3
          exact LT.next mixed (hs:=⟨[(5,[]),(10,[]),(75,[]),(76,[]),(77,[])],[⟨.tmp 5,[],none⟩],false,[],[]⟩) (es:=none) [dt,.n x2.length,.row [(.int .u8 v437000_1.1),(.int .i64 v437000_1.2)],df] [⟨cL3⟩,⟨(cells_map (e:=e_u8_i64) eL2 2 0 2 (by decide))⟩,⟨cL1⟩,⟨(len_map e_u8_i64 x2)⟩,⟨cL0⟩] (by kernel_rfl) (ok_site_Site_access_4_l0 x2 x5 x6 x7 x8 x9 x10 x11 x12 x13 y k v437001_1 (iadd .i64 v437001_2 1) h)
      · rw [if_neg cL1] at h
        replace cL1:=eqf cL1
        cases h
    · rw [if_neg cL0] at h
      replace cL0:=eqf cL0
      obtain rfl:=Option.some.inj h
      show LT _ _ _ _ (.st (.exit 0) (E37_4_0_0 x9 x11 x12 x13 v437001_1))
      exact LT.done mixed (hs:=⟨[],[],false,[],[]⟩) (es:=(some ⟨[(10,[])],[],false,[],[]⟩)) [df] [⟨cL0⟩] (by kernel_rfl) (fun s h=>by cases h)
theorem ok_site_Site_access_4 (k:Nat) (x1:Int) (x2:Ty11) (x3:Bool) (x4:Int) (x5:Int) (x6:Int) (x7:Int) (x8:Int) (x9:Ty11) (x10:Ty8) (x11:Ty2) (x12:Ty7) (r:Ty8 × Ty2 × Int × Int) (h:site_Site_access_4 k x1 x2 x3 x4 x5 x6 x7 x8 x9 x10 x11 x12=some r):Tri Try.prog 37 [(.hp 0 0),(.agg [(.int .i64 x1),(.sl 2 (List.map e_u8_i64 x2)),(.bool x3),(.int .i64 x4)]),(.agg [(.int .i64 x5),(.int .i64 x6),(.int .u8 x7),(.int .i64 x8)])] [(.row [(.sl 2 (List.map e_u8_i64 x9)),(.sl 3 (List.map e_u8_i64_b x10)),(.mp 1),(.ref 4 2 1 0 x12.length .virt)]),(.map (encM .i64 (fun y=>AV.agg (e_i64_Lu8i64E_b_i64 y)) x11) x11.length),(.arr 4 (List.map e_i64_i64_u8_i64 x12) 1 1 false)] (.tup [(.int .i64 r.2.2.2),(.int .i64 r.2.2.1)]) [(.row [(.sl 2 (List.map e_u8_i64 x9)),(.sl 3 (List.map e_u8_i64_b r.1)),(.mp 1),(.ref 4 2 1 0 x12.length .virt)]),(.map (encM .i64 (fun y=>AV.agg (e_i64_Lu8i64E_b_i64 y)) r.2.1) r.2.1.length),(.arr 4 (List.map e_i64_i64_u8_i64 x12) 1 1 false)]:=by
    unfold site_Site_access_4 at h
    by_cases c0:eqI x1 0=true
    · rw [if_pos c0] at h
      obtain ⟨x13,e1,h⟩:=Option.bind_eq_some_iff.1 h
      by_cases c2:eqI x13.2 0=true
      · rw [if_pos c2] at h
        by_cases c3:eqI x5 3=true
        · rw [if_pos c3] at h
          obtain ⟨x14,e4,h⟩:=Option.bind_eq_some_iff.1 h
          by_cases c5:eqI x14.2.2.2.2 0=true
          · rw [if_pos c5] at h
            by_cases c6:mHas x11 x6=true
            · rw [if_pos c6] at h
              obtain ⟨x15,e7,h⟩:=Option.bind_eq_some_iff.1 h
              obtain rfl:=Option.some.inj h
              exact Tri.of (x:=(X37_4 x9 x10 x11 x12)) mixed facts37 [df,(A37_4_0 x13),df,dt,(A37_4_1 x14),df,.opt (some (.agg [(.int .i64 x15.1),(.sl 2 (List.map e_u8_i64 x15.2.1)),(.bool x15.2.2.1),(.int .i64 x15.2.2.2)])),.n (mIx x11 x6),.ents (encM .i64 (fun y=>AV.agg (e_i64_Lu8i64E_b_i64 y)) x11) x11.length,.ents (encM .i64 (fun y=>AV.agg (e_i64_Lu8i64E_b_i64 y)) (mPut x11 x6 (x14.1,x14.2.1,x14.2.2.1,x14.2.2.2.1))) (mPut x11 x6 (x14.1,x14.2.1,x14.2.2.1,x14.2.2.2.1)).length,A37_4_2] [⟨(sb_some .i64 (fun y=>AV.agg (e_i64_Lu8i64E_b_i64 y)) e7 (x14.1,x14.2.1,x14.2.2.1,x14.2.2.2.1))⟩,⟨(ent_some .i64 (fun y=>AV.agg (e_i64_Lu8i64E_b_i64 y)) e7 (.agg [(.int .i64 0),(.sl 2 (List.map e_u8_i64 [])),(.bool false),(.int .i64 0)]))⟩,⟨(idx_enc .i64 (fun y=>AV.agg (e_i64_Lu8i64E_b_i64 y)) x11 x6)⟩,⟨(look_some .i64 (fun y=>AV.agg (e_i64_Lu8i64E_b_i64 y)) e7)⟩,⟨(nF c5)⟩,⟨(ok_part_Add k x1 x2 x3 x4 x7 x8 _ e4)⟩,⟨c3⟩,⟨(nF c2)⟩,⟨(ok_lock_Take k x10 x6 x7 (eqI x5 3) _ e1)⟩,⟨(nF c0)⟩] (by kernel_rfl)
            · rw [if_neg c6] at h
              replace c6:=eqf c6
              obtain rfl:=Option.some.inj h
              exact Tri.of (x:=(X37_4 x9 x10 x11 x12)) mixed facts37 [df,(A37_4_0 x13),df,dt,(A37_4_1 x14),df,.opt none,.n (mIx x11 x6),.ents (encM .i64 (fun y=>AV.agg (e_i64_Lu8i64E_b_i64 y)) (mPut x11 x6 (0,[],false,0))) (mPut x11 x6 (0,[],false,0)).length,.ents (encM .i64 (fun y=>AV.agg (e_i64_Lu8i64E_b_i64 y)) (mPut x11 x6 (x14.1,x14.2.1,x14.2.2.1,x14.2.2.2.1))) (mPut x11 x6 (x14.1,x14.2.1,x14.2.2.1,x14.2.2.2.1)).length,A37_4_2] [⟨(sb_none .i64 (fun y=>AV.agg (e_i64_Lu8i64E_b_i64 y)) (l:=x11) (q:=x6) (0,[],false,0) (x14.1,x14.2.1,x14.2.2.1,x14.2.2.2.1))⟩,⟨(ent_none .i64 (fun y=>AV.agg (e_i64_Lu8i64E_b_i64 y)) c6 (0,[],false,0))⟩,⟨(idx_enc .i64 (fun y=>AV.agg (e_i64_Lu8i64E_b_i64 y)) x11 x6)⟩,⟨(look_none .i64 (fun y=>AV.agg (e_i64_Lu8i64E_b_i64 y)) c6)⟩,⟨(nF c5)⟩,⟨(ok_part_Add k x1 x2 x3 x4 x7 x8 _ e4)⟩,⟨c3⟩,⟨(nF c2)⟩,⟨(ok_lock_Take k x10 x6 x7 (eqI x5 3) _ e1)⟩,⟨(nF c0)⟩] (by kernel_rfl)
          · rw [if_neg c5] at h
            replace c5:=eqf c5
            obtain rfl:=Option.some.inj h
            exact Tri.of (x:=(X37_4 x9 x10 x11 x12)) mixed facts37 [df,(A37_4_0 x13),df,dt,(A37_4_1 x14),dt,A37_4_2] [⟨(nT c5)⟩,⟨(ok_part_Add k x1 x2 x3 x4 x7 x8 _ e4)⟩,⟨c3⟩,⟨(nF c2)⟩,⟨(ok_lock_Take k x10 x6 x7 (eqI x5 3) _ e1)⟩,⟨(nF c0)⟩] (by kernel_rfl)
        · rw [if_neg c3] at h
          replace c3:=eqf c3
          obtain ⟨x14,e4,h⟩:=Option.bind_eq_some_iff.1 h
          obtain ⟨x16,e5,h⟩:=Option.bind_eq_some_iff.1 h
          obtain rfl:=Option.some.inj h
          exact Tri.of (x:=(X37_4 x9 x10 x11 x12)) mixed facts37 [df,(A37_4_0 x13),df,df,.call ⟨true,[]⟩ (.int .i64 x14) [],.n x2.length,.norm 2 ⟨[(5,[]),(10,[]),(75,[]),(76,[]),(77,[])],[⟨.tmp 5,[],none⟩],false,[],[]⟩,.out (.st .normal (E37_4_0_0 x9 x11 x12 x13 x16)),A37_4_2] [⟨(LT.block (ok_site_Site_access_4_l0 x2 x5 x6 x7 x8 x9 x10 x11 x12 x13 _ k x14 0 e5))⟩,⟨(len_map e_u8_i64 x2)⟩,⟨(ok_ledger_Get k x9 x7 _ e4)⟩,⟨c3⟩,⟨(nF c2)⟩,⟨(ok_lock_Take k x10 x6 x7 (eqI x5 3) _ e1)⟩,⟨(nF c0)⟩] (by kernel_rfl)
      · rw [if_neg c2] at h
        replace c2:=eqf c2
        obtain rfl:=Option.some.inj h
        exact Tri.of (x:=(X37_4 x9 x10 x11 x12)) mixed facts37 [df,(A37_4_0 x13),dt,A37_4_2] [⟨(nT c2)⟩,⟨(ok_lock_Take k x10 x6 x7 (eqI x5 3) _ e1)⟩,⟨(nF c0)⟩] (by kernel_rfl)
    · rw [if_neg c0] at h
      replace c0:=eqf c0
      obtain rfl:=Option.some.inj h
      exact Tri.of (x:=(X37_4 x9 x10 x11 x12)) mixed facts37 [dt,A37_4_2] [⟨(nT c0)⟩] (by kernel_rfl)
end Go.Ws

namespace Go.Ws
open Go.Proofs
set_option linter.unusedSimpArgs false
set_option linter.unusedVariables false
set_option maxRecDepth 1000000
set_option maxHeartbeats 4000000
noncomputable def X38_4 (x9:Ty11) (x10:Ty8) (x11:Ty2) (x12:Ty7):Ctx:=⟨Try.f38,[(.row [(.sl 2 (List.map e_u8_i64 x9)),(.sl 3 (List.map e_u8_i64_b x10)),(.mp 1),(.ref 4 2 1 0 x12.length .virt)]),(.map (encM .i64 (fun y=>AV.agg (e_i64_Lu8i64E_b_i64 y)) x11) x11.length),(.arr 4 (List.map e_i64_i64_u8_i64 x12) 1 1 false)],false⟩
def A38_4_0 (x13:Int × Ty11 × Bool × Int × Int):Ans:=.call ⟨true,[]⟩ (.tup [(.agg [(.int .i64 x13.1),(.sl 2 (List.map e_u8_i64 x13.2.1)),(.bool x13.2.2.1),(.int .i64 x13.2.2.2.1)]),(.int .i64 x13.2.2.2.2)]) []
def A38_4_1 (x15:Ty8):Ans:=.call ⟨true,[]⟩ (.sl 3 (List.map e_u8_i64_b x15)) []
def A38_4_2 (x13:Int × Ty11 × Bool × Int × Ty11 × Int):Ans:=.call ⟨true,[]⟩ (.tup [(.agg [(.int .i64 x13.1),(.sl 2 (List.map e_u8_i64 x13.2.1)),(.bool x13.2.2.1),(.int .i64 x13.2.2.2.1)]),(.sl 2 (List.map e_u8_i64 x13.2.2.2.2.1)),(.int .i64 x13.2.2.2.2.2)]) []
def A38_4_3 (x6:Int) (x11:Ty2) (x13:Int × Ty11 × Bool × Int × Ty11 × Int):Ans:=.ents (encM .i64 (fun y=>AV.agg (e_i64_Lu8i64E_b_i64 y)) (mPut x11 x6 (x13.1,x13.2.1,x13.2.2.1,x13.2.2.2.1))) (mPut x11 x6 (x13.1,x13.2.1,x13.2.2.1,x13.2.2.2.1)).length
def A38_4_4 (x14:Ty11 × Int):Ans:=.call ⟨true,[]⟩ (.tup [(.sl 2 (List.map e_u8_i64 x14.1)),(.int .i64 x14.2)]) []
theorem ok_site_Site_end_4 (k:Nat) (x1:Int) (x2:Ty11) (x3:Bool) (x4:Int) (x5:Int) (x6:Int) (x7:Int) (x8:Int) (x9:Ty11) (x10:Ty8) (x11:Ty2) (x12:Ty7) (r:Ty11 × Ty8 × Ty2 × Int) (h:site_Site_end_4 k x1 x2 x3 x4 x5 x6 x7 x8 x9 x10 x11 x12=some r):Tri Try.prog 38 [(.hp 0 0),(.agg [(.int .i64 x1),(.sl 2 (List.map e_u8_i64 x2)),(.bool x3),(.int .i64 x4)]),(.agg [(.int .i64 x5),(.int .i64 x6),(.int .u8 x7),(.int .i64 x8)])] [(.row [(.sl 2 (List.map e_u8_i64 x9)),(.sl 3 (List.map e_u8_i64_b x10)),(.mp 1),(.ref 4 2 1 0 x12.length .virt)]),(.map (encM .i64 (fun y=>AV.agg (e_i64_Lu8i64E_b_i64 y)) x11) x11.length),(.arr 4 (List.map e_i64_i64_u8_i64 x12) 1 1 false)] (.int .i64 r.2.2.2) [(.row [(.sl 2 (List.map e_u8_i64 r.1)),(.sl 3 (List.map e_u8_i64_b r.2.1)),(.mp 1),(.ref 4 2 1 0 x12.length .virt)]),(.map (encM .i64 (fun y=>AV.agg (e_i64_Lu8i64E_b_i64 y)) r.2.2.1) r.2.2.1.length),(.arr 4 (List.map e_i64_i64_u8_i64 x12) 1 1 false)]:=by
    unfold site_Site_end_4 at h
    by_cases c0:eqI x5 4=true
    · rw [if_pos c0] at h
      obtain ⟨x13,e1,h⟩:=Option.bind_eq_some_iff.1 h
      by_cases c2:eqI x13.2.2.2.2 0=true
      · rw [if_pos c2] at h
        obtain ⟨x14,e3,h⟩:=Option.bind_eq_some_iff.1 h
        by_cases c4:eqI x13.1 2=true
        · rw [if_pos c4] at h
          obtain ⟨x15,e5,h⟩:=Option.bind_eq_some_iff.1 h
          obtain rfl:=Option.some.inj h
          exact Tri.of (x:=(X38_4 x9 x10 x11 x12)) mixed facts38 [dt,(A38_4_0 x13),df,.ents (encM .i64 (fun y=>AV.agg (e_i64_Lu8i64E_b_i64 y)) (mPut x11 x6 (x13.1,x13.2.1,x13.2.2.1,x13.2.2.2.1))) (mPut x11 x6 (x13.1,x13.2.1,x13.2.2.1,x13.2.2.2.1)).length,.call ⟨true,[[],[(0,2)]]⟩ (.tup [(.sl 2 (List.map e_u8_i64 x14.1)),(.int .i64 x14.2)]) [],df,df,df,df,dt,(A38_4_1 x15),.norm 0 ⟨[(6,[])],[],false,[],[]⟩] [⟨(ok_lock_Free k x10 x6 _ e5)⟩,⟨c4⟩,⟨(nF c0)⟩,⟨(nF c0)⟩,⟨(nF c0)⟩,⟨(nF c0)⟩,⟨(ok_ledger_Put k x9 [] _ e3)⟩,⟨(put_enc .i64 (fun y=>AV.agg (e_i64_Lu8i64E_b_i64 y)) x11 x6 (x13.1,x13.2.1,x13.2.2.1,x13.2.2.2.1))⟩,⟨(nF c2)⟩,⟨(ok_part_Vote k x1 x2 x3 x4 (!eqI x8 0) _ e1)⟩,⟨c0⟩] (by kernel_rfl)
        · rw [if_neg c4] at h
          replace c4:=eqf c4
          obtain rfl:=Option.some.inj h
          exact Tri.of (x:=(X38_4 x9 x10 x11 x12)) mixed facts38 [dt,(A38_4_0 x13),df,.ents (encM .i64 (fun y=>AV.agg (e_i64_Lu8i64E_b_i64 y)) (mPut x11 x6 (x13.1,x13.2.1,x13.2.2.1,x13.2.2.2.1))) (mPut x11 x6 (x13.1,x13.2.1,x13.2.2.1,x13.2.2.2.1)).length,.call ⟨true,[[],[(0,2)]]⟩ (.tup [(.sl 2 (List.map e_u8_i64 x14.1)),(.int .i64 x14.2)]) [],df,df,df,df,df,.norm 0 ⟨[(6,[])],[],false,[],[]⟩] [⟨c4⟩,⟨(nF c0)⟩,⟨(nF c0)⟩,⟨(nF c0)⟩,⟨(nF c0)⟩,⟨(ok_ledger_Put k x9 [] _ e3)⟩,⟨(put_enc .i64 (fun y=>AV.agg (e_i64_Lu8i64E_b_i64 y)) x11 x6 (x13.1,x13.2.1,x13.2.2.1,x13.2.2.2.1))⟩,⟨(nF c2)⟩,⟨(ok_part_Vote k x1 x2 x3 x4 (!eqI x8 0) _ e1)⟩,⟨c0⟩] (by kernel_rfl)
      · rw [if_neg c2] at h
        replace c2:=eqf c2
        obtain rfl:=Option.some.inj h
        exact Tri.of (x:=(X38_4 x9 x10 x11 x12)) mixed facts38 [dt,(A38_4_0 x13),dt,.norm 0 ⟨[(6,[])],[],false,[],[]⟩] [⟨(nT c2)⟩,⟨(ok_part_Vote k x1 x2 x3 x4 (!eqI x8 0) _ e1)⟩,⟨c0⟩] (by kernel_rfl)
    · rw [if_neg c0] at h
      replace c0:=eqf c0
      by_cases c1:eqI x5 5=true
      · rw [if_pos c1] at h
        obtain ⟨x13,e2,h⟩:=Option.bind_eq_some_iff.1 h
        by_cases c3:eqI x13.2.2.2.2.2 0=true
        · rw [if_pos c3] at h
          obtain ⟨x14,e4,h⟩:=Option.bind_eq_some_iff.1 h
          obtain ⟨x15,e5,h⟩:=Option.bind_eq_some_iff.1 h
          obtain rfl:=Option.some.inj h
          exact Tri.of (x:=(X38_4 x9 x10 x11 x12)) mixed facts38 [df,dt,(A38_4_2 x13),df,(A38_4_3 x6 x11 x13),(A38_4_4 x14),dt,dt,dt,dt,dt,(A38_4_1 x15),.norm 0 ⟨[(6,[])],[],false,[],[]⟩] [⟨(ok_lock_Free k x10 x6 _ e5)⟩,⟨rT⟩,⟨(nT c0)⟩,⟨(nT c0)⟩,⟨(nT c0)⟩,⟨(nT c0)⟩,⟨(ok_ledger_Put k x9 x13.2.2.2.2.1 _ e4)⟩,⟨(put_enc .i64 (fun y=>AV.agg (e_i64_Lu8i64E_b_i64 y)) x11 x6 (x13.1,x13.2.1,x13.2.2.1,x13.2.2.2.1))⟩,⟨(nF c3)⟩,⟨(ok_part_Local k x1 x2 x3 x4 _ e2)⟩,⟨c1⟩,⟨c0⟩] (by kernel_rfl)
        · rw [if_neg c3] at h
          replace c3:=eqf c3
          obtain rfl:=Option.some.inj h
          exact Tri.of (x:=(X38_4 x9 x10 x11 x12)) mixed facts38 [df,dt,(A38_4_2 x13),dt,.norm 0 ⟨[(6,[])],[],false,[],[]⟩] [⟨(nT c3)⟩,⟨(ok_part_Local k x1 x2 x3 x4 _ e2)⟩,⟨c1⟩,⟨c0⟩] (by kernel_rfl)
      · rw [if_neg c1] at h
        replace c1:=eqf c1
        by_cases c2:eqI x8 1=true
        · rw [if_pos c2] at h
          obtain ⟨x13,e3,h⟩:=Option.bind_eq_some_iff.1 h
          by_cases c4:eqI x13.2.2.2.2.2 0=true
          · rw [if_pos c4] at h
            obtain ⟨x14,e5,h⟩:=Option.bind_eq_some_iff.1 h
            obtain ⟨x15,e6,h⟩:=Option.bind_eq_some_iff.1 h
            obtain rfl:=Option.some.inj h
            exact Tri.of (x:=(X38_4 x9 x10 x11 x12)) mixed facts38 [df,df,dt,dt,dt,dt,dt,(A38_4_2 x13),df,(A38_4_3 x6 x11 x13),(A38_4_4 x14),dt,dt,dt,dt,dt,(A38_4_1 x15),.norm 0 ⟨[(6,[])],[],false,[],[]⟩] [⟨(ok_lock_Free k x10 x6 _ e6)⟩,⟨rT⟩,⟨(nT c0)⟩,⟨(nT c0)⟩,⟨(nT c0)⟩,⟨(nT c0)⟩,⟨(ok_ledger_Put k x9 x13.2.2.2.2.1 _ e5)⟩,⟨(put_enc .i64 (fun y=>AV.agg (e_i64_Lu8i64E_b_i64 y)) x11 x6 (x13.1,x13.2.1,x13.2.2.1,x13.2.2.2.1))⟩,⟨(nF c4)⟩,⟨(ok_part_Decide k x1 x2 x3 x4 x8 _ e3)⟩,⟨rT⟩,⟨c2⟩,⟨c2⟩,⟨c2⟩,⟨c2⟩,⟨c1⟩,⟨c0⟩] (by kernel_rfl)
          · rw [if_neg c4] at h
            replace c4:=eqf c4
            obtain rfl:=Option.some.inj h
            exact Tri.of (x:=(X38_4 x9 x10 x11 x12)) mixed facts38 [df,df,dt,dt,dt,dt,dt,(A38_4_2 x13),dt,.norm 0 ⟨[(6,[])],[],false,[],[]⟩] [⟨(nT c4)⟩,⟨(ok_part_Decide k x1 x2 x3 x4 x8 _ e3)⟩,⟨rT⟩,⟨c2⟩,⟨c2⟩,⟨c2⟩,⟨c2⟩,⟨c1⟩,⟨c0⟩] (by kernel_rfl)
        · rw [if_neg c2] at h
          replace c2:=eqf c2
          by_cases c3:eqI x8 2=true
          · rw [if_pos c3] at h
            obtain ⟨x13,e4,h⟩:=Option.bind_eq_some_iff.1 h
            by_cases c5:eqI x13.2.2.2.2.2 0=true
            · rw [if_pos c5] at h
              obtain ⟨x14,e6,h⟩:=Option.bind_eq_some_iff.1 h
              obtain ⟨x15,e7,h⟩:=Option.bind_eq_some_iff.1 h
              obtain rfl:=Option.some.inj h
              exact Tri.of (x:=(X38_4 x9 x10 x11 x12)) mixed facts38 [df,df,df,df,df,df,dt,(A38_4_2 x13),df,(A38_4_3 x6 x11 x13),(A38_4_4 x14),dt,dt,dt,dt,dt,(A38_4_1 x15),.norm 0 ⟨[(6,[])],[],false,[],[]⟩] [⟨(ok_lock_Free k x10 x6 _ e7)⟩,⟨rT⟩,⟨(nT c0)⟩,⟨(nT c0)⟩,⟨(nT c0)⟩,⟨(nT c0)⟩,⟨(ok_ledger_Put k x9 x13.2.2.2.2.1 _ e6)⟩,⟨(put_enc .i64 (fun y=>AV.agg (e_i64_Lu8i64E_b_i64 y)) x11 x6 (x13.1,x13.2.1,x13.2.2.1,x13.2.2.2.1))⟩,⟨(nF c5)⟩,⟨(ok_part_Decide k x1 x2 x3 x4 x8 _ e4)⟩,⟨c3⟩,⟨c2⟩,⟨c2⟩,⟨c2⟩,⟨c2⟩,⟨c1⟩,⟨c0⟩] (by kernel_rfl)
            · rw [if_neg c5] at h
              replace c5:=eqf c5
              obtain rfl:=Option.some.inj h
              exact Tri.of (x:=(X38_4 x9 x10 x11 x12)) mixed facts38 [df,df,df,df,df,df,dt,(A38_4_2 x13),dt,.norm 0 ⟨[(6,[])],[],false,[],[]⟩] [⟨(nT c5)⟩,⟨(ok_part_Decide k x1 x2 x3 x4 x8 _ e4)⟩,⟨c3⟩,⟨c2⟩,⟨c2⟩,⟨c2⟩,⟨c2⟩,⟨c1⟩,⟨c0⟩] (by kernel_rfl)
          · rw [if_neg c3] at h
            replace c3:=eqf c3
            obtain rfl:=Option.some.inj h
            exact Tri.of (x:=(X38_4 x9 x10 x11 x12)) mixed facts38 [df,df,df,df,df,df,df,dt,.norm 0 ⟨[(6,[])],[],false,[],[]⟩] [⟨(nT (rfl:eqI 2 0=false))⟩,⟨c3⟩,⟨c2⟩,⟨c2⟩,⟨c2⟩,⟨c2⟩,⟨c1⟩,⟨c0⟩] (by kernel_rfl)
end Go.Ws

namespace Go.Ws
open Go.Proofs
set_option linter.unusedSimpArgs false
set_option linter.unusedVariables false
set_option maxRecDepth 1000000
set_option maxHeartbeats 4000000
noncomputable def X27_4 (x9:Ty11) (x10:Ty8) (x11:Ty2) (x12:Ty7):Ctx:=⟨Try.f27,[(.row [(.sl 2 (List.map e_u8_i64 x9)),(.sl 3 (List.map e_u8_i64_b x10)),(.mp 1),(.ref 4 2 1 0 x12.length .virt)]),(.map (encM .i64 (fun y=>AV.agg (e_i64_Lu8i64E_b_i64 y)) x11) x11.length),(.arr 4 (List.map e_i64_i64_u8_i64 x12) 1 1 false)],false⟩
def A27_4_0:Ans:=.norm 0 ⟨[(6,[]),(7,[])],[],false,[],[]⟩
def A27_4_1 (x9:Ty11) (x12:Ty7) (x13:Ty8 × Ty2 × Int × Int):Ans:=.call ⟨true,[]⟩ (.tup [(.int .i64 x13.2.2.2),(.int .i64 x13.2.2.1)]) [(.row [(.sl 2 (List.map e_u8_i64 x9)),(.sl 3 (List.map e_u8_i64_b x13.1)),(.mp 1),(.ref 4 2 1 0 x12.length .virt)]),(.map (encM .i64 (fun y=>AV.agg (e_i64_Lu8i64E_b_i64 y)) x13.2.1) x13.2.1.length),(.arr 4 (List.map e_i64_i64_u8_i64 x12) 1 1 false)]
theorem ok_site_Site_step_4 (k:Nat) (x1:Int) (x2:Ty11) (x3:Bool) (x4:Int) (x5:Int) (x6:Int) (x7:Int) (x8:Int) (x9:Ty11) (x10:Ty8) (x11:Ty2) (x12:Ty7) (r:Int × Int × Ty8 × Ty2 × Ty11) (h:site_Site_step_4 k x1 x2 x3 x4 x5 x6 x7 x8 x9 x10 x11 x12=some r):Tri Try.prog 27 [(.hp 0 0),(.agg [(.int .i64 x1),(.sl 2 (List.map e_u8_i64 x2)),(.bool x3),(.int .i64 x4)]),(.agg [(.int .i64 x5),(.int .i64 x6),(.int .u8 x7),(.int .i64 x8)])] [(.row [(.sl 2 (List.map e_u8_i64 x9)),(.sl 3 (List.map e_u8_i64_b x10)),(.mp 1),(.ref 4 2 1 0 x12.length .virt)]),(.map (encM .i64 (fun y=>AV.agg (e_i64_Lu8i64E_b_i64 y)) x11) x11.length),(.arr 4 (List.map e_i64_i64_u8_i64 x12) 1 1 false)] (.tup [(.int .i64 r.1),(.int .i64 r.2.1)]) [(.row [(.sl 2 (List.map e_u8_i64 r.2.2.2.2)),(.sl 3 (List.map e_u8_i64_b r.2.2.1)),(.mp 1),(.ref 4 2 1 0 x12.length .virt)]),(.map (encM .i64 (fun y=>AV.agg (e_i64_Lu8i64E_b_i64 y)) r.2.2.2.1) r.2.2.2.1.length),(.arr 4 (List.map e_i64_i64_u8_i64 x12) 1 1 false)]:=by
    unfold site_Site_step_4 at h
    by_cases c0:eqI x5 1=true
    · rw [if_pos c0] at h
      obtain rfl:=Option.some.inj h
      exact Tri.of (x:=(X27_4 x9 x10 x11 x12)) mixed facts27 [dt,.ents (encM .i64 (fun y=>AV.agg (e_i64_Lu8i64E_b_i64 y)) (mPut x11 x6 (x1,x2,x3,x4))) (mPut x11 x6 (x1,x2,x3,x4)).length,A27_4_0] [⟨(put_enc .i64 (fun y=>AV.agg (e_i64_Lu8i64E_b_i64 y)) x11 x6 (x1,x2,x3,x4))⟩,⟨c0⟩] (by kernel_rfl)
    · rw [if_neg c0] at h
      replace c0:=eqf c0
      by_cases c1:eqI x5 2=true
      · rw [if_pos c1] at h
        obtain ⟨x13,e2,h⟩:=Option.bind_eq_some_iff.1 h
        obtain rfl:=Option.some.inj h
        exact Tri.of (x:=(X27_4 x9 x10 x11 x12)) mixed facts27 [df,dt,dt,(A27_4_1 x9 x12 x13),A27_4_0] [⟨(ok_site_Site_access_4 k x1 x2 x3 x4 x5 x6 x7 x8 x9 x10 x11 x12 _ e2)⟩,⟨c1⟩,⟨c1⟩,⟨c0⟩] (by kernel_rfl)
      · rw [if_neg c1] at h
        replace c1:=eqf c1
        by_cases c2:eqI x5 3=true
        · rw [if_pos c2] at h
          obtain ⟨x13,e3,h⟩:=Option.bind_eq_some_iff.1 h
          obtain rfl:=Option.some.inj h
          exact Tri.of (x:=(X27_4 x9 x10 x11 x12)) mixed facts27 [df,df,dt,(A27_4_1 x9 x12 x13),A27_4_0] [⟨(ok_site_Site_access_4 k x1 x2 x3 x4 x5 x6 x7 x8 x9 x10 x11 x12 _ e3)⟩,⟨c2⟩,⟨c1⟩,⟨c0⟩] (by kernel_rfl)
        · rw [if_neg c2] at h
          replace c2:=eqf c2
          obtain ⟨x13,e3,h⟩:=Option.bind_eq_some_iff.1 h
          obtain rfl:=Option.some.inj h
          exact Tri.of (x:=(X27_4 x9 x10 x11 x12)) mixed facts27 [df,df,df,.call ⟨true,[]⟩ (.int .i64 x13.2.2.2) [(.row [(.sl 2 (List.map e_u8_i64 x13.1)),(.sl 3 (List.map e_u8_i64_b x13.2.1)),(.mp 1),(.ref 4 2 1 0 x12.length .virt)]),(.map (encM .i64 (fun y=>AV.agg (e_i64_Lu8i64E_b_i64 y)) x13.2.2.1) x13.2.2.1.length),(.arr 4 (List.map e_i64_i64_u8_i64 x12) 1 1 false)],A27_4_0] [⟨(ok_site_Site_end_4 k x1 x2 x3 x4 x5 x6 x7 x8 x9 x10 x11 x12 _ e3)⟩,⟨c2⟩,⟨c1⟩,⟨c0⟩] (by kernel_rfl)
end Go.Ws

namespace Go.Ws
open Go.Proofs
set_option linter.unusedSimpArgs false
set_option linter.unusedVariables false
set_option maxRecDepth 1000000
set_option maxHeartbeats 4000000
noncomputable def X14_4 (x5:Ty11) (x6:Ty8) (x7:Ty2) (x8:Ty7):Ctx:=⟨Try.f14,[(.row [(.sl 2 (List.map e_u8_i64 x5)),(.sl 3 (List.map e_u8_i64_b x6)),(.mp 1),(.ref 4 2 1 0 x8.length .virt)]),(.map (encM .i64 (fun y=>AV.agg (e_i64_Lu8i64E_b_i64 y)) x7) x7.length),(.arr 4 (List.map e_i64_i64_u8_i64 x8) 1 1 false)],false⟩
def A14_4_0 (x5:Ty11) (x6:Ty8) (x7:Ty2) (x8:Ty7):Ans:=.call ⟨true,[]⟩ (.bool (!false)) [(.row [(.sl 2 (List.map e_u8_i64 x5)),(.sl 3 (List.map e_u8_i64_b x6)),(.mp 1),(.ref 4 2 1 0 x8.length .virt)]),(.map (encM .i64 (fun y=>AV.agg (e_i64_Lu8i64E_b_i64 y)) x7) x7.length),(.arr 4 (List.map e_i64_i64_u8_i64 x8) 1 1 false)]
def A14_4_1:Ans:=.norm 0 ⟨[(4,[]),(5,[])],[],false,[],[none,none,some 2]⟩
def A14_4_2 (x9:Int × Ty11 × Bool × Int):Ans:=.opt (some (.agg [(.int .i64 x9.1),(.sl 2 (List.map e_u8_i64 x9.2.1)),(.bool x9.2.2.1),(.int .i64 x9.2.2.2)]))
def A14_4_3 (x8:Ty7) (x10:Int × Int × Ty8 × Ty2 × Ty11):Ans:=.call ⟨true,[]⟩ (.tup [(.int .i64 x10.1),(.int .i64 x10.2.1)]) [(.row [(.sl 2 (List.map e_u8_i64 x10.2.2.2.2)),(.sl 3 (List.map e_u8_i64_b x10.2.2.1)),(.mp 1),(.ref 4 2 1 0 x8.length .virt)]),(.map (encM .i64 (fun y=>AV.agg (e_i64_Lu8i64E_b_i64 y)) x10.2.2.2.1) x10.2.2.2.1.length),(.arr 4 (List.map e_i64_i64_u8_i64 x8) 1 1 false)]
def A14_4_4 (x8:Ty7) (x9:Int × Int × Ty8 × Ty2 × Ty11):Ans:=.call ⟨true,[]⟩ (.tup [(.int .i64 x9.1),(.int .i64 x9.2.1)]) [(.row [(.sl 2 (List.map e_u8_i64 x9.2.2.2.2)),(.sl 3 (List.map e_u8_i64_b x9.2.2.1)),(.mp 1),(.ref 4 2 1 0 x8.length .virt)]),(.map (encM .i64 (fun y=>AV.agg (e_i64_Lu8i64E_b_i64 y)) x9.2.2.2.1) x9.2.2.2.1.length),(.arr 4 (List.map e_i64_i64_u8_i64 x8) 1 1 false)]
theorem ok_site_Site_Do_4 (k:Nat) (x1:Int) (x2:Int) (x3:Int) (x4:Int) (x5:Ty11) (x6:Ty8) (x7:Ty2) (x8:Ty7) (r:Int × Int × Ty11 × Ty8 × Ty2 × Ty7) (h:site_Site_Do_4 k x1 x2 x3 x4 x5 x6 x7 x8=some r):Tri Try.prog 14 [(.hp 0 0),(.agg [(.int .i64 x1),(.int .i64 x2),(.int .u8 x3),(.int .i64 x4)])] [(.row [(.sl 2 (List.map e_u8_i64 x5)),(.sl 3 (List.map e_u8_i64_b x6)),(.mp 1),(.ref 4 2 1 0 x8.length .virt)]),(.map (encM .i64 (fun y=>AV.agg (e_i64_Lu8i64E_b_i64 y)) x7) x7.length),(.arr 4 (List.map e_i64_i64_u8_i64 x8) 1 1 false)] (.tup [(.int .i64 r.2.1),(.int .i64 r.1)]) [(.row [(.sl 2 (List.map e_u8_i64 r.2.2.1)),(.sl 3 (List.map e_u8_i64_b r.2.2.2.1)),(.mp 1),(.ref 4 2 2 0 r.2.2.2.2.2.length .virt)]),(.map (encM .i64 (fun y=>AV.agg (e_i64_Lu8i64E_b_i64 y)) r.2.2.2.2.1) r.2.2.2.2.1.length),(.arr 4 (List.map e_i64_i64_u8_i64 r.2.2.2.2.2) 2 2 false)]:=by
    unfold site_Site_Do_4 at h
    by_cases c0:ltI x1 1=true
    · rw [if_pos c0] at h
      obtain rfl:=Option.some.inj h
      exact Tri.of (x:=(X14_4 x5 x6 x7 x8)) mixed facts14 [(A14_4_0 x5 x6 x7 x8),df,dt,dt,dt,dt,dt,dt,dt,dt,dt,dt,dt,dt,dt,A14_4_1] [⟨rT⟩,⟨rT⟩,⟨rT⟩,⟨rT⟩,⟨rT⟩,⟨rT⟩,⟨rT⟩,⟨rT⟩,⟨rT⟩,⟨c0⟩,⟨c0⟩,⟨c0⟩,⟨c0⟩,⟨(nF (nT rfl))⟩,⟨(ok_site_Site_good_4 x5 x6 x7 x8)⟩] (by kernel_rfl)
    · rw [if_neg c0] at h
      replace c0:=eqf c0
      by_cases c1:ltI 6 x1=true
      · rw [if_pos c1] at h
        obtain rfl:=Option.some.inj h
        exact Tri.of (x:=(X14_4 x5 x6 x7 x8)) mixed facts14 [(A14_4_0 x5 x6 x7 x8),df,df,df,df,df,dt,dt,dt,dt,dt,dt,dt,dt,dt,A14_4_1] [⟨rT⟩,⟨rT⟩,⟨rT⟩,⟨rT⟩,⟨rT⟩,⟨c1⟩,⟨c1⟩,⟨c1⟩,⟨c1⟩,⟨c0⟩,⟨c0⟩,⟨c0⟩,⟨c0⟩,⟨(nF (nT rfl))⟩,⟨(ok_site_Site_good_4 x5 x6 x7 x8)⟩] (by kernel_rfl)
      · rw [if_neg c1] at h
        replace c1:=eqf c1
        by_cases c2:ltI x2 0=true
        · rw [if_pos c2] at h
          obtain rfl:=Option.some.inj h
          exact Tri.of (x:=(X14_4 x5 x6 x7 x8)) mixed facts14 [(A14_4_0 x5 x6 x7 x8),df,df,df,df,df,df,df,df,df,dt,dt,dt,dt,dt,A14_4_1] [⟨rT⟩,⟨c2⟩,⟨c2⟩,⟨c2⟩,⟨c2⟩,⟨c1⟩,⟨c1⟩,⟨c1⟩,⟨c1⟩,⟨c0⟩,⟨c0⟩,⟨c0⟩,⟨c0⟩,⟨(nF (nT rfl))⟩,⟨(ok_site_Site_good_4 x5 x6 x7 x8)⟩] (by kernel_rfl)
        · rw [if_neg c2] at h
          replace c2:=eqf c2
          by_cases c3:ltI x2 1000=true
          · rw [if_pos c3] at h
            by_cases c4:mHas x7 x2=true
            · rw [if_pos c4] at h
              obtain ⟨x9,e5,h⟩:=Option.bind_eq_some_iff.1 h
              by_cases c6:eqB true (eqI x1 1)=true
              · rw [if_pos c6] at h
                obtain rfl:=Option.some.inj h
                exact Tri.of (x:=(X14_4 x5 x6 x7 x8)) mixed facts14 [(A14_4_0 x5 x6 x7 x8),df,df,df,df,df,df,df,df,df,df,df,df,df,df,(A14_4_2 x9),dt,dt,A14_4_1] [⟨rT⟩,⟨c6⟩,⟨(look_some .i64 (fun y=>AV.agg (e_i64_Lu8i64E_b_i64 y)) e5)⟩,⟨(nF c3)⟩,⟨c2⟩,⟨c2⟩,⟨c2⟩,⟨c2⟩,⟨c1⟩,⟨c1⟩,⟨c1⟩,⟨c1⟩,⟨c0⟩,⟨c0⟩,⟨c0⟩,⟨c0⟩,⟨(nF (nT rfl))⟩,⟨(ok_site_Site_good_4 x5 x6 x7 x8)⟩] (by kernel_rfl)
              · rw [if_neg c6] at h
                replace c6:=eqf c6
                obtain ⟨x10,e7,h⟩:=Option.bind_eq_some_iff.1 h
                by_cases c8:eqI x10.2.1 0=true
                · rw [if_pos c8] at h
                  by_cases c9:roomI (((x8++[(x1,x2,x3,x4)]).length) * 32)=true
                  · rw [if_pos c9] at h
                    obtain rfl:=Option.some.inj h
                    exact Tri.of (x:=(X14_4 x5 x6 x7 x8)) mixed facts14 [(A14_4_0 x5 x6 x7 x8),df,df,df,df,df,df,df,df,df,df,df,df,df,df,(A14_4_2 x9),df,(A14_4_3 x8 x10),df,.rows (List.map e_i64_i64_u8_i64 [(x1,x2,x3,x4)]),.n ((x8++[(x1,x2,x3,x4)]).length),.n x8.length,dt,.rows (List.map e_i64_i64_u8_i64 (x8++[(x1,x2,x3,x4)])),A14_4_1] [⟨(app_map e_i64_i64_u8_i64 x8 [(x1,x2,x3,x4)])⟩,⟨(eqN_self x8.length)⟩,⟨(len_map e_i64_i64_u8_i64 x8)⟩,⟨c9⟩,⟨(by simp only [List.length_append,List.length_cons,List.length_nil,List.length_take,List.length_drop,List.length_set,List.length_replicate,List.length_map,List.map_nil,List.map_cons] <;> omega:x8.length + (List.map e_i64_i64_u8_i64 [(x1,x2,x3,x4)]).length=(x8++[(x1,x2,x3,x4)]).length)⟩,⟨(part_all e_i64_i64_u8_i64 (l:=[(x1,x2,x3,x4)]) (n:=1) rfl)⟩,⟨(le_map e_i64_i64_u8_i64 (Nat.le_refl 1):0 + 1≤(List.map e_i64_i64_u8_i64 [(x1,x2,x3,x4)]).length)⟩,⟨(nF c8)⟩,⟨(ok_site_Site_step_4 k x9.1 x9.2.1 x9.2.2.1 x9.2.2.2 x1 x2 x3 x4 x5 x6 x7 x8 _ e7)⟩,⟨c6⟩,⟨(look_some .i64 (fun y=>AV.agg (e_i64_Lu8i64E_b_i64 y)) e5)⟩,⟨(nF c3)⟩,⟨c2⟩,⟨c2⟩,⟨c2⟩,⟨c2⟩,⟨c1⟩,⟨c1⟩,⟨c1⟩,⟨c1⟩,⟨c0⟩,⟨c0⟩,⟨c0⟩,⟨c0⟩,⟨(nF (nT rfl))⟩,⟨(ok_site_Site_good_4 x5 x6 x7 x8)⟩] (by kernel_rfl)
                  · rw [if_neg c9] at h
                    replace c9:=eqf c9
                    cases h
                · rw [if_neg c8] at h
                  replace c8:=eqf c8
                  obtain rfl:=Option.some.inj h
                  exact Tri.of (x:=(X14_4 x5 x6 x7 x8)) mixed facts14 [(A14_4_0 x5 x6 x7 x8),df,df,df,df,df,df,df,df,df,df,df,df,df,df,(A14_4_2 x9),df,(A14_4_3 x8 x10),dt,A14_4_1] [⟨(nT c8)⟩,⟨(ok_site_Site_step_4 k x9.1 x9.2.1 x9.2.2.1 x9.2.2.2 x1 x2 x3 x4 x5 x6 x7 x8 _ e7)⟩,⟨c6⟩,⟨(look_some .i64 (fun y=>AV.agg (e_i64_Lu8i64E_b_i64 y)) e5)⟩,⟨(nF c3)⟩,⟨c2⟩,⟨c2⟩,⟨c2⟩,⟨c2⟩,⟨c1⟩,⟨c1⟩,⟨c1⟩,⟨c1⟩,⟨c0⟩,⟨c0⟩,⟨c0⟩,⟨c0⟩,⟨(nF (nT rfl))⟩,⟨(ok_site_Site_good_4 x5 x6 x7 x8)⟩] (by kernel_rfl)
            · rw [if_neg c4] at h
              replace c4:=eqf c4
              by_cases c5:eqB false (eqI x1 1)=true
              · rw [if_pos c5] at h
                obtain rfl:=Option.some.inj h
                exact Tri.of (x:=(X14_4 x5 x6 x7 x8)) mixed facts14 [(A14_4_0 x5 x6 x7 x8),df,df,df,df,df,df,df,df,df,df,df,df,df,df,.opt none,dt,df,A14_4_1] [⟨rF⟩,⟨c5⟩,⟨(look_none .i64 (fun y=>AV.agg (e_i64_Lu8i64E_b_i64 y)) c4)⟩,⟨(nF c3)⟩,⟨c2⟩,⟨c2⟩,⟨c2⟩,⟨c2⟩,⟨c1⟩,⟨c1⟩,⟨c1⟩,⟨c1⟩,⟨c0⟩,⟨c0⟩,⟨c0⟩,⟨c0⟩,⟨(nF (nT rfl))⟩,⟨(ok_site_Site_good_4 x5 x6 x7 x8)⟩] (by kernel_rfl)
              · rw [if_neg c5] at h
                replace c5:=eqf c5
                obtain ⟨x9,e6,h⟩:=Option.bind_eq_some_iff.1 h
                by_cases c7:eqI x9.2.1 0=true
                · rw [if_pos c7] at h
                  by_cases c8:roomI (((x8++[(x1,x2,x3,x4)]).length) * 32)=true
                  · rw [if_pos c8] at h
                    obtain rfl:=Option.some.inj h
                    exact Tri.of (x:=(X14_4 x5 x6 x7 x8)) mixed facts14 [(A14_4_0 x5 x6 x7 x8),df,df,df,df,df,df,df,df,df,df,df,df,df,df,.opt none,df,(A14_4_4 x8 x9),df,.rows (List.map e_i64_i64_u8_i64 [(x1,x2,x3,x4)]),.n ((x8++[(x1,x2,x3,x4)]).length),.n x8.length,dt,.rows (List.map e_i64_i64_u8_i64 (x8++[(x1,x2,x3,x4)])),A14_4_1] [⟨(app_map e_i64_i64_u8_i64 x8 [(x1,x2,x3,x4)])⟩,⟨(eqN_self x8.length)⟩,⟨(len_map e_i64_i64_u8_i64 x8)⟩,⟨c8⟩,⟨(by simp only [List.length_append,List.length_cons,List.length_nil,List.length_take,List.length_drop,List.length_set,List.length_replicate,List.length_map,List.map_nil,List.map_cons] <;> omega:x8.length + (List.map e_i64_i64_u8_i64 [(x1,x2,x3,x4)]).length=(x8++[(x1,x2,x3,x4)]).length)⟩,⟨(part_all e_i64_i64_u8_i64 (l:=[(x1,x2,x3,x4)]) (n:=1) rfl)⟩,⟨(le_map e_i64_i64_u8_i64 (Nat.le_refl 1):0 + 1≤(List.map e_i64_i64_u8_i64 [(x1,x2,x3,x4)]).length)⟩,⟨(nF c7)⟩,⟨(ok_site_Site_step_4 k 0 [] false 0 x1 x2 x3 x4 x5 x6 x7 x8 _ e6)⟩,⟨c5⟩,⟨(look_none .i64 (fun y=>AV.agg (e_i64_Lu8i64E_b_i64 y)) c4)⟩,⟨(nF c3)⟩,⟨c2⟩,⟨c2⟩,⟨c2⟩,⟨c2⟩,⟨c1⟩,⟨c1⟩,⟨c1⟩,⟨c1⟩,⟨c0⟩,⟨c0⟩,⟨c0⟩,⟨c0⟩,⟨(nF (nT rfl))⟩,⟨(ok_site_Site_good_4 x5 x6 x7 x8)⟩] (by kernel_rfl)
                  · rw [if_neg c8] at h
                    replace c8:=eqf c8
                    cases h
                · rw [if_neg c7] at h
                  replace c7:=eqf c7
                  obtain rfl:=Option.some.inj h
                  exact Tri.of (x:=(X14_4 x5 x6 x7 x8)) mixed facts14 [(A14_4_0 x5 x6 x7 x8),df,df,df,df,df,df,df,df,df,df,df,df,df,df,.opt none,df,(A14_4_4 x8 x9),dt,A14_4_1] [⟨(nT c7)⟩,⟨(ok_site_Site_step_4 k 0 [] false 0 x1 x2 x3 x4 x5 x6 x7 x8 _ e6)⟩,⟨c5⟩,⟨(look_none .i64 (fun y=>AV.agg (e_i64_Lu8i64E_b_i64 y)) c4)⟩,⟨(nF c3)⟩,⟨c2⟩,⟨c2⟩,⟨c2⟩,⟨c2⟩,⟨c1⟩,⟨c1⟩,⟨c1⟩,⟨c1⟩,⟨c0⟩,⟨c0⟩,⟨c0⟩,⟨c0⟩,⟨(nF (nT rfl))⟩,⟨(ok_site_Site_good_4 x5 x6 x7 x8)⟩] (by kernel_rfl)
          · rw [if_neg c3] at h
            replace c3:=eqf c3
            obtain rfl:=Option.some.inj h
            exact Tri.of (x:=(X14_4 x5 x6 x7 x8)) mixed facts14 [(A14_4_0 x5 x6 x7 x8),df,df,df,df,df,df,df,df,df,df,df,df,df,dt,A14_4_1] [⟨(nT c3)⟩,⟨c2⟩,⟨c2⟩,⟨c2⟩,⟨c2⟩,⟨c1⟩,⟨c1⟩,⟨c1⟩,⟨c1⟩,⟨c0⟩,⟨c0⟩,⟨c0⟩,⟨c0⟩,⟨(nF (nT rfl))⟩,⟨(ok_site_Site_good_4 x5 x6 x7 x8)⟩] (by kernel_rfl)
end Go.Ws

namespace Go.Ws
open Go.Proofs
set_option linter.unusedSimpArgs false
set_option linter.unusedVariables false
set_option maxRecDepth 1000000
set_option maxHeartbeats 4000000
noncomputable def X26_5 (x1:Ty11) (x2:Ty8) (x3:Ty2) (x4:Ty7):Ctx:=⟨Try.f26,[(.row [(.sl 2 (List.map e_u8_i64 x1)),(.sl 3 (List.map e_u8_i64_b x2)),(.mp 1),(.ref 4 2 2 0 x4.length .virt)]),(.map (encM .i64 (fun y=>AV.agg (e_i64_Lu8i64E_b_i64 y)) x3) x3.length),(.arr 4 (List.map e_i64_i64_u8_i64 x4) 2 2 false)],false⟩
theorem ok_site_Site_good_5 (x1:Ty11) (x2:Ty8) (x3:Ty2) (x4:Ty7):Tri Try.prog 26 [(.hp 0 0)] [(.row [(.sl 2 (List.map e_u8_i64 x1)),(.sl 3 (List.map e_u8_i64_b x2)),(.mp 1),(.ref 4 2 2 0 x4.length .virt)]),(.map (encM .i64 (fun y=>AV.agg (e_i64_Lu8i64E_b_i64 y)) x3) x3.length),(.arr 4 (List.map e_i64_i64_u8_i64 x4) 2 2 false)] (.bool (!false)) [(.row [(.sl 2 (List.map e_u8_i64 x1)),(.sl 3 (List.map e_u8_i64_b x2)),(.mp 1),(.ref 4 2 2 0 x4.length .virt)]),(.map (encM .i64 (fun y=>AV.agg (e_i64_Lu8i64E_b_i64 y)) x3) x3.length),(.arr 4 (List.map e_i64_i64_u8_i64 x4) 2 2 false)]:=by
    obtain ⟨r,h⟩:∃ r,site_Site_good_5 x1 x2 x3 x4=r:=⟨_,rfl⟩
    try rw [h]
    unfold site_Site_good_5 at h
    obtain rfl:=h
    exact Tri.of (x:=(X26_5 x1 x2 x3 x4)) mixed facts26 [dt,dt,dt,dt,dt,dt,.norm 0 ⟨[(2,[])],[],false,[],[]⟩] [⟨(nT rfl)⟩,⟨(nT rfl)⟩,⟨(nT rfl)⟩,⟨(nT rfl)⟩,⟨(nT rfl)⟩,⟨(nT rfl)⟩] (by kernel_rfl)
end Go.Ws

namespace Go.Ws
open Go.Proofs
set_option linter.unusedSimpArgs false
set_option linter.unusedVariables false
set_option maxRecDepth 1000000
set_option maxHeartbeats 4000000
noncomputable def X37_5 (x9:Ty11) (x10:Ty8) (x11:Ty2) (x12:Ty7):Ctx:=⟨Try.f37,[(.row [(.sl 2 (List.map e_u8_i64 x9)),(.sl 3 (List.map e_u8_i64_b x10)),(.mp 1),(.ref 4 2 2 0 x12.length .virt)]),(.map (encM .i64 (fun y=>AV.agg (e_i64_Lu8i64E_b_i64 y)) x11) x11.length),(.arr 4 (List.map e_i64_i64_u8_i64 x12) 2 2 false)],false⟩
noncomputable def L37_5_0:Code:=at_ Try.f37 [1,1,1,1,1,1,1,0,1,4,5]
def S37_5_0 (x2:Ty11) (x5:Int) (x6:Int) (x7:Int) (x8:Int) (x9:Ty11) (x11:Ty2) (x12:Ty7) (x13:Ty8 × Int) (v537001_1:Int) (v537001_2:Int):St:=⟨mkT 92 [(5,(.hp 3 0)),(10,(.int .i64 v537001_1)),(75,(.sl 2 (List.map e_u8_i64 x2))),(76,(.int .i64 (nI x2.length))),(77,(.int .i64 v537001_2))],[(.row [(.sl 2 (List.map e_u8_i64 x9)),(.sl 3 (List.map e_u8_i64_b x13.1)),(.mp 1),(.ref 4 2 2 0 x12.length .virt)]),(.map (encM .i64 (fun y=>AV.agg (e_i64_Lu8i64E_b_i64 y)) x11) x11.length),(.arr 4 (List.map e_i64_i64_u8_i64 x12) 2 2 false),(.row [(.int .i64 x5),(.int .i64 x6),(.int .u8 x7),(.int .i64 x8)])]⟩
def E37_5_0_0 (x9:Ty11) (x11:Ty2) (x12:Ty7) (x13:Ty8 × Int) (v537002_1:Int):St:=⟨mkT 92 [(10,(.int .i64 v537002_1))],[(.row [(.sl 2 (List.map e_u8_i64 x9)),(.sl 3 (List.map e_u8_i64_b x13.1)),(.mp 1),(.ref 4 2 2 0 x12.length .virt)]),(.map (encM .i64 (fun y=>AV.agg (e_i64_Lu8i64E_b_i64 y)) x11) x11.length),(.arr 4 (List.map e_i64_i64_u8_i64 x12) 2 2 false)]⟩
def O37_5_0 (x2:Ty11) (x5:Int) (x6:Int) (x7:Int) (x8:Int) (x9:Ty11) (x10:Ty8) (x11:Ty2) (x12:Ty7) (x13:Ty8 × Int) (y:(Int)):GX:=.st (.exit 0) (E37_5_0_0 x9 x11 x12 x13 y)
def A37_5_0 (x13:Ty8 × Int):Ans:=.call ⟨true,[]⟩ (.tup [(.sl 3 (List.map e_u8_i64_b x13.1)),(.int .i64 x13.2)]) []
def A37_5_1 (x14:Int × Ty11 × Bool × Int × Int):Ans:=.call ⟨true,[]⟩ (.tup [(.agg [(.int .i64 x14.1),(.sl 2 (List.map e_u8_i64 x14.2.1)),(.bool x14.2.2.1),(.int .i64 x14.2.2.2.1)]),(.int .i64 x14.2.2.2.2)]) []
def A37_5_2:Ans:=.norm 0 ⟨[(6,[]),(7,[])],[],false,[],[]⟩
theorem ok_site_Site_access_5_l0 (x2:Ty11) (x5:Int) (x6:Int) (x7:Int) (x8:Int) (x9:Ty11) (x10:Ty8) (x11:Ty2) (x12:Ty7) (x13:Ty8 × Int) (y:(Int)):∀ (k:Nat) (v537001_1:Int) (v537001_2:Int),site_Site_access_5_l0 k x2 x5 x6 x7 x8 x9 x10 x11 x12 x13 v537001_1 v537001_2=some y→LT Try.prog (X37_5 x9 x10 x11 x12) L37_5_0 (S37_5_0 x2 x5 x6 x7 x8 x9 x11 x12 x13 v537001_1 v537001_2) (O37_5_0 x2 x5 x6 x7 x8 x9 x10 x11 x12 x13 y)
  | 0,v537001_1,v537001_2,h=>by cases h
  | k + 1,v537001_1,v537001_2,h=>by
    rw [site_Site_access_5_l0] at h
    by_cases cL0:ltI v537001_2 (nI x2.length)=true
    · rw [if_pos cL0] at h
      by_cases cL1:inI v537001_2 x2.length=true
      · rw [if_pos cL1] at h
        obtain ⟨v537000_1,eL2,h⟩:=Option.bind_eq_some_iff.1 h
        by_cases cL3:eqI v537000_1.1 x7=true
        · rw [if_pos cL3] at h
          exact LT.next mixed (hs:=⟨[(5,[]),(10,[]),(75,[]),(76,[]),(77,[])],[⟨.tmp 5,[],none⟩],false,[],[]⟩) (es:=none) [dt,.n x2.length,.row [(.int .u8 v537000_1.1),(.int .i64 v537000_1.2)],dt] [⟨cL3⟩,⟨(cells_map (e:=e_u8_i64) eL2 2 0 2 (by decide))⟩,⟨cL1⟩,⟨(len_map e_u8_i64 x2)⟩,⟨cL0⟩] (by kernel_rfl) (ok_site_Site_access_5_l0 x2 x5 x6 x7 x8 x9 x10 x11 x12 x13 y k (iadd .i64 v537001_1 v537000_1.2) (iadd .i64 v537001_2 1) h)
        · rw [if_neg cL3] at h
          replace cL3:=eqf cL3
          exact LT.next mixed (hs:=⟨[(5,[]),(10,[]),(75,[]),(76,[]),(77,[])],[⟨.tmp 5,[],none⟩],false,[],[]⟩) (es:=none) [dt,.n x2.length,.row [(.int .u8 v537000_1.1),(.int .i64 v537000_1.2)],df] [⟨cL3⟩,⟨(cells_map (e:=e_u8_i64) eL2 2 0 2 (by decide))⟩,⟨cL1⟩,⟨(len_map e_u8_i64 x2)⟩,⟨cL0⟩] (by kernel_rfl) (ok_site_Site_access_5_l0 x2 x5 x6 x7 x8 x9 x10 x11 x12 x13 y k v537001_1 (iadd .i64 v537001_2 1) h)
      · rw [if_neg cL1] at h
        replace cL1:=eqf cL1
        cases h
    · rw [if_neg cL0] at h
      replace cL0:=eqf cL0
      obtain rfl:=Option.some.inj h
      show LT _ _ _ _ (.st (.exit 0) (E37_5_0_0 x9 x11 x12 x13 v537001_1))
      exact LT.done mixed (hs:=⟨[],[],false,[],[]⟩) (es:=(some ⟨[(10,[])],[],false,[],[]⟩)) [df] [⟨cL0⟩] (by kernel_rfl) (fun s h=>by cases h)
theorem ok_site_Site_access_5 (k:Nat) (x1:Int) (x2:Ty11) (x3:Bool) (x4:Int) (x5:Int) (x6:Int) (x7:Int) (x8:Int) (x9:Ty11) (x10:Ty8) (x11:Ty2) (x12:Ty7) (r:Ty8 × Ty2 × Int × Int) (h:site_Site_access_5 k x1 x2 x3 x4 x5 x6 x7 x8 x9 x10 x11 x12=some r):Tri Try.prog 37 [(.hp 0 0),(.agg [(.int .i64 x1),(.sl 2 (List.map e_u8_i64 x2)),(.bool x3),(.int .i64 x4)]),(.agg [(.int .i64 x5),(.int .i64 x6),(.int .u8 x7),(.int .i64 x8)])] [(.row [(.sl 2 (List.map e_u8_i64 x9)),(.sl 3 (List.map e_u8_i64_b x10)),(.mp 1),(.ref 4 2 2 0 x12.length .virt)]),(.map (encM .i64 (fun y=>AV.agg (e_i64_Lu8i64E_b_i64 y)) x11) x11.length),(.arr 4 (List.map e_i64_i64_u8_i64 x12) 2 2 false)] (.tup [(.int .i64 r.2.2.2),(.int .i64 r.2.2.1)]) [(.row [(.sl 2 (List.map e_u8_i64 x9)),(.sl 3 (List.map e_u8_i64_b r.1)),(.mp 1),(.ref 4 2 2 0 x12.length .virt)]),(.map (encM .i64 (fun y=>AV.agg (e_i64_Lu8i64E_b_i64 y)) r.2.1) r.2.1.length),(.arr 4 (List.map e_i64_i64_u8_i64 x12) 2 2 false)]:=by
    unfold site_Site_access_5 at h
    by_cases c0:eqI x1 0=true
    · rw [if_pos c0] at h
      obtain ⟨x13,e1,h⟩:=Option.bind_eq_some_iff.1 h
      by_cases c2:eqI x13.2 0=true
      · rw [if_pos c2] at h
        by_cases c3:eqI x5 3=true
        · rw [if_pos c3] at h
          obtain ⟨x14,e4,h⟩:=Option.bind_eq_some_iff.1 h
          by_cases c5:eqI x14.2.2.2.2 0=true
          · rw [if_pos c5] at h
            by_cases c6:mHas x11 x6=true
            · rw [if_pos c6] at h
              obtain ⟨x15,e7,h⟩:=Option.bind_eq_some_iff.1 h
              obtain rfl:=Option.some.inj h
              exact Tri.of (x:=(X37_5 x9 x10 x11 x12)) mixed facts37 [df,(A37_5_0 x13),df,dt,(A37_5_1 x14),df,.opt (some (.agg [(.int .i64 x15.1),(.sl 2 (List.map e_u8_i64 x15.2.1)),(.bool x15.2.2.1),(.int .i64 x15.2.2.2)])),.n (mIx x11 x6),.ents (encM .i64 (fun y=>AV.agg (e_i64_Lu8i64E_b_i64 y)) x11) x11.length,.ents (encM .i64 (fun y=>AV.agg (e_i64_Lu8i64E_b_i64 y)) (mPut x11 x6 (x14.1,x14.2.1,x14.2.2.1,x14.2.2.2.1))) (mPut x11 x6 (x14.1,x14.2.1,x14.2.2.1,x14.2.2.2.1)).length,A37_5_2] [⟨(sb_some .i64 (fun y=>AV.agg (e_i64_Lu8i64E_b_i64 y)) e7 (x14.1,x14.2.1,x14.2.2.1,x14.2.2.2.1))⟩,⟨(ent_some .i64 (fun y=>AV.agg (e_i64_Lu8i64E_b_i64 y)) e7 (.agg [(.int .i64 0),(.sl 2 (List.map e_u8_i64 [])),(.bool false),(.int .i64 0)]))⟩,⟨(idx_enc .i64 (fun y=>AV.agg (e_i64_Lu8i64E_b_i64 y)) x11 x6)⟩,⟨(look_some .i64 (fun y=>AV.agg (e_i64_Lu8i64E_b_i64 y)) e7)⟩,⟨(nF c5)⟩,⟨(ok_part_Add k x1 x2 x3 x4 x7 x8 _ e4)⟩,⟨c3⟩,⟨(nF c2)⟩,⟨(ok_lock_Take k x10 x6 x7 (eqI x5 3) _ e1)⟩,⟨(nF c0)⟩] (by kernel_rfl)
            · rw [if_neg c6] at h
              replace c6:=eqf c6
              obtain rfl:=Option.some.inj h
              exact Tri.of (x:=(X37_5 x9 x10 x11 x12)) mixed facts37 [df,(A37_5_0 x13),df,dt,(A37_5_1 x14),df,.opt none,.n (mIx x11 x6),.ents (encM .i64 (fun y=>AV.agg (e_i64_Lu8i64E_b_i64 y)) (mPut x11 x6 (0,[],false,0))) (mPut x11 x6 (0,[],false,0)).length,.ents (encM .i64 (fun y=>AV.agg (e_i64_Lu8i64E_b_i64 y)) (mPut x11 x6 (x14.1,x14.2.1,x14.2.2.1,x14.2.2.2.1))) (mPut x11 x6 (x14.1,x14.2.1,x14.2.2.1,x14.2.2.2.1)).length,A37_5_2] [⟨(sb_none .i64 (fun y=>AV.agg (e_i64_Lu8i64E_b_i64 y)) (l:=x11) (q:=x6) (0,[],false,0) (x14.1,x14.2.1,x14.2.2.1,x14.2.2.2.1))⟩,⟨(ent_none .i64 (fun y=>AV.agg (e_i64_Lu8i64E_b_i64 y)) c6 (0,[],false,0))⟩,⟨(idx_enc .i64 (fun y=>AV.agg (e_i64_Lu8i64E_b_i64 y)) x11 x6)⟩,⟨(look_none .i64 (fun y=>AV.agg (e_i64_Lu8i64E_b_i64 y)) c6)⟩,⟨(nF c5)⟩,⟨(ok_part_Add k x1 x2 x3 x4 x7 x8 _ e4)⟩,⟨c3⟩,⟨(nF c2)⟩,⟨(ok_lock_Take k x10 x6 x7 (eqI x5 3) _ e1)⟩,⟨(nF c0)⟩] (by kernel_rfl)
          · rw [if_neg c5] at h
            replace c5:=eqf c5
            obtain rfl:=Option.some.inj h
            exact Tri.of (x:=(X37_5 x9 x10 x11 x12)) mixed facts37 [df,(A37_5_0 x13),df,dt,(A37_5_1 x14),dt,A37_5_2] [⟨(nT c5)⟩,⟨(ok_part_Add k x1 x2 x3 x4 x7 x8 _ e4)⟩,⟨c3⟩,⟨(nF c2)⟩,⟨(ok_lock_Take k x10 x6 x7 (eqI x5 3) _ e1)⟩,⟨(nF c0)⟩] (by kernel_rfl)
        · rw [if_neg c3] at h
          replace c3:=eqf c3
          obtain ⟨x14,e4,h⟩:=Option.bind_eq_some_iff.1 h
          obtain ⟨x16,e5,h⟩:=Option.bind_eq_some_iff.1 h
          obtain rfl:=Option.some.inj h
          exact Tri.of (x:=(X37_5 x9 x10 x11 x12)) mixed facts37 [df,(A37_5_0 x13),df,df,.call ⟨true,[]⟩ (.int .i64 x14) [],.n x2.length,.norm 2 ⟨[(5,[]),(10,[]),(75,[]),(76,[]),(77,[])],[⟨.tmp 5,[],none⟩],false,[],[]⟩,.out (.st .normal (E37_5_0_0 x9 x11 x12 x13 x16)),A37_5_2] [⟨(LT.block (ok_site_Site_access_5_l0 x2 x5 x6 x7 x8 x9 x10 x11 x12 x13 _ k x14 0 e5))⟩,⟨(len_map e_u8_i64 x2)⟩,⟨(ok_ledger_Get k x9 x7 _ e4)⟩,⟨c3⟩,⟨(nF c2)⟩,⟨(ok_lock_Take k x10 x6 x7 (eqI x5 3) _ e1)⟩,⟨(nF c0)⟩] (by kernel_rfl)
      · rw [if_neg c2] at h
        replace c2:=eqf c2
        obtain rfl:=Option.some.inj h
        exact Tri.of (x:=(X37_5 x9 x10 x11 x12)) mixed facts37 [df,(A37_5_0 x13),dt,A37_5_2] [⟨(nT c2)⟩,⟨(ok_lock_Take k x10 x6 x7 (eqI x5 3) _ e1)⟩,⟨(nF c0)⟩] (by kernel_rfl)
    · rw [if_neg c0] at h
      replace c0:=eqf c0
      obtain rfl:=Option.some.inj h
      exact Tri.of (x:=(X37_5 x9 x10 x11 x12)) mixed facts37 [dt,A37_5_2] [⟨(nT c0)⟩] (by kernel_rfl)
end Go.Ws

namespace Go.Ws
open Go.Proofs
set_option linter.unusedSimpArgs false
set_option linter.unusedVariables false
set_option maxRecDepth 1000000
set_option maxHeartbeats 4000000
noncomputable def X38_5 (x9:Ty11) (x10:Ty8) (x11:Ty2) (x12:Ty7):Ctx:=⟨Try.f38,[(.row [(.sl 2 (List.map e_u8_i64 x9)),(.sl 3 (List.map e_u8_i64_b x10)),(.mp 1),(.ref 4 2 2 0 x12.length .virt)]),(.map (encM .i64 (fun y=>AV.agg (e_i64_Lu8i64E_b_i64 y)) x11) x11.length),(.arr 4 (List.map e_i64_i64_u8_i64 x12) 2 2 false)],false⟩
def A38_5_0 (x13:Int × Ty11 × Bool × Int × Int):Ans:=.call ⟨true,[]⟩ (.tup [(.agg [(.int .i64 x13.1),(.sl 2 (List.map e_u8_i64 x13.2.1)),(.bool x13.2.2.1),(.int .i64 x13.2.2.2.1)]),(.int .i64 x13.2.2.2.2)]) []
def A38_5_1 (x15:Ty8):Ans:=.call ⟨true,[]⟩ (.sl 3 (List.map e_u8_i64_b x15)) []
def A38_5_2 (x13:Int × Ty11 × Bool × Int × Ty11 × Int):Ans:=.call ⟨true,[]⟩ (.tup [(.agg [(.int .i64 x13.1),(.sl 2 (List.map e_u8_i64 x13.2.1)),(.bool x13.2.2.1),(.int .i64 x13.2.2.2.1)]),(.sl 2 (List.map e_u8_i64 x13.2.2.2.2.1)),(.int .i64 x13.2.2.2.2.2)]) []
def A38_5_3 (x6:Int) (x11:Ty2) (x13:Int × Ty11 × Bool × Int × Ty11 × Int):Ans:=.ents (encM .i64 (fun y=>AV.agg (e_i64_Lu8i64E_b_i64 y)) (mPut x11 x6 (x13.1,x13.2.1,x13.2.2.1,x13.2.2.2.1))) (mPut x11 x6 (x13.1,x13.2.1,x13.2.2.1,x13.2.2.2.1)).length
def A38_5_4 (x14:Ty11 × Int):Ans:=.call ⟨true,[]⟩ (.tup [(.sl 2 (List.map e_u8_i64 x14.1)),(.int .i64 x14.2)]) []
theorem ok_site_Site_end_5 (k:Nat) (x1:Int) (x2:Ty11) (x3:Bool) (x4:Int) (x5:Int) (x6:Int) (x7:Int) (x8:Int) (x9:Ty11) (x10:Ty8) (x11:Ty2) (x12:Ty7) (r:Ty11 × Ty8 × Ty2 × Int) (h:site_Site_end_5 k x1 x2 x3 x4 x5 x6 x7 x8 x9 x10 x11 x12=some r):Tri Try.prog 38 [(.hp 0 0),(.agg [(.int .i64 x1),(.sl 2 (List.map e_u8_i64 x2)),(.bool x3),(.int .i64 x4)]),(.agg [(.int .i64 x5),(.int .i64 x6),(.int .u8 x7),(.int .i64 x8)])] [(.row [(.sl 2 (List.map e_u8_i64 x9)),(.sl 3 (List.map e_u8_i64_b x10)),(.mp 1),(.ref 4 2 2 0 x12.length .virt)]),(.map (encM .i64 (fun y=>AV.agg (e_i64_Lu8i64E_b_i64 y)) x11) x11.length),(.arr 4 (List.map e_i64_i64_u8_i64 x12) 2 2 false)] (.int .i64 r.2.2.2) [(.row [(.sl 2 (List.map e_u8_i64 r.1)),(.sl 3 (List.map e_u8_i64_b r.2.1)),(.mp 1),(.ref 4 2 2 0 x12.length .virt)]),(.map (encM .i64 (fun y=>AV.agg (e_i64_Lu8i64E_b_i64 y)) r.2.2.1) r.2.2.1.length),(.arr 4 (List.map e_i64_i64_u8_i64 x12) 2 2 false)]:=by
    unfold site_Site_end_5 at h
    by_cases c0:eqI x5 4=true
    · rw [if_pos c0] at h
      obtain ⟨x13,e1,h⟩:=Option.bind_eq_some_iff.1 h
      by_cases c2:eqI x13.2.2.2.2 0=true
      · rw [if_pos c2] at h
        obtain ⟨x14,e3,h⟩:=Option.bind_eq_some_iff.1 h
        by_cases c4:eqI x13.1 2=true
        · rw [if_pos c4] at h
          obtain ⟨x15,e5,h⟩:=Option.bind_eq_some_iff.1 h
          obtain rfl:=Option.some.inj h
          exact Tri.of (x:=(X38_5 x9 x10 x11 x12)) mixed facts38 [dt,(A38_5_0 x13),df,.ents (encM .i64 (fun y=>AV.agg (e_i64_Lu8i64E_b_i64 y)) (mPut x11 x6 (x13.1,x13.2.1,x13.2.2.1,x13.2.2.2.1))) (mPut x11 x6 (x13.1,x13.2.1,x13.2.2.1,x13.2.2.2.1)).length,.call ⟨true,[[],[(0,2)]]⟩ (.tup [(.sl 2 (List.map e_u8_i64 x14.1)),(.int .i64 x14.2)]) [],df,df,df,df,dt,(A38_5_1 x15),.norm 0 ⟨[(6,[])],[],false,[],[]⟩] [⟨(ok_lock_Free k x10 x6 _ e5)⟩,⟨c4⟩,⟨(nF c0)⟩,⟨(nF c0)⟩,⟨(nF c0)⟩,⟨(nF c0)⟩,⟨(ok_ledger_Put k x9 [] _ e3)⟩,⟨(put_enc .i64 (fun y=>AV.agg (e_i64_Lu8i64E_b_i64 y)) x11 x6 (x13.1,x13.2.1,x13.2.2.1,x13.2.2.2.1))⟩,⟨(nF c2)⟩,⟨(ok_part_Vote k x1 x2 x3 x4 (!eqI x8 0) _ e1)⟩,⟨c0⟩] (by kernel_rfl)
        · rw [if_neg c4] at h
          replace c4:=eqf c4
          obtain rfl:=Option.some.inj h
          exact Tri.of (x:=(X38_5 x9 x10 x11 x12)) mixed facts38 [dt,(A38_5_0 x13),df,.ents (encM .i64 (fun y=>AV.agg (e_i64_Lu8i64E_b_i64 y)) (mPut x11 x6 (x13.1,x13.2.1,x13.2.2.1,x13.2.2.2.1))) (mPut x11 x6 (x13.1,x13.2.1,x13.2.2.1,x13.2.2.2.1)).length,.call ⟨true,[[],[(0,2)]]⟩ (.tup [(.sl 2 (List.map e_u8_i64 x14.1)),(.int .i64 x14.2)]) [],df,df,df,df,df,.norm 0 ⟨[(6,[])],[],false,[],[]⟩] [⟨c4⟩,⟨(nF c0)⟩,⟨(nF c0)⟩,⟨(nF c0)⟩,⟨(nF c0)⟩,⟨(ok_ledger_Put k x9 [] _ e3)⟩,⟨(put_enc .i64 (fun y=>AV.agg (e_i64_Lu8i64E_b_i64 y)) x11 x6 (x13.1,x13.2.1,x13.2.2.1,x13.2.2.2.1))⟩,⟨(nF c2)⟩,⟨(ok_part_Vote k x1 x2 x3 x4 (!eqI x8 0) _ e1)⟩,⟨c0⟩] (by kernel_rfl)
      · rw [if_neg c2] at h
        replace c2:=eqf c2
        obtain rfl:=Option.some.inj h
        exact Tri.of (x:=(X38_5 x9 x10 x11 x12)) mixed facts38 [dt,(A38_5_0 x13),dt,.norm 0 ⟨[(6,[])],[],false,[],[]⟩] [⟨(nT c2)⟩,⟨(ok_part_Vote k x1 x2 x3 x4 (!eqI x8 0) _ e1)⟩,⟨c0⟩] (by kernel_rfl)
    · rw [if_neg c0] at h
      replace c0:=eqf c0
      by_cases c1:eqI x5 5=true
      · rw [if_pos c1] at h
        obtain ⟨x13,e2,h⟩:=Option.bind_eq_some_iff.1 h
        by_cases c3:eqI x13.2.2.2.2.2 0=true
        · rw [if_pos c3] at h
          obtain ⟨x14,e4,h⟩:=Option.bind_eq_some_iff.1 h
          obtain ⟨x15,e5,h⟩:=Option.bind_eq_some_iff.1 h
          obtain rfl:=Option.some.inj h
          exact Tri.of (x:=(X38_5 x9 x10 x11 x12)) mixed facts38 [df,dt,(A38_5_2 x13),df,(A38_5_3 x6 x11 x13),(A38_5_4 x14),dt,dt,dt,dt,dt,(A38_5_1 x15),.norm 0 ⟨[(6,[])],[],false,[],[]⟩] [⟨(ok_lock_Free k x10 x6 _ e5)⟩,⟨rT⟩,⟨(nT c0)⟩,⟨(nT c0)⟩,⟨(nT c0)⟩,⟨(nT c0)⟩,⟨(ok_ledger_Put k x9 x13.2.2.2.2.1 _ e4)⟩,⟨(put_enc .i64 (fun y=>AV.agg (e_i64_Lu8i64E_b_i64 y)) x11 x6 (x13.1,x13.2.1,x13.2.2.1,x13.2.2.2.1))⟩,⟨(nF c3)⟩,⟨(ok_part_Local k x1 x2 x3 x4 _ e2)⟩,⟨c1⟩,⟨c0⟩] (by kernel_rfl)
        · rw [if_neg c3] at h
          replace c3:=eqf c3
          obtain rfl:=Option.some.inj h
          exact Tri.of (x:=(X38_5 x9 x10 x11 x12)) mixed facts38 [df,dt,(A38_5_2 x13),dt,.norm 0 ⟨[(6,[])],[],false,[],[]⟩] [⟨(nT c3)⟩,⟨(ok_part_Local k x1 x2 x3 x4 _ e2)⟩,⟨c1⟩,⟨c0⟩] (by kernel_rfl)
      · rw [if_neg c1] at h
        replace c1:=eqf c1
        by_cases c2:eqI x8 1=true
        · rw [if_pos c2] at h
          obtain ⟨x13,e3,h⟩:=Option.bind_eq_some_iff.1 h
          by_cases c4:eqI x13.2.2.2.2.2 0=true
          · rw [if_pos c4] at h
            obtain ⟨x14,e5,h⟩:=Option.bind_eq_some_iff.1 h
            obtain ⟨x15,e6,h⟩:=Option.bind_eq_some_iff.1 h
            obtain rfl:=Option.some.inj h
            exact Tri.of (x:=(X38_5 x9 x10 x11 x12)) mixed facts38 [df,df,dt,dt,dt,dt,dt,(A38_5_2 x13),df,(A38_5_3 x6 x11 x13),(A38_5_4 x14),dt,dt,dt,dt,dt,(A38_5_1 x15),.norm 0 ⟨[(6,[])],[],false,[],[]⟩] [⟨(ok_lock_Free k x10 x6 _ e6)⟩,⟨rT⟩,⟨(nT c0)⟩,⟨(nT c0)⟩,⟨(nT c0)⟩,⟨(nT c0)⟩,⟨(ok_ledger_Put k x9 x13.2.2.2.2.1 _ e5)⟩,⟨(put_enc .i64 (fun y=>AV.agg (e_i64_Lu8i64E_b_i64 y)) x11 x6 (x13.1,x13.2.1,x13.2.2.1,x13.2.2.2.1))⟩,⟨(nF c4)⟩,⟨(ok_part_Decide k x1 x2 x3 x4 x8 _ e3)⟩,⟨rT⟩,⟨c2⟩,⟨c2⟩,⟨c2⟩,⟨c2⟩,⟨c1⟩,⟨c0⟩] (by kernel_rfl)
          · rw [if_neg c4] at h
            replace c4:=eqf c4
            obtain rfl:=Option.some.inj h
            exact Tri.of (x:=(X38_5 x9 x10 x11 x12)) mixed facts38 [df,df,dt,dt,dt,dt,dt,(A38_5_2 x13),dt,.norm 0 ⟨[(6,[])],[],false,[],[]⟩] [⟨(nT c4)⟩,⟨(ok_part_Decide k x1 x2 x3 x4 x8 _ e3)⟩,⟨rT⟩,⟨c2⟩,⟨c2⟩,⟨c2⟩,⟨c2⟩,⟨c1⟩,⟨c0⟩] (by kernel_rfl)
        · rw [if_neg c2] at h
          replace c2:=eqf c2
          by_cases c3:eqI x8 2=true
          · rw [if_pos c3] at h
            obtain ⟨x13,e4,h⟩:=Option.bind_eq_some_iff.1 h
            by_cases c5:eqI x13.2.2.2.2.2 0=true
            · rw [if_pos c5] at h
              obtain ⟨x14,e6,h⟩:=Option.bind_eq_some_iff.1 h
              obtain ⟨x15,e7,h⟩:=Option.bind_eq_some_iff.1 h
              obtain rfl:=Option.some.inj h
              exact Tri.of (x:=(X38_5 x9 x10 x11 x12)) mixed facts38 [df,df,df,df,df,df,dt,(A38_5_2 x13),df,(A38_5_3 x6 x11 x13),(A38_5_4 x14),dt,dt,dt,dt,dt,(A38_5_1 x15),.norm 0 ⟨[(6,[])],[],false,[],[]⟩] [⟨(ok_lock_Free k x10 x6 _ e7)⟩,⟨rT⟩,⟨(nT c0)⟩,⟨(nT c0)⟩,⟨(nT c0)⟩,⟨(nT c0)⟩,⟨(ok_ledger_Put k x9 x13.2.2.2.2.1 _ e6)⟩,⟨(put_enc .i64 (fun y=>AV.agg (e_i64_Lu8i64E_b_i64 y)) x11 x6 (x13.1,x13.2.1,x13.2.2.1,x13.2.2.2.1))⟩,⟨(nF c5)⟩,⟨(ok_part_Decide k x1 x2 x3 x4 x8 _ e4)⟩,⟨c3⟩,⟨c2⟩,⟨c2⟩,⟨c2⟩,⟨c2⟩,⟨c1⟩,⟨c0⟩] (by kernel_rfl)
            · rw [if_neg c5] at h
              replace c5:=eqf c5
              obtain rfl:=Option.some.inj h
              exact Tri.of (x:=(X38_5 x9 x10 x11 x12)) mixed facts38 [df,df,df,df,df,df,dt,(A38_5_2 x13),dt,.norm 0 ⟨[(6,[])],[],false,[],[]⟩] [⟨(nT c5)⟩,⟨(ok_part_Decide k x1 x2 x3 x4 x8 _ e4)⟩,⟨c3⟩,⟨c2⟩,⟨c2⟩,⟨c2⟩,⟨c2⟩,⟨c1⟩,⟨c0⟩] (by kernel_rfl)
          · rw [if_neg c3] at h
            replace c3:=eqf c3
            obtain rfl:=Option.some.inj h
            exact Tri.of (x:=(X38_5 x9 x10 x11 x12)) mixed facts38 [df,df,df,df,df,df,df,dt,.norm 0 ⟨[(6,[])],[],false,[],[]⟩] [⟨(nT (rfl:eqI 2 0=false))⟩,⟨c3⟩,⟨c2⟩,⟨c2⟩,⟨c2⟩,⟨c2⟩,⟨c1⟩,⟨c0⟩] (by kernel_rfl)
end Go.Ws

namespace Go.Ws
open Go.Proofs
set_option linter.unusedSimpArgs false
set_option linter.unusedVariables false
set_option maxRecDepth 1000000
set_option maxHeartbeats 4000000
noncomputable def X27_5 (x9:Ty11) (x10:Ty8) (x11:Ty2) (x12:Ty7):Ctx:=⟨Try.f27,[(.row [(.sl 2 (List.map e_u8_i64 x9)),(.sl 3 (List.map e_u8_i64_b x10)),(.mp 1),(.ref 4 2 2 0 x12.length .virt)]),(.map (encM .i64 (fun y=>AV.agg (e_i64_Lu8i64E_b_i64 y)) x11) x11.length),(.arr 4 (List.map e_i64_i64_u8_i64 x12) 2 2 false)],false⟩
def A27_5_0:Ans:=.norm 0 ⟨[(6,[]),(7,[])],[],false,[],[]⟩
def A27_5_1 (x9:Ty11) (x12:Ty7) (x13:Ty8 × Ty2 × Int × Int):Ans:=.call ⟨true,[]⟩ (.tup [(.int .i64 x13.2.2.2),(.int .i64 x13.2.2.1)]) [(.row [(.sl 2 (List.map e_u8_i64 x9)),(.sl 3 (List.map e_u8_i64_b x13.1)),(.mp 1),(.ref 4 2 2 0 x12.length .virt)]),(.map (encM .i64 (fun y=>AV.agg (e_i64_Lu8i64E_b_i64 y)) x13.2.1) x13.2.1.length),(.arr 4 (List.map e_i64_i64_u8_i64 x12) 2 2 false)]
theorem ok_site_Site_step_5 (k:Nat) (x1:Int) (x2:Ty11) (x3:Bool) (x4:Int) (x5:Int) (x6:Int) (x7:Int) (x8:Int) (x9:Ty11) (x10:Ty8) (x11:Ty2) (x12:Ty7) (r:Int × Int × Ty8 × Ty2 × Ty11) (h:site_Site_step_5 k x1 x2 x3 x4 x5 x6 x7 x8 x9 x10 x11 x12=some r):Tri Try.prog 27 [(.hp 0 0),(.agg [(.int .i64 x1),(.sl 2 (List.map e_u8_i64 x2)),(.bool x3),(.int .i64 x4)]),(.agg [(.int .i64 x5),(.int .i64 x6),(.int .u8 x7),(.int .i64 x8)])] [(.row [(.sl 2 (List.map e_u8_i64 x9)),(.sl 3 (List.map e_u8_i64_b x10)),(.mp 1),(.ref 4 2 2 0 x12.length .virt)]),(.map (encM .i64 (fun y=>AV.agg (e_i64_Lu8i64E_b_i64 y)) x11) x11.length),(.arr 4 (List.map e_i64_i64_u8_i64 x12) 2 2 false)] (.tup [(.int .i64 r.1),(.int .i64 r.2.1)]) [(.row [(.sl 2 (List.map e_u8_i64 r.2.2.2.2)),(.sl 3 (List.map e_u8_i64_b r.2.2.1)),(.mp 1),(.ref 4 2 2 0 x12.length .virt)]),(.map (encM .i64 (fun y=>AV.agg (e_i64_Lu8i64E_b_i64 y)) r.2.2.2.1) r.2.2.2.1.length),(.arr 4 (List.map e_i64_i64_u8_i64 x12) 2 2 false)]:=by
    unfold site_Site_step_5 at h
    by_cases c0:eqI x5 1=true
    · rw [if_pos c0] at h
      obtain rfl:=Option.some.inj h
      exact Tri.of (x:=(X27_5 x9 x10 x11 x12)) mixed facts27 [dt,.ents (encM .i64 (fun y=>AV.agg (e_i64_Lu8i64E_b_i64 y)) (mPut x11 x6 (x1,x2,x3,x4))) (mPut x11 x6 (x1,x2,x3,x4)).length,A27_5_0] [⟨(put_enc .i64 (fun y=>AV.agg (e_i64_Lu8i64E_b_i64 y)) x11 x6 (x1,x2,x3,x4))⟩,⟨c0⟩] (by kernel_rfl)
    · rw [if_neg c0] at h
      replace c0:=eqf c0
      by_cases c1:eqI x5 2=true
      · rw [if_pos c1] at h
        obtain ⟨x13,e2,h⟩:=Option.bind_eq_some_iff.1 h
        obtain rfl:=Option.some.inj h
        exact Tri.of (x:=(X27_5 x9 x10 x11 x12)) mixed facts27 [df,dt,dt,(A27_5_1 x9 x12 x13),A27_5_0] [⟨(ok_site_Site_access_5 k x1 x2 x3 x4 x5 x6 x7 x8 x9 x10 x11 x12 _ e2)⟩,⟨c1⟩,⟨c1⟩,⟨c0⟩] (by kernel_rfl)
      · rw [if_neg c1] at h
        replace c1:=eqf c1
        by_cases c2:eqI x5 3=true
        · rw [if_pos c2] at h
          obtain ⟨x13,e3,h⟩:=Option.bind_eq_some_iff.1 h
          obtain rfl:=Option.some.inj h
          exact Tri.of (x:=(X27_5 x9 x10 x11 x12)) mixed facts27 [df,df,dt,(A27_5_1 x9 x12 x13),A27_5_0] [⟨(ok_site_Site_access_5 k x1 x2 x3 x4 x5 x6 x7 x8 x9 x10 x11 x12 _ e3)⟩,⟨c2⟩,⟨c1⟩,⟨c0⟩] (by kernel_rfl)
        · rw [if_neg c2] at h
          replace c2:=eqf c2
          obtain ⟨x13,e3,h⟩:=Option.bind_eq_some_iff.1 h
          obtain rfl:=Option.some.inj h
          exact Tri.of (x:=(X27_5 x9 x10 x11 x12)) mixed facts27 [df,df,df,.call ⟨true,[]⟩ (.int .i64 x13.2.2.2) [(.row [(.sl 2 (List.map e_u8_i64 x13.1)),(.sl 3 (List.map e_u8_i64_b x13.2.1)),(.mp 1),(.ref 4 2 2 0 x12.length .virt)]),(.map (encM .i64 (fun y=>AV.agg (e_i64_Lu8i64E_b_i64 y)) x13.2.2.1) x13.2.2.1.length),(.arr 4 (List.map e_i64_i64_u8_i64 x12) 2 2 false)],A27_5_0] [⟨(ok_site_Site_end_5 k x1 x2 x3 x4 x5 x6 x7 x8 x9 x10 x11 x12 _ e3)⟩,⟨c2⟩,⟨c1⟩,⟨c0⟩] (by kernel_rfl)
end Go.Ws

namespace Go.Ws
open Go.Proofs
set_option linter.unusedSimpArgs false
set_option linter.unusedVariables false
set_option maxRecDepth 1000000
set_option maxHeartbeats 4000000
noncomputable def X14_5 (x5:Ty11) (x6:Ty8) (x7:Ty2) (x8:Ty7):Ctx:=⟨Try.f14,[(.row [(.sl 2 (List.map e_u8_i64 x5)),(.sl 3 (List.map e_u8_i64_b x6)),(.mp 1),(.ref 4 2 2 0 x8.length .virt)]),(.map (encM .i64 (fun y=>AV.agg (e_i64_Lu8i64E_b_i64 y)) x7) x7.length),(.arr 4 (List.map e_i64_i64_u8_i64 x8) 2 2 false)],false⟩
def A14_5_0 (x5:Ty11) (x6:Ty8) (x7:Ty2) (x8:Ty7):Ans:=.call ⟨true,[]⟩ (.bool (!false)) [(.row [(.sl 2 (List.map e_u8_i64 x5)),(.sl 3 (List.map e_u8_i64_b x6)),(.mp 1),(.ref 4 2 2 0 x8.length .virt)]),(.map (encM .i64 (fun y=>AV.agg (e_i64_Lu8i64E_b_i64 y)) x7) x7.length),(.arr 4 (List.map e_i64_i64_u8_i64 x8) 2 2 false)]
def A14_5_1:Ans:=.norm 0 ⟨[(4,[]),(5,[])],[],false,[],[none,none,some 3]⟩
def A14_5_2 (x9:Int × Ty11 × Bool × Int):Ans:=.opt (some (.agg [(.int .i64 x9.1),(.sl 2 (List.map e_u8_i64 x9.2.1)),(.bool x9.2.2.1),(.int .i64 x9.2.2.2)]))
def A14_5_3 (x8:Ty7) (x10:Int × Int × Ty8 × Ty2 × Ty11):Ans:=.call ⟨true,[]⟩ (.tup [(.int .i64 x10.1),(.int .i64 x10.2.1)]) [(.row [(.sl 2 (List.map e_u8_i64 x10.2.2.2.2)),(.sl 3 (List.map e_u8_i64_b x10.2.2.1)),(.mp 1),(.ref 4 2 2 0 x8.length .virt)]),(.map (encM .i64 (fun y=>AV.agg (e_i64_Lu8i64E_b_i64 y)) x10.2.2.2.1) x10.2.2.2.1.length),(.arr 4 (List.map e_i64_i64_u8_i64 x8) 2 2 false)]
def A14_5_4 (x8:Ty7) (x9:Int × Int × Ty8 × Ty2 × Ty11):Ans:=.call ⟨true,[]⟩ (.tup [(.int .i64 x9.1),(.int .i64 x9.2.1)]) [(.row [(.sl 2 (List.map e_u8_i64 x9.2.2.2.2)),(.sl 3 (List.map e_u8_i64_b x9.2.2.1)),(.mp 1),(.ref 4 2 2 0 x8.length .virt)]),(.map (encM .i64 (fun y=>AV.agg (e_i64_Lu8i64E_b_i64 y)) x9.2.2.2.1) x9.2.2.2.1.length),(.arr 4 (List.map e_i64_i64_u8_i64 x8) 2 2 false)]
theorem ok_site_Site_Do_5 (k:Nat) (x1:Int) (x2:Int) (x3:Int) (x4:Int) (x5:Ty11) (x6:Ty8) (x7:Ty2) (x8:Ty7) (r:Int × Int × Ty11 × Ty8 × Ty2 × Ty7) (h:site_Site_Do_5 k x1 x2 x3 x4 x5 x6 x7 x8=some r):Tri Try.prog 14 [(.hp 0 0),(.agg [(.int .i64 x1),(.int .i64 x2),(.int .u8 x3),(.int .i64 x4)])] [(.row [(.sl 2 (List.map e_u8_i64 x5)),(.sl 3 (List.map e_u8_i64_b x6)),(.mp 1),(.ref 4 2 2 0 x8.length .virt)]),(.map (encM .i64 (fun y=>AV.agg (e_i64_Lu8i64E_b_i64 y)) x7) x7.length),(.arr 4 (List.map e_i64_i64_u8_i64 x8) 2 2 false)] (.tup [(.int .i64 r.2.1),(.int .i64 r.1)]) [(.row [(.sl 2 (List.map e_u8_i64 r.2.2.1)),(.sl 3 (List.map e_u8_i64_b r.2.2.2.1)),(.mp 1),(.ref 4 2 3 0 r.2.2.2.2.2.length .virt)]),(.map (encM .i64 (fun y=>AV.agg (e_i64_Lu8i64E_b_i64 y)) r.2.2.2.2.1) r.2.2.2.2.1.length),(.arr 4 (List.map e_i64_i64_u8_i64 r.2.2.2.2.2) 3 3 false)]:=by
    unfold site_Site_Do_5 at h
    by_cases c0:ltI x1 1=true
    · rw [if_pos c0] at h
      obtain rfl:=Option.some.inj h
      exact Tri.of (x:=(X14_5 x5 x6 x7 x8)) mixed facts14 [(A14_5_0 x5 x6 x7 x8),df,dt,dt,dt,dt,dt,dt,dt,dt,dt,dt,dt,dt,dt,A14_5_1] [⟨rT⟩,⟨rT⟩,⟨rT⟩,⟨rT⟩,⟨rT⟩,⟨rT⟩,⟨rT⟩,⟨rT⟩,⟨rT⟩,⟨c0⟩,⟨c0⟩,⟨c0⟩,⟨c0⟩,⟨(nF (nT rfl))⟩,⟨(ok_site_Site_good_5 x5 x6 x7 x8)⟩] (by kernel_rfl)
    · rw [if_neg c0] at h
      replace c0:=eqf c0
      by_cases c1:ltI 6 x1=true
      · rw [if_pos c1] at h
        obtain rfl:=Option.some.inj h
        exact Tri.of (x:=(X14_5 x5 x6 x7 x8)) mixed facts14 [(A14_5_0 x5 x6 x7 x8),df,df,df,df,df,dt,dt,dt,dt,dt,dt,dt,dt,dt,A14_5_1] [⟨rT⟩,⟨rT⟩,⟨rT⟩,⟨rT⟩,⟨rT⟩,⟨c1⟩,⟨c1⟩,⟨c1⟩,⟨c1⟩,⟨c0⟩,⟨c0⟩,⟨c0⟩,⟨c0⟩,⟨(nF (nT rfl))⟩,⟨(ok_site_Site_good_5 x5 x6 x7 x8)⟩] (by kernel_rfl)
      · rw [if_neg c1] at h
        replace c1:=eqf c1
        by_cases c2:ltI x2 0=true
        · rw [if_pos c2] at h
          obtain rfl:=Option.some.inj h
          exact Tri.of (x:=(X14_5 x5 x6 x7 x8)) mixed facts14 [(A14_5_0 x5 x6 x7 x8),df,df,df,df,df,df,df,df,df,dt,dt,dt,dt,dt,A14_5_1] [⟨rT⟩,⟨c2⟩,⟨c2⟩,⟨c2⟩,⟨c2⟩,⟨c1⟩,⟨c1⟩,⟨c1⟩,⟨c1⟩,⟨c0⟩,⟨c0⟩,⟨c0⟩,⟨c0⟩,⟨(nF (nT rfl))⟩,⟨(ok_site_Site_good_5 x5 x6 x7 x8)⟩] (by kernel_rfl)
        · rw [if_neg c2] at h
          replace c2:=eqf c2
          by_cases c3:ltI x2 1000=true
          · rw [if_pos c3] at h
            by_cases c4:mHas x7 x2=true
            · rw [if_pos c4] at h
              obtain ⟨x9,e5,h⟩:=Option.bind_eq_some_iff.1 h
              by_cases c6:eqB true (eqI x1 1)=true
              · rw [if_pos c6] at h
                obtain rfl:=Option.some.inj h
                exact Tri.of (x:=(X14_5 x5 x6 x7 x8)) mixed facts14 [(A14_5_0 x5 x6 x7 x8),df,df,df,df,df,df,df,df,df,df,df,df,df,df,(A14_5_2 x9),dt,dt,A14_5_1] [⟨rT⟩,⟨c6⟩,⟨(look_some .i64 (fun y=>AV.agg (e_i64_Lu8i64E_b_i64 y)) e5)⟩,⟨(nF c3)⟩,⟨c2⟩,⟨c2⟩,⟨c2⟩,⟨c2⟩,⟨c1⟩,⟨c1⟩,⟨c1⟩,⟨c1⟩,⟨c0⟩,⟨c0⟩,⟨c0⟩,⟨c0⟩,⟨(nF (nT rfl))⟩,⟨(ok_site_Site_good_5 x5 x6 x7 x8)⟩] (by kernel_rfl)
              · rw [if_neg c6] at h
                replace c6:=eqf c6
                obtain ⟨x10,e7,h⟩:=Option.bind_eq_some_iff.1 h
                by_cases c8:eqI x10.2.1 0=true
                · rw [if_pos c8] at h
                  by_cases c9:roomI (((x8++[(x1,x2,x3,x4)]).length) * 32)=true
                  · rw [if_pos c9] at h
                    obtain rfl:=Option.some.inj h
                    exact Tri.of (x:=(X14_5 x5 x6 x7 x8)) mixed facts14 [(A14_5_0 x5 x6 x7 x8),df,df,df,df,df,df,df,df,df,df,df,df,df,df,(A14_5_2 x9),df,(A14_5_3 x8 x10),df,.rows (List.map e_i64_i64_u8_i64 [(x1,x2,x3,x4)]),.n ((x8++[(x1,x2,x3,x4)]).length),.n x8.length,dt,.rows (List.map e_i64_i64_u8_i64 (x8++[(x1,x2,x3,x4)])),A14_5_1] [⟨(app_map e_i64_i64_u8_i64 x8 [(x1,x2,x3,x4)])⟩,⟨(eqN_self x8.length)⟩,⟨(len_map e_i64_i64_u8_i64 x8)⟩,⟨c9⟩,⟨(by simp only [List.length_append,List.length_cons,List.length_nil,List.length_take,List.length_drop,List.length_set,List.length_replicate,List.length_map,List.map_nil,List.map_cons] <;> omega:x8.length + (List.map e_i64_i64_u8_i64 [(x1,x2,x3,x4)]).length=(x8++[(x1,x2,x3,x4)]).length)⟩,⟨(part_all e_i64_i64_u8_i64 (l:=[(x1,x2,x3,x4)]) (n:=1) rfl)⟩,⟨(le_map e_i64_i64_u8_i64 (Nat.le_refl 1):0 + 1≤(List.map e_i64_i64_u8_i64 [(x1,x2,x3,x4)]).length)⟩,⟨(nF c8)⟩,⟨(ok_site_Site_step_5 k x9.1 x9.2.1 x9.2.2.1 x9.2.2.2 x1 x2 x3 x4 x5 x6 x7 x8 _ e7)⟩,⟨c6⟩,⟨(look_some .i64 (fun y=>AV.agg (e_i64_Lu8i64E_b_i64 y)) e5)⟩,⟨(nF c3)⟩,⟨c2⟩,⟨c2⟩,⟨c2⟩,⟨c2⟩,⟨c1⟩,⟨c1⟩,⟨c1⟩,⟨c1⟩,⟨c0⟩,⟨c0⟩,⟨c0⟩,⟨c0⟩,⟨(nF (nT rfl))⟩,⟨(ok_site_Site_good_5 x5 x6 x7 x8)⟩] (by kernel_rfl)
                  · rw [if_neg c9] at h
                    replace c9:=eqf c9
                    cases h
                · rw [if_neg c8] at h
                  replace c8:=eqf c8
                  obtain rfl:=Option.some.inj h
                  exact Tri.of (x:=(X14_5 x5 x6 x7 x8)) mixed facts14 [(A14_5_0 x5 x6 x7 x8),df,df,df,df,df,df,df,df,df,df,df,df,df,df,(A14_5_2 x9),df,(A14_5_3 x8 x10),dt,A14_5_1] [⟨(nT c8)⟩,⟨(ok_site_Site_step_5 k x9.1 x9.2.1 x9.2.2.1 x9.2.2.2 x1 x2 x3 x4 x5 x6 x7 x8 _ e7)⟩,⟨c6⟩,⟨(look_some .i64 (fun y=>AV.agg (e_i64_Lu8i64E_b_i64 y)) e5)⟩,⟨(nF c3)⟩,⟨c2⟩,⟨c2⟩,⟨c2⟩,⟨c2⟩,⟨c1⟩,⟨c1⟩,⟨c1⟩,⟨c1⟩,⟨c0⟩,⟨c0⟩,⟨c0⟩,⟨c0⟩,⟨(nF (nT rfl))⟩,⟨(ok_site_Site_good_5 x5 x6 x7 x8)⟩] (by kernel_rfl)
            · rw [if_neg c4] at h
              replace c4:=eqf c4
              by_cases c5:eqB false (eqI x1 1)=true
              · rw [if_pos c5] at h
                obtain rfl:=Option.some.inj h
                exact Tri.of (x:=(X14_5 x5 x6 x7 x8)) mixed facts14 [(A14_5_0 x5 x6 x7 x8),df,df,df,df,df,df,df,df,df,df,df,df,df,df,.opt none,dt,df,A14_5_1] [⟨rF⟩,⟨c5⟩,⟨(look_none .i64 (fun y=>AV.agg (e_i64_Lu8i64E_b_i64 y)) c4)⟩,⟨(nF c3)⟩,⟨c2⟩,⟨c2⟩,⟨c2⟩,⟨c2⟩,⟨c1⟩,⟨c1⟩,⟨c1⟩,⟨c1⟩,⟨c0⟩,⟨c0⟩,⟨c0⟩,⟨c0⟩,⟨(nF (nT rfl))⟩,⟨(ok_site_Site_good_5 x5 x6 x7 x8)⟩] (by kernel_rfl)
              · rw [if_neg c5] at h
                replace c5:=eqf c5
                obtain ⟨x9,e6,h⟩:=Option.bind_eq_some_iff.1 h
                by_cases c7:eqI x9.2.1 0=true
                · rw [if_pos c7] at h
                  by_cases c8:roomI (((x8++[(x1,x2,x3,x4)]).length) * 32)=true
                  · rw [if_pos c8] at h
                    obtain rfl:=Option.some.inj h
                    exact Tri.of (x:=(X14_5 x5 x6 x7 x8)) mixed facts14 [(A14_5_0 x5 x6 x7 x8),df,df,df,df,df,df,df,df,df,df,df,df,df,df,.opt none,df,(A14_5_4 x8 x9),df,.rows (List.map e_i64_i64_u8_i64 [(x1,x2,x3,x4)]),.n ((x8++[(x1,x2,x3,x4)]).length),.n x8.length,dt,.rows (List.map e_i64_i64_u8_i64 (x8++[(x1,x2,x3,x4)])),A14_5_1] [⟨(app_map e_i64_i64_u8_i64 x8 [(x1,x2,x3,x4)])⟩,⟨(eqN_self x8.length)⟩,⟨(len_map e_i64_i64_u8_i64 x8)⟩,⟨c8⟩,⟨(by simp only [List.length_append,List.length_cons,List.length_nil,List.length_take,List.length_drop,List.length_set,List.length_replicate,List.length_map,List.map_nil,List.map_cons] <;> omega:x8.length + (List.map e_i64_i64_u8_i64 [(x1,x2,x3,x4)]).length=(x8++[(x1,x2,x3,x4)]).length)⟩,⟨(part_all e_i64_i64_u8_i64 (l:=[(x1,x2,x3,x4)]) (n:=1) rfl)⟩,⟨(le_map e_i64_i64_u8_i64 (Nat.le_refl 1):0 + 1≤(List.map e_i64_i64_u8_i64 [(x1,x2,x3,x4)]).length)⟩,⟨(nF c7)⟩,⟨(ok_site_Site_step_5 k 0 [] false 0 x1 x2 x3 x4 x5 x6 x7 x8 _ e6)⟩,⟨c5⟩,⟨(look_none .i64 (fun y=>AV.agg (e_i64_Lu8i64E_b_i64 y)) c4)⟩,⟨(nF c3)⟩,⟨c2⟩,⟨c2⟩,⟨c2⟩,⟨c2⟩,⟨c1⟩,⟨c1⟩,⟨c1⟩,⟨c1⟩,⟨c0⟩,⟨c0⟩,⟨c0⟩,⟨c0⟩,⟨(nF (nT rfl))⟩,⟨(ok_site_Site_good_5 x5 x6 x7 x8)⟩] (by kernel_rfl)
                  · rw [if_neg c8] at h
                    replace c8:=eqf c8
                    cases h
                · rw [if_neg c7] at h
                  replace c7:=eqf c7
                  obtain rfl:=Option.some.inj h
                  exact Tri.of (x:=(X14_5 x5 x6 x7 x8)) mixed facts14 [(A14_5_0 x5 x6 x7 x8),df,df,df,df,df,df,df,df,df,df,df,df,df,df,.opt none,df,(A14_5_4 x8 x9),dt,A14_5_1] [⟨(nT c7)⟩,⟨(ok_site_Site_step_5 k 0 [] false 0 x1 x2 x3 x4 x5 x6 x7 x8 _ e6)⟩,⟨c5⟩,⟨(look_none .i64 (fun y=>AV.agg (e_i64_Lu8i64E_b_i64 y)) c4)⟩,⟨(nF c3)⟩,⟨c2⟩,⟨c2⟩,⟨c2⟩,⟨c2⟩,⟨c1⟩,⟨c1⟩,⟨c1⟩,⟨c1⟩,⟨c0⟩,⟨c0⟩,⟨c0⟩,⟨c0⟩,⟨(nF (nT rfl))⟩,⟨(ok_site_Site_good_5 x5 x6 x7 x8)⟩] (by kernel_rfl)
          · rw [if_neg c3] at h
            replace c3:=eqf c3
            obtain rfl:=Option.some.inj h
            exact Tri.of (x:=(X14_5 x5 x6 x7 x8)) mixed facts14 [(A14_5_0 x5 x6 x7 x8),df,df,df,df,df,df,df,df,df,df,df,df,df,dt,A14_5_1] [⟨(nT c3)⟩,⟨c2⟩,⟨c2⟩,⟨c2⟩,⟨c2⟩,⟨c1⟩,⟨c1⟩,⟨c1⟩,⟨c1⟩,⟨c0⟩,⟨c0⟩,⟨c0⟩,⟨c0⟩,⟨(nF (nT rfl))⟩,⟨(ok_site_Site_good_5 x5 x6 x7 x8)⟩] (by kernel_rfl)
end Go.Ws

namespace Go.Ws
open Go.Proofs
set_option linter.unusedSimpArgs false
set_option linter.unusedVariables false
set_option maxRecDepth 1000000
set_option maxHeartbeats 4000000
noncomputable def X7:Ctx:=⟨Try.f7,[],true⟩
def A7_0 (x6:Ty11 × Ty8 × Ty2 × Ty7):Ans:=.call ⟨true,[]⟩ (.hp 0 0) [(.row [(.sl 2 (List.map e_u8_i64 x6.1)),(.sl 3 (List.map e_u8_i64_b x6.2.1)),(.mp 1),(.ref 4 2 0 0 x6.2.2.2.length .virt)]),(.map (encM .i64 (fun y=>AV.agg (e_i64_Lu8i64E_b_i64 y)) x6.2.2.1) x6.2.2.1.length),(.arr 4 (List.map e_i64_i64_u8_i64 x6.2.2.2) 0 0 false)]
def A7_1 (x7:Int × Int × Ty11 × Ty8 × Ty2 × Ty7):Ans:=.call ⟨true,[]⟩ (.tup [(.int .i64 x7.2.1),(.int .i64 x7.1)]) [(.row [(.sl 2 (List.map e_u8_i64 x7.2.2.1)),(.sl 3 (List.map e_u8_i64_b x7.2.2.2.1)),(.mp 1),(.ref 4 2 1 0 x7.2.2.2.2.2.length .virt)]),(.map (encM .i64 (fun y=>AV.agg (e_i64_Lu8i64E_b_i64 y)) x7.2.2.2.2.1) x7.2.2.2.2.1.length),(.arr 4 (List.map e_i64_i64_u8_i64 x7.2.2.2.2.2) 1 1 false)]
def A7_2 (x8:Int × Int × Ty11 × Ty8 × Ty2 × Ty7):Ans:=.call ⟨true,[]⟩ (.tup [(.int .i64 x8.2.1),(.int .i64 x8.1)]) [(.row [(.sl 2 (List.map e_u8_i64 x8.2.2.1)),(.sl 3 (List.map e_u8_i64_b x8.2.2.2.1)),(.mp 1),(.ref 4 2 2 0 x8.2.2.2.2.2.length .virt)]),(.map (encM .i64 (fun y=>AV.agg (e_i64_Lu8i64E_b_i64 y)) x8.2.2.2.2.1) x8.2.2.2.2.1.length),(.arr 4 (List.map e_i64_i64_u8_i64 x8.2.2.2.2.2) 2 2 false)]
def A7_3 (x9:Int × Int × Ty11 × Ty8 × Ty2 × Ty7):Ans:=.call ⟨true,[]⟩ (.tup [(.int .i64 x9.2.1),(.int .i64 x9.1)]) [(.row [(.sl 2 (List.map e_u8_i64 x9.2.2.1)),(.sl 3 (List.map e_u8_i64_b x9.2.2.2.1)),(.mp 1),(.ref 4 2 3 0 x9.2.2.2.2.2.length .virt)]),(.map (encM .i64 (fun y=>AV.agg (e_i64_Lu8i64E_b_i64 y)) x9.2.2.2.2.1) x9.2.2.2.2.1.length),(.arr 4 (List.map e_i64_i64_u8_i64 x9.2.2.2.2.2) 3 3 false)]
theorem ok_law10_SiteOwn (k:Nat) (x1:Ty7) (x2:Int) (x3:Int) (x4:Int) (r:Bool) (h:law10_SiteOwn k x1 x2 x3 x4=some r):Tri Try.prog 7 [(.sl 4 (List.map e_i64_i64_u8_i64 x1)),(.agg [(.int .u8 x2),(.int .u8 x3)]),(.int .i64 x4)] [] (.bool r) []:=by
    unfold law10_SiteOwn at h
    obtain ⟨x5,e0,h⟩:=Option.bind_eq_some_iff.1 h
    by_cases c1:x5=true
    · rw [if_pos c1] at h
      obtain ⟨x6,e2,h⟩:=Option.bind_eq_some_iff.1 h
      obtain ⟨x7,e3,h⟩:=Option.bind_eq_some_iff.1 h
      by_cases c4:eqI x7.1 0=true
      · rw [if_pos c4] at h
        obtain ⟨x8,e5,h⟩:=Option.bind_eq_some_iff.1 h
        obtain ⟨x9,e6,h⟩:=Option.bind_eq_some_iff.1 h
        by_cases c7:eqI x8.1 0=true
        · rw [if_pos c7] at h
          by_cases c8:eqI x9.1 0=true
          · rw [if_pos c8] at h
            obtain rfl:=Option.some.inj h
            exact Tri.of (x:=X7) mixed facts7 [.call ⟨true,[]⟩ (.bool x5) [],df,(A7_0 x6),df,(A7_1 x7),df,(A7_2 x8),(A7_3 x9),df,dt,dt,dt,dt,dt,dt] [⟨c8⟩,⟨c8⟩,⟨c8⟩,⟨c8⟩,⟨c8⟩,⟨c8⟩,⟨(nF c7)⟩,⟨(ok_site_Site_Do_5 k 2 (conv .i64 x2) x3 0 x8.2.2.1 x8.2.2.2.1 x8.2.2.2.2.1 x8.2.2.2.2.2 _ e6)⟩,⟨(ok_site_Site_Do_4 k 3 (conv .i64 x2) x3 x4 x7.2.2.1 x7.2.2.2.1 x7.2.2.2.2.1 x7.2.2.2.2.2 _ e5)⟩,⟨(nF c4)⟩,⟨(ok_site_Site_Do_3 k 2 (conv .i64 x2) x3 0 x6.1 x6.2.1 x6.2.2.1 x6.2.2.2 _ e3)⟩,⟨rF⟩,⟨(ok_law10_played k x1 _ e2)⟩,⟨(nF c1)⟩,⟨(ok_law10_alive k _ e0)⟩] (by kernel_rfl)
          · rw [if_neg c8] at h
            replace c8:=eqf c8
            obtain rfl:=Option.some.inj h
            exact Tri.of (x:=X7) mixed facts7 [.call ⟨true,[]⟩ (.bool x5) [],df,(A7_0 x6),df,(A7_1 x7),df,(A7_2 x8),(A7_3 x9),df,df,df,df,df,df,df] [⟨c8⟩,⟨c8⟩,⟨c8⟩,⟨c8⟩,⟨c8⟩,⟨c8⟩,⟨(nF c7)⟩,⟨(ok_site_Site_Do_5 k 2 (conv .i64 x2) x3 0 x8.2.2.1 x8.2.2.2.1 x8.2.2.2.2.1 x8.2.2.2.2.2 _ e6)⟩,⟨(ok_site_Site_Do_4 k 3 (conv .i64 x2) x3 x4 x7.2.2.1 x7.2.2.2.1 x7.2.2.2.2.1 x7.2.2.2.2.2 _ e5)⟩,⟨(nF c4)⟩,⟨(ok_site_Site_Do_3 k 2 (conv .i64 x2) x3 0 x6.1 x6.2.1 x6.2.2.1 x6.2.2.2 _ e3)⟩,⟨rF⟩,⟨(ok_law10_played k x1 _ e2)⟩,⟨(nF c1)⟩,⟨(ok_law10_alive k _ e0)⟩] (by kernel_rfl)
        · rw [if_neg c7] at h
          replace c7:=eqf c7
          by_cases c8:eqI x9.1 0=true
          · rw [if_pos c8] at h
            obtain rfl:=Option.some.inj h
            exact Tri.of (x:=X7) mixed facts7 [.call ⟨true,[]⟩ (.bool x5) [],df,(A7_0 x6),df,(A7_1 x7),df,(A7_2 x8),(A7_3 x9),dt,dt,dt,dt,dt] [⟨c8⟩,⟨c8⟩,⟨c8⟩,⟨c8⟩,⟨(nT c7)⟩,⟨(ok_site_Site_Do_5 k 2 (conv .i64 x2) x3 0 x8.2.2.1 x8.2.2.2.1 x8.2.2.2.2.1 x8.2.2.2.2.2 _ e6)⟩,⟨(ok_site_Site_Do_4 k 3 (conv .i64 x2) x3 x4 x7.2.2.1 x7.2.2.2.1 x7.2.2.2.2.1 x7.2.2.2.2.2 _ e5)⟩,⟨(nF c4)⟩,⟨(ok_site_Site_Do_3 k 2 (conv .i64 x2) x3 0 x6.1 x6.2.1 x6.2.2.1 x6.2.2.2 _ e3)⟩,⟨rF⟩,⟨(ok_law10_played k x1 _ e2)⟩,⟨(nF c1)⟩,⟨(ok_law10_alive k _ e0)⟩] (by kernel_rfl)
          · rw [if_neg c8] at h
            replace c8:=eqf c8
            obtain rfl:=Option.some.inj h
            exact Tri.of (x:=X7) mixed facts7 [.call ⟨true,[]⟩ (.bool x5) [],df,(A7_0 x6),df,(A7_1 x7),df,(A7_2 x8),(A7_3 x9),dt,df,df,df,df] [⟨c8⟩,⟨c8⟩,⟨c8⟩,⟨c8⟩,⟨(nT c7)⟩,⟨(ok_site_Site_Do_5 k 2 (conv .i64 x2) x3 0 x8.2.2.1 x8.2.2.2.1 x8.2.2.2.2.1 x8.2.2.2.2.2 _ e6)⟩,⟨(ok_site_Site_Do_4 k 3 (conv .i64 x2) x3 x4 x7.2.2.1 x7.2.2.2.1 x7.2.2.2.2.1 x7.2.2.2.2.2 _ e5)⟩,⟨(nF c4)⟩,⟨(ok_site_Site_Do_3 k 2 (conv .i64 x2) x3 0 x6.1 x6.2.1 x6.2.2.1 x6.2.2.2 _ e3)⟩,⟨rF⟩,⟨(ok_law10_played k x1 _ e2)⟩,⟨(nF c1)⟩,⟨(ok_law10_alive k _ e0)⟩] (by kernel_rfl)
      · rw [if_neg c4] at h
        replace c4:=eqf c4
        obtain rfl:=Option.some.inj h
        exact Tri.of (x:=X7) mixed facts7 [.call ⟨true,[]⟩ (.bool x5) [],df,(A7_0 x6),df,(A7_1 x7),dt] [⟨(nT c4)⟩,⟨(ok_site_Site_Do_3 k 2 (conv .i64 x2) x3 0 x6.1 x6.2.1 x6.2.2.1 x6.2.2.2 _ e3)⟩,⟨rF⟩,⟨(ok_law10_played k x1 _ e2)⟩,⟨(nF c1)⟩,⟨(ok_law10_alive k _ e0)⟩] (by kernel_rfl)
    · rw [if_neg c1] at h
      replace c1:=eqf c1
      obtain rfl:=Option.some.inj h
      exact Tri.of (x:=X7) mixed facts7 [.call ⟨true,[]⟩ (.bool x5) [],dt] [⟨(nT c1)⟩,⟨(ok_law10_alive k _ e0)⟩] (by kernel_rfl)
end Go.Ws
