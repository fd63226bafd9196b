/-
  Walks, merged.
  Conditions: none.
-/
import Derived.Test.YtojldadifhneeaaZPre
import Derived.Test.YtojldadifhneeaaZPure
import Derived.Test.YtojldadifhneeaaZWGSiteReads0
set_option linter.unusedVariables false
set_option linter.unusedSimpArgs false
namespace Go.Ws
open Go.Proofs
set_option linter.unusedSimpArgs false
set_option linter.unusedVariables false
set_option maxRecDepth 1000000
set_option maxHeartbeats 4000000
noncomputable def X20 (x2:Ty11) (x3:Ty8) (x4:Ty2) (x5:Ty7):Ctx:=⟨Try.f20,[(.row [(.sl 2 (List.map e_u8_i64 x2)),(.sl 3 (List.map e_u8_i64_b x3)),(.mp 1),(.ref 4 2 0 0 x5.length .virt)]),(.map (encM .i64 (fun y=>AV.agg (e_i64_Lu8i64E_b_i64 y)) x4) x4.length),(.arr 4 (List.map e_i64_i64_u8_i64 x5) 0 0 false)],false⟩
theorem ok_site_Site_Get (k:Nat) (x1:Int) (x2:Ty11) (x3:Ty8) (x4:Ty2) (x5:Ty7) (r:Int) (h:site_Site_Get k x1 x2 x3 x4 x5=some r):Tri Try.prog 20 [(.hp 0 0),(.int .u8 x1)] [(.row [(.sl 2 (List.map e_u8_i64 x2)),(.sl 3 (List.map e_u8_i64_b x3)),(.mp 1),(.ref 4 2 0 0 x5.length .virt)]),(.map (encM .i64 (fun y=>AV.agg (e_i64_Lu8i64E_b_i64 y)) x4) x4.length),(.arr 4 (List.map e_i64_i64_u8_i64 x5) 0 0 false)] (.int .i64 r) [(.row [(.sl 2 (List.map e_u8_i64 x2)),(.sl 3 (List.map e_u8_i64_b x3)),(.mp 1),(.ref 4 2 0 0 x5.length .virt)]),(.map (encM .i64 (fun y=>AV.agg (e_i64_Lu8i64E_b_i64 y)) x4) x4.length),(.arr 4 (List.map e_i64_i64_u8_i64 x5) 0 0 false)]:=by
    unfold site_Site_Get at h
    obtain ⟨x6,e0,h⟩:=Option.bind_eq_some_iff.1 h
    obtain rfl:=Option.some.inj h
    exact Tri.of (x:=(X20 x2 x3 x4 x5)) mixed facts20 [.call ⟨true,[]⟩ (.bool (!false)) [(.row [(.sl 2 (List.map e_u8_i64 x2)),(.sl 3 (List.map e_u8_i64_b x3)),(.mp 1),(.ref 4 2 0 0 x5.length .virt)]),(.map (encM .i64 (fun y=>AV.agg (e_i64_Lu8i64E_b_i64 y)) x4) x4.length),(.arr 4 (List.map e_i64_i64_u8_i64 x5) 0 0 false)],df,.call ⟨true,[]⟩ (.int .i64 x6) [],.norm 0 ⟨[(4,[])],[],false,[],[]⟩] [⟨(ok_ledger_Get k x2 x1 _ e0)⟩,⟨(nF (nT rfl))⟩,⟨(ok_site_Site_good_3 x2 x3 x4 x5)⟩] (by kernel_rfl)
end Go.Ws

namespace Go.Ws
open Go.Proofs
set_option linter.unusedSimpArgs false
set_option linter.unusedVariables false
set_option maxRecDepth 1000000
set_option maxHeartbeats 4000000
noncomputable def X32_1001:Ctx:=⟨Try.f32,[],false⟩
theorem ok_slices_Clone_32_1001 (k:Nat) (x1:Ty7) (r:Unit) (h:slices_Clone_32_1001 k x1=some r):Tri Try.prog 32 [(.inl 4 (List.map e_i64_i64_u8_i64 x1))] [] (.ref 4 0 0 0 x1.length .virt) [(.arr 4 (List.map e_i64_i64_u8_i64 x1) 0 0 false)]:=by
    unfold slices_Clone_32_1001 at h
    by_cases c0:roomI (x1.length * 32)=true
    · rw [if_pos c0] at h
      obtain rfl:=Option.some.inj h
      exact Tri.of (x:=X32_1001) mixed facts32 [df,.n x1.length,.norm 0 ⟨[(2,[])],[⟨.tmp 2,[],some 4⟩],false,[],[]⟩,.n x1.length,.rows (List.map e_i64_i64_u8_i64 x1)] [⟨(take_all e_i64_i64_u8_i64 (l:=x1) (n:=x1.length) rfl)⟩,⟨(rfl:x1.length=x1.length)⟩,⟨(zle x1.length)⟩,⟨c0⟩,⟨(len_map e_i64_i64_u8_i64 x1)⟩,⟨rF⟩] (by kernel_rfl)
    · rw [if_neg c0] at h
      replace c0:=eqf c0
      cases h
end Go.Ws

namespace Go.Ws
open Go.Proofs
set_option linter.unusedSimpArgs false
set_option linter.unusedVariables false
set_option maxRecDepth 1000000
set_option maxHeartbeats 4000000
noncomputable def X32_1002:Ctx:=⟨Try.f32,[],false⟩
theorem ok_slices_Clone_32_1002:Tri Try.prog 32 [.nils] [] (.ref 4 0 0 0 0 .virt) [(.arr 4 (List.map e_i64_i64_u8_i64 []) 0 0 false)]:=by
    obtain ⟨r,h⟩:∃ r,slices_Clone_32_1002=r:=⟨_,rfl⟩
    try rw [h]
    unfold slices_Clone_32_1002 at h
    obtain rfl:=h
    exact Tri.of (x:=X32_1002) mixed facts32 [dt,.norm 0 ⟨[(2,[])],[⟨.tmp 2,[],some 4⟩],false,[],[]⟩,.n 0,.rows (List.map e_i64_i64_u8_i64 [])] [⟨(take_all e_i64_i64_u8_i64 (l:=[]) (n:=0) rfl)⟩,⟨(rfl:0=0)⟩,⟨(zle 0)⟩,⟨rT⟩] (by kernel_rfl)
end Go.Ws

namespace Go.Ws
open Go.Proofs
set_option linter.unusedSimpArgs false
set_option linter.unusedVariables false
set_option maxRecDepth 1000000
set_option maxHeartbeats 4000000
theorem ok_slices_Clone_32 (k:Nat) (x1:Ty7) (r:Unit) (h:slices_Clone_32 k x1=some r):Tri Try.prog 32 [(.sl 4 (List.map e_i64_i64_u8_i64 x1))] [] (.ref 4 0 0 0 x1.length .virt) [(.arr 4 (List.map e_i64_i64_u8_i64 x1) 0 0 false)]:=by
    refine Tri.slOf (ok_slices_Clone_32_1001 k x1 r h) fun h0=>?_
    have hx:x1=[]:=by simpa using h0
    subst hx
    exact ok_slices_Clone_32_1002
end Go.Ws

namespace Go.Ws
open Go.Proofs
set_option linter.unusedSimpArgs false
set_option linter.unusedVariables false
set_option maxRecDepth 1000000
set_option maxHeartbeats 4000000
noncomputable def X21 (x1:Ty11) (x2:Ty8) (x3:Ty2) (x4:Ty7):Ctx:=⟨Try.f21,[(.row [(.sl 2 (List.map e_u8_i64 x1)),(.sl 3 (List.map e_u8_i64_b x2)),(.mp 1),(.ref 4 2 0 0 x4.length .virt)]),(.map (encM .i64 (fun y=>AV.agg (e_i64_Lu8i64E_b_i64 y)) x3) x3.length),(.arr 4 (List.map e_i64_i64_u8_i64 x4) 0 0 false)],false⟩
theorem ok_site_Site_Log (k:Nat) (x1:Ty11) (x2:Ty8) (x3:Ty2) (x4:Ty7) (r:Unit) (h:site_Site_Log k x1 x2 x3 x4=some r):Tri Try.prog 21 [(.hp 0 0)] [(.row [(.sl 2 (List.map e_u8_i64 x1)),(.sl 3 (List.map e_u8_i64_b x2)),(.mp 1),(.ref 4 2 0 0 x4.length .virt)]),(.map (encM .i64 (fun y=>AV.agg (e_i64_Lu8i64E_b_i64 y)) x3) x3.length),(.arr 4 (List.map e_i64_i64_u8_i64 x4) 0 0 false)] (.ref 4 3 0 0 x4.length .virt) [(.row [(.sl 2 (List.map e_u8_i64 x1)),(.sl 3 (List.map e_u8_i64_b x2)),(.mp 1),(.ref 4 2 0 0 x4.length .virt)]),(.map (encM .i64 (fun y=>AV.agg (e_i64_Lu8i64E_b_i64 y)) x3) x3.length),(.arr 4 (List.map e_i64_i64_u8_i64 x4) 0 0 true),(.arr 4 (List.map e_i64_i64_u8_i64 x4) 0 0 false)]:=by
    unfold site_Site_Log at h
    obtain ⟨x5,e0,h⟩:=Option.bind_eq_some_iff.1 h
    obtain rfl:=Option.some.inj h
    exact Tri.of (x:=(X21 x1 x2 x3 x4)) mixed facts21 [.call ⟨true,[]⟩ (.bool (!false)) [(.row [(.sl 2 (List.map e_u8_i64 x1)),(.sl 3 (List.map e_u8_i64_b x2)),(.mp 1),(.ref 4 2 0 0 x4.length .virt)]),(.map (encM .i64 (fun y=>AV.agg (e_i64_Lu8i64E_b_i64 y)) x3) x3.length),(.arr 4 (List.map e_i64_i64_u8_i64 x4) 0 0 false)],df,.call ⟨true,[]⟩ (.ref 4 0 0 0 x4.length .virt) [(.arr 4 (List.map e_i64_i64_u8_i64 x4) 0 0 false)],.rows (List.map e_i64_i64_u8_i64 x4),.norm 0 ⟨[(2,[])],[⟨.tmp 2,[],none⟩],false,[],[]⟩] [⟨(ok_slices_Clone_32 k x4 _ e0)⟩,⟨(part_all e_i64_i64_u8_i64 (l:=x4) (n:=x4.length) rfl)⟩,⟨(le_map e_i64_i64_u8_i64 (Nat.le_refl x4.length):0 + x4.length≤(List.map e_i64_i64_u8_i64 x4).length)⟩,⟨(nF (nT rfl))⟩,⟨(ok_site_Site_good_3 x1 x2 x3 x4)⟩] (by kernel_rfl)
end Go.Ws

namespace Go.Ws
open Go.Proofs
set_option linter.unusedSimpArgs false
set_option linter.unusedVariables false
set_option maxRecDepth 1000000
set_option maxHeartbeats 4000000
noncomputable def X12:Ctx:=⟨Try.f12,[],true⟩
noncomputable def L12_0:Code:=at_ Try.f12 [1,1,1,0,1,4,5]
def S12_0 (v12001_1:Int) (v12001_2:Ty11) (v12001_3:Ty8) (v12001_4:Ty2) (v12001_5:Ty7):St:=⟨mkT 73 [(1,(.hp 0 0)),(27,(.ref 6 1 0 0 8 .full)),(28,(.int .i64 8)),(29,(.int .i64 v12001_1))],[(.row [(.sl 2 (List.map e_u8_i64 v12001_2)),(.sl 3 (List.map e_u8_i64_b v12001_3)),(.mp 2),(.ref 4 3 0 0 v12001_5.length .virt)]),(.arr 6 (List.map e_i64_i64_u8_i64_i64_i64 [(1,1,0,0,0,0),(3,1,3,5,0,0),(1,2,0,0,0,0),(2,2,3,0,0,9),(4,1,0,1,0,0),(5,1,0,0,0,0),(2,2,3,0,5,0),(6,1,0,2,0,0)]) 0 0 false),(.map (encM .i64 (fun y=>AV.agg (e_i64_Lu8i64E_b_i64 y)) v12001_4) v12001_4.length),(.arr 4 (List.map e_i64_i64_u8_i64 v12001_5) 0 0 false)]⟩
def E12_0_0 (v12002_1:Ty11) (v12002_2:Ty8) (v12002_3:Ty2) (v12002_4:Ty7):St:=⟨mkT 73 [(1,(.hp 0 0))],[(.row [(.sl 2 (List.map e_u8_i64 v12002_1)),(.sl 3 (List.map e_u8_i64_b v12002_2)),(.mp 1),(.ref 4 2 0 0 v12002_4.length .virt)]),(.map (encM .i64 (fun y=>AV.agg (e_i64_Lu8i64E_b_i64 y)) v12002_3) v12002_3.length),(.arr 4 (List.map e_i64_i64_u8_i64 v12002_4) 0 0 false)]⟩
def O12_0 (y:(Sum (Ty11 × Ty8 × Ty2 × Ty7) (Bool))):GX:=match y with
  | .inl y=>.st (.exit 0) (E12_0_0 y.1 y.2.1 y.2.2.1 y.2.2.2)
  | .inr y=>.fin (.bool y) []
def A12_0 (v12000_1:Int × Int × Int × Int × Int × Int):Ans:=.row [(.int .i64 v12000_1.1),(.int .i64 v12000_1.2.1),(.int .u8 v12000_1.2.2.1),(.int .i64 v12000_1.2.2.2.1),(.int .i64 v12000_1.2.2.2.2.1),(.int .i64 v12000_1.2.2.2.2.2)]
def A12_1 (v12000_2:Int × Int × Ty11 × Ty8 × Ty2 × Ty7):Ans:=.call ⟨true,[]⟩ (.tup [(.int .i64 v12000_2.2.1),(.int .i64 v12000_2.1)]) [(.row [(.sl 2 (List.map e_u8_i64 v12000_2.2.2.1)),(.sl 3 (List.map e_u8_i64_b v12000_2.2.2.2.1)),(.mp 1),(.ref 4 2 1 0 v12000_2.2.2.2.2.2.length .virt)]),(.map (encM .i64 (fun y=>AV.agg (e_i64_Lu8i64E_b_i64 y)) v12000_2.2.2.2.2.1) v12000_2.2.2.2.2.1.length),(.arr 4 (List.map e_i64_i64_u8_i64 v12000_2.2.2.2.2.2) 1 1 false)]
def A12_2:Ans:=.call ⟨true,[]⟩ (.hp 0 0) [(.row [.nils,.nils,(.mp 1),.nils]),(.map (encM .i64 (fun y=>AV.agg (e_i64_Lu8i64E_b_i64 y)) ([]:Ty2)) ([]:Ty2).length)]
def A12_3:Ans:=.norm 2 ⟨[(1,[]),(27,[]),(28,[]),(29,[])],[⟨.tmp 1,[(0,2),(1,3)],none⟩,⟨.tmp 27,[],none⟩,⟨.cell 0 2,[],none⟩,⟨.cell 0 3,[],some 4⟩],false,[],[]⟩
def A12_4 (x2:Ty11 × Ty8 × Ty2 × Ty7) (x3:Int × Bool × Int × Ty11 × Bool):Ans:=.call ⟨true,[]⟩ (.tup [(.agg [(.int .i64 x3.1),(.ref 2 3 0 0 x3.2.2.2.1.length .virt),(.bool x3.2.1),(.int .i64 x3.2.2.1)]),(.bool x3.2.2.2.2)]) [(.row [(.sl 2 (List.map e_u8_i64 x2.1)),(.sl 3 (List.map e_u8_i64_b x2.2.1)),(.mp 1),(.ref 4 2 0 0 x2.2.2.2.length .virt)]),(.map (encM .i64 (fun y=>AV.agg (e_i64_Lu8i64E_b_i64 y)) x2.2.2.1) x2.2.2.1.length),(.arr 4 (List.map e_i64_i64_u8_i64 x2.2.2.2) 0 0 false),(.arr 2 (List.map e_u8_i64 x3.2.2.2.1) 0 0 false)]
def A12_5 (x2:Ty11 × Ty8 × Ty2 × Ty7) (x4:Int):Ans:=.call ⟨true,[]⟩ (.int .i64 x4) [(.row [(.sl 2 (List.map e_u8_i64 x2.1)),(.sl 3 (List.map e_u8_i64_b x2.2.1)),(.mp 1),(.ref 4 2 0 0 x2.2.2.2.length .virt)]),(.map (encM .i64 (fun y=>AV.agg (e_i64_Lu8i64E_b_i64 y)) x2.2.2.1) x2.2.2.1.length),(.arr 4 (List.map e_i64_i64_u8_i64 x2.2.2.2) 0 0 false)]
theorem ok_law10_alive_l0 (y:(Sum (Ty11 × Ty8 × Ty2 × Ty7) (Bool))):∀ (k:Nat) (v12001_1:Int) (v12001_2:Ty11) (v12001_3:Ty8) (v12001_4:Ty2) (v12001_5:Ty7),law10_alive_l0 k v12001_1 v12001_2 v12001_3 v12001_4 v12001_5=some y→LT Try.prog X12 L12_0 (S12_0 v12001_1 v12001_2 v12001_3 v12001_4 v12001_5) (O12_0 y)
  | 0,v12001_1,v12001_2,v12001_3,v12001_4,v12001_5,h=>by cases h
  | k + 1,v12001_1,v12001_2,v12001_3,v12001_4,v12001_5,h=>by
    rw [law10_alive_l0] at h
    by_cases cL0:ltI v12001_1 8=true
    · rw [if_pos cL0] at h
      by_cases cL1:inI v12001_1 8=true
      · rw [if_pos cL1] at h
        obtain ⟨v12000_1,eL2,h⟩:=Option.bind_eq_some_iff.1 h
        obtain ⟨v12000_2,eL3,h⟩:=Option.bind_eq_some_iff.1 h
        by_cases cL4:eqI v12000_2.2.1 v12000_1.2.2.2.2.1=true
        · rw [if_pos cL4] at h
          by_cases cL5:eqI v12000_2.1 v12000_1.2.2.2.2.2=true
          · rw [if_pos cL5] at h
            exact LT.next mixed (hs:=⟨[(1,[]),(27,[]),(28,[]),(29,[])],[⟨.tmp 1,[],none⟩,⟨.tmp 27,[],none⟩,⟨.cell 0 2,[],none⟩,⟨.cell 0 3,[],some 4⟩],false,[],[]⟩) (es:=none) [dt,(A12_0 v12000_1),(A12_1 v12000_2),df,df,df,df,df,df,.n v12000_2.2.2.2.2.2.length,.rows (List.map e_i64_i64_u8_i64 v12000_2.2.2.2.2.2)] [⟨(take_all e_i64_i64_u8_i64 (l:=v12000_2.2.2.2.2.2) (n:=v12000_2.2.2.2.2.2.length) rfl)⟩,⟨(rfl:v12000_2.2.2.2.2.2.length=v12000_2.2.2.2.2.2.length)⟩,⟨(zle v12000_2.2.2.2.2.2.length)⟩,⟨(nF cL5)⟩,⟨(nF cL4)⟩,⟨(nF cL4)⟩,⟨(nF cL4)⟩,⟨(nF cL4)⟩,⟨(nF cL4)⟩,⟨(ok_site_Site_Do_3 k v12000_1.1 v12000_1.2.1 v12000_1.2.2.1 v12000_1.2.2.2.1 v12001_2 v12001_3 v12001_4 v12001_5 _ eL3)⟩,⟨(cells_map (e:=e_i64_i64_u8_i64_i64_i64) eL2 6 0 6 (by decide))⟩,⟨cL1⟩,⟨cL0⟩] (by kernel_rfl) (ok_law10_alive_l0 y k (iadd .i64 v12001_1 1) v12000_2.2.2.1 v12000_2.2.2.2.1 v12000_2.2.2.2.2.1 v12000_2.2.2.2.2.2 h)
          · rw [if_neg cL5] at h
            replace cL5:=eqf cL5
            obtain rfl:=Option.some.inj h
            show LT _ _ _ _ (.fin (.bool false) [])
            exact LT.done mixed (hs:=⟨[],[],false,[],[]⟩) (es:=none) [dt,(A12_0 v12000_1),(A12_1 v12000_2),df,df,df,df,df,dt] [⟨(nT cL5)⟩,⟨(nF cL4)⟩,⟨(nF cL4)⟩,⟨(nF cL4)⟩,⟨(nF cL4)⟩,⟨(nF cL4)⟩,⟨(ok_site_Site_Do_3 k v12000_1.1 v12000_1.2.1 v12000_1.2.2.1 v12000_1.2.2.2.1 v12001_2 v12001_3 v12001_4 v12001_5 _ eL3)⟩,⟨(cells_map (e:=e_i64_i64_u8_i64_i64_i64) eL2 6 0 6 (by decide))⟩,⟨cL1⟩,⟨cL0⟩] (by kernel_rfl) (fun s h=>by cases h)
        · rw [if_neg cL4] at h
          replace cL4:=eqf cL4
          obtain rfl:=Option.some.inj h
          show LT _ _ _ _ (.fin (.bool false) [])
          exact LT.done mixed (hs:=⟨[],[],false,[],[]⟩) (es:=none) [dt,(A12_0 v12000_1),(A12_1 v12000_2),dt,dt,dt,dt,dt,dt] [⟨rT⟩,⟨(nT cL4)⟩,⟨(nT cL4)⟩,⟨(nT cL4)⟩,⟨(nT cL4)⟩,⟨(nT cL4)⟩,⟨(ok_site_Site_Do_3 k v12000_1.1 v12000_1.2.1 v12000_1.2.2.1 v12000_1.2.2.2.1 v12001_2 v12001_3 v12001_4 v12001_5 _ eL3)⟩,⟨(cells_map (e:=e_i64_i64_u8_i64_i64_i64) eL2 6 0 6 (by decide))⟩,⟨cL1⟩,⟨cL0⟩] (by kernel_rfl) (fun s h=>by cases h)
      · rw [if_neg cL1] at h
        replace cL1:=eqf cL1
        cases h
    · rw [if_neg cL0] at h
      replace cL0:=eqf cL0
      obtain rfl:=Option.some.inj h
      show LT _ _ _ _ (.st (.exit 0) (E12_0_0 v12001_2 v12001_3 v12001_4 v12001_5))
      exact LT.done mixed (hs:=⟨[],[],false,[],[]⟩) (es:=(some ⟨[(1,[])],[⟨.tmp 1,[],none⟩,⟨.cell 0 2,[],none⟩,⟨.cell 0 3,[],none⟩],false,[],[]⟩)) [df] [⟨cL0⟩] (by kernel_rfl) (fun s h=>by cases h)
theorem ok_law10_alive (k:Nat) (r:Bool) (h:law10_alive k=some r):Tri Try.prog 12 [] [] (.bool r) []:=by
    unfold law10_alive at h
    obtain ⟨x1,e0,h⟩:=Option.bind_eq_some_iff.1 h
    cases x1 with
    | inl x2 =>
      simp only [Sum.elim_inl] at h
      obtain ⟨x3,e2,h⟩:=Option.bind_eq_some_iff.1 h
      obtain ⟨x4,e3,h⟩:=Option.bind_eq_some_iff.1 h
      by_cases c4:eqI x4 0=true
      · rw [if_pos c4] at h
        by_cases c5:x3.2.2.2.2=true
        · rw [if_pos c5] at h
          by_cases c6:eqI x3.1 3=true
          · rw [if_pos c6] at h
            obtain ⟨x5,e7,h⟩:=Option.bind_eq_some_iff.1 h
            obtain rfl:=Option.some.inj h
            exact Tri.of (x:=X12) mixed facts12 [A12_2,df,A12_3,.n 0,.rows (List.map e_i64_i64_u8_i64 []),.out (.st .normal (E12_0_0 x2.1 x2.2.1 x2.2.2.1 x2.2.2.2)),(A12_4 x2 x3),(A12_5 x2 x4),dt,dt,dt,dt,dt,dt,dt,dt,.call ⟨true,[]⟩ (.ref 4 3 0 0 x2.2.2.2.length .virt) [(.row [(.sl 2 (List.map e_u8_i64 x2.1)),(.sl 3 (List.map e_u8_i64_b x2.2.1)),(.mp 1),(.ref 4 2 0 0 x2.2.2.2.length .virt)]),(.map (encM .i64 (fun y=>AV.agg (e_i64_Lu8i64E_b_i64 y)) x2.2.2.1) x2.2.2.1.length),(.arr 4 (List.map e_i64_i64_u8_i64 x2.2.2.2) 0 0 true),(.arr 4 (List.map e_i64_i64_u8_i64 x2.2.2.2) 0 0 false)],dt,dt,dt] [⟨c6⟩,⟨c6⟩,⟨c6⟩,⟨(ok_site_Site_Log k x2.1 x2.2.1 x2.2.2.1 x2.2.2.2 _ e7)⟩,⟨c6⟩,⟨c6⟩,⟨c5⟩,⟨c5⟩,⟨c5⟩,⟨c5⟩,⟨c4⟩,⟨c4⟩,⟨(ok_site_Site_Get k 3 x2.1 x2.2.1 x2.2.2.1 x2.2.2.2 _ e3)⟩,⟨(ok_site_Site_Part k 1 x2.1 x2.2.1 x2.2.2.1 x2.2.2.2 _ e2)⟩,⟨(LT.block (ok_law10_alive_l0 _ k 0 [] [] ([]:Ty2) [] e0))⟩,⟨(take_all e_i64_i64_u8_i64 (l:=[]) (n:=0) rfl)⟩,⟨(rfl:0=0)⟩,⟨(zle 0)⟩,⟨rF⟩,⟨(ok_site_New)⟩] (by kernel_rfl)
          · rw [if_neg c6] at h
            replace c6:=eqf c6
            obtain rfl:=Option.some.inj h
            exact Tri.of (x:=X12) mixed facts12 [A12_2,df,A12_3,.n 0,.rows (List.map e_i64_i64_u8_i64 []),.out (.st .normal (E12_0_0 x2.1 x2.2.1 x2.2.2.1 x2.2.2.2)),(A12_4 x2 x3),(A12_5 x2 x4),dt,dt,dt,dt,dt,dt,df,df,df,df,df] [⟨c6⟩,⟨c6⟩,⟨c6⟩,⟨c6⟩,⟨c6⟩,⟨c5⟩,⟨c5⟩,⟨c5⟩,⟨c5⟩,⟨c4⟩,⟨c4⟩,⟨(ok_site_Site_Get k 3 x2.1 x2.2.1 x2.2.2.1 x2.2.2.2 _ e3)⟩,⟨(ok_site_Site_Part k 1 x2.1 x2.2.1 x2.2.2.1 x2.2.2.2 _ e2)⟩,⟨(LT.block (ok_law10_alive_l0 _ k 0 [] [] ([]:Ty2) [] e0))⟩,⟨(take_all e_i64_i64_u8_i64 (l:=[]) (n:=0) rfl)⟩,⟨(rfl:0=0)⟩,⟨(zle 0)⟩,⟨rF⟩,⟨(ok_site_New)⟩] (by kernel_rfl)
        · rw [if_neg c5] at h
          replace c5:=eqf c5
          obtain rfl:=Option.some.inj h
          exact Tri.of (x:=X12) mixed facts12 [A12_2,df,A12_3,.n 0,.rows (List.map e_i64_i64_u8_i64 []),.out (.st .normal (E12_0_0 x2.1 x2.2.1 x2.2.2.1 x2.2.2.2)),(A12_4 x2 x3),(A12_5 x2 x4),dt,dt,df,df,df,df,df,df,df,df,df] [⟨rF⟩,⟨rF⟩,⟨rF⟩,⟨rF⟩,⟨rF⟩,⟨c5⟩,⟨c5⟩,⟨c5⟩,⟨c5⟩,⟨c4⟩,⟨c4⟩,⟨(ok_site_Site_Get k 3 x2.1 x2.2.1 x2.2.2.1 x2.2.2.2 _ e3)⟩,⟨(ok_site_Site_Part k 1 x2.1 x2.2.1 x2.2.2.1 x2.2.2.2 _ e2)⟩,⟨(LT.block (ok_law10_alive_l0 _ k 0 [] [] ([]:Ty2) [] e0))⟩,⟨(take_all e_i64_i64_u8_i64 (l:=[]) (n:=0) rfl)⟩,⟨(rfl:0=0)⟩,⟨(zle 0)⟩,⟨rF⟩,⟨(ok_site_New)⟩] (by kernel_rfl)
      · rw [if_neg c4] at h
        replace c4:=eqf c4
        obtain rfl:=Option.some.inj h
        exact Tri.of (x:=X12) mixed facts12 [A12_2,df,A12_3,.n 0,.rows (List.map e_i64_i64_u8_i64 []),.out (.st .normal (E12_0_0 x2.1 x2.2.1 x2.2.2.1 x2.2.2.2)),(A12_4 x2 x3),(A12_5 x2 x4),df,df,df,df,df,df,df,df,df,df,df] [⟨rF⟩,⟨rF⟩,⟨rF⟩,⟨rF⟩,⟨rF⟩,⟨rF⟩,⟨rF⟩,⟨rF⟩,⟨rF⟩,⟨c4⟩,⟨c4⟩,⟨(ok_site_Site_Get k 3 x2.1 x2.2.1 x2.2.2.1 x2.2.2.2 _ e3)⟩,⟨(ok_site_Site_Part k 1 x2.1 x2.2.1 x2.2.2.1 x2.2.2.2 _ e2)⟩,⟨(LT.block (ok_law10_alive_l0 _ k 0 [] [] ([]:Ty2) [] e0))⟩,⟨(take_all e_i64_i64_u8_i64 (l:=[]) (n:=0) rfl)⟩,⟨(rfl:0=0)⟩,⟨(zle 0)⟩,⟨rF⟩,⟨(ok_site_New)⟩] (by kernel_rfl)
    | inr x2 =>
      simp only [Sum.elim_inr] at h
      obtain rfl:=Option.some.inj h
      exact Tri.of (x:=X12) mixed facts12 [A12_2,df,A12_3,.n 0,.rows (List.map e_i64_i64_u8_i64 []),.out (.fin (.bool x2) [])] [⟨(LT.blockFin (id:=0) (ok_law10_alive_l0 _ k 0 [] [] ([]:Ty2) [] e0))⟩,⟨(take_all e_i64_i64_u8_i64 (l:=[]) (n:=0) rfl)⟩,⟨(rfl:0=0)⟩,⟨(zle 0)⟩,⟨rF⟩,⟨(ok_site_New)⟩] (by kernel_rfl)
end Go.Ws

namespace Go.Ws
open Go.Proofs
set_option linter.unusedSimpArgs false
set_option linter.unusedVariables false
set_option maxRecDepth 1000000
set_option maxHeartbeats 4000000
noncomputable def X19:Ctx:=⟨Try.f19,[],false⟩
noncomputable def L19_0:Code:=at_ Try.f19 [1,1,1,0,1,4,5]
def S19_0 (x1:Ty7) (v19001_1:Int) (v19001_2:Ty11) (v19001_3:Ty8) (v19001_4:Ty2) (v19001_5:Ty7):St:=⟨mkT 25 [(0,(.sl 4 (List.map e_i64_i64_u8_i64 x1))),(3,(.hp 0 0)),(4,(.int .i64 v19001_1))],[(.row [(.sl 2 (List.map e_u8_i64 v19001_2)),(.sl 3 (List.map e_u8_i64_b v19001_3)),(.mp 1),(.ref 4 2 0 0 v19001_5.length .virt)]),(.map (encM .i64 (fun y=>AV.agg (e_i64_Lu8i64E_b_i64 y)) v19001_4) v19001_4.length),(.arr 4 (List.map e_i64_i64_u8_i64 v19001_5) 0 0 false)]⟩
def E19_0_0 (v19002_1:Ty11) (v19002_2:Ty8) (v19002_3:Ty2) (v19002_4:Ty7):St:=⟨mkT 25 [(3,(.hp 0 0))],[(.row [(.sl 2 (List.map e_u8_i64 v19002_1)),(.sl 3 (List.map e_u8_i64_b v19002_2)),(.mp 1),(.ref 4 2 0 0 v19002_4.length .virt)]),(.map (encM .i64 (fun y=>AV.agg (e_i64_Lu8i64E_b_i64 y)) v19002_3) v19002_3.length),(.arr 4 (List.map e_i64_i64_u8_i64 v19002_4) 0 0 false)]⟩
def O19_0 (x1:Ty7) (y:(Ty11 × Ty8 × Ty2 × Ty7)):GX:=.st (.exit 0) (E19_0_0 y.1 y.2.1 y.2.2.1 y.2.2.2)
theorem ok_law10_played_l0 (x1:Ty7) (y:(Ty11 × Ty8 × Ty2 × Ty7)):∀ (k:Nat) (v19001_1:Int) (v19001_2:Ty11) (v19001_3:Ty8) (v19001_4:Ty2) (v19001_5:Ty7),law10_played_l0 k x1 v19001_1 v19001_2 v19001_3 v19001_4 v19001_5=some y→LT Try.prog X19 L19_0 (S19_0 x1 v19001_1 v19001_2 v19001_3 v19001_4 v19001_5) (O19_0 x1 y)
  | 0,v19001_1,v19001_2,v19001_3,v19001_4,v19001_5,h=>by cases h
  | k + 1,v19001_1,v19001_2,v19001_3,v19001_4,v19001_5,h=>by
    rw [law10_played_l0] at h
    by_cases cL0:ltI v19001_1 (nI x1.length)=true
    · rw [if_pos cL0] at h
      by_cases cL1:ltI v19001_1 120=true
      · rw [if_pos cL1] at h
        by_cases cL2:inI v19001_1 x1.length=true
        · rw [if_pos cL2] at h
          obtain ⟨v19000_1,eL3,h⟩:=Option.bind_eq_some_iff.1 h
          obtain ⟨v19000_2,eL4,h⟩:=Option.bind_eq_some_iff.1 h
          exact LT.next mixed (hs:=⟨[(0,[]),(3,[]),(4,[])],[⟨.tmp 3,[],none⟩,⟨.cell 0 2,[],none⟩,⟨.cell 0 3,[],some 4⟩],false,[],[]⟩) (es:=none) [.n x1.length,dt,dt,dt,dt,.n x1.length,.row [(.int .i64 v19000_1.1),(.int .i64 v19000_1.2.1),(.int .u8 v19000_1.2.2.1),(.int .i64 v19000_1.2.2.2)],.call ⟨true,[]⟩ (.tup [(.int .i64 v19000_2.2.1),(.int .i64 v19000_2.1)]) [(.row [(.sl 2 (List.map e_u8_i64 v19000_2.2.2.1)),(.sl 3 (List.map e_u8_i64_b v19000_2.2.2.2.1)),(.mp 1),(.ref 4 2 1 0 v19000_2.2.2.2.2.2.length .virt)]),(.map (encM .i64 (fun y=>AV.agg (e_i64_Lu8i64E_b_i64 y)) v19000_2.2.2.2.2.1) v19000_2.2.2.2.2.1.length),(.arr 4 (List.map e_i64_i64_u8_i64 v19000_2.2.2.2.2.2) 1 1 false)],.n v19000_2.2.2.2.2.2.length,.rows (List.map e_i64_i64_u8_i64 v19000_2.2.2.2.2.2)] [⟨(take_all e_i64_i64_u8_i64 (l:=v19000_2.2.2.2.2.2) (n:=v19000_2.2.2.2.2.2.length) rfl)⟩,⟨(rfl:v19000_2.2.2.2.2.2.length=v19000_2.2.2.2.2.2.length)⟩,⟨(zle v19000_2.2.2.2.2.2.length)⟩,⟨(ok_site_Site_Do_3 k v19000_1.1 v19000_1.2.1 v19000_1.2.2.1 v19000_1.2.2.2 v19001_2 v19001_3 v19001_4 v19001_5 _ eL4)⟩,⟨(cells_map (e:=e_i64_i64_u8_i64) eL3 4 0 4 (by decide))⟩,⟨cL2⟩,⟨(len_map e_i64_i64_u8_i64 x1)⟩,⟨cL1⟩,⟨cL0⟩,⟨cL0⟩,⟨cL0⟩,⟨(len_map e_i64_i64_u8_i64 x1)⟩] (by kernel_rfl) (ok_law10_played_l0 x1 y k (iadd .i64 v19001_1 1) v19000_2.2.2.1 v19000_2.2.2.2.1 v19000_2.2.2.2.2.1 v19000_2.2.2.2.2.2 h)
        · rw [if_neg cL2] at h
          replace cL2:=eqf cL2
          cases h
      · rw [if_neg cL1] at h
        replace cL1:=eqf cL1
        obtain rfl:=Option.some.inj h
        show LT _ _ _ _ (.st (.exit 0) (E19_0_0 v19001_2 v19001_3 v19001_4 v19001_5))
        exact LT.done mixed (hs:=⟨[],[],false,[],[]⟩) (es:=(some ⟨[(3,[])],[⟨.tmp 3,[],none⟩,⟨.cell 0 2,[],none⟩,⟨.cell 0 3,[],none⟩],false,[],[]⟩)) [.n x1.length,dt,dt,dt,df] [⟨cL1⟩,⟨cL0⟩,⟨cL0⟩,⟨cL0⟩,⟨(len_map e_i64_i64_u8_i64 x1)⟩] (by kernel_rfl) (fun s h=>by cases h)
    · rw [if_neg cL0] at h
      replace cL0:=eqf cL0
      obtain rfl:=Option.some.inj h
      show LT _ _ _ _ (.st (.exit 0) (E19_0_0 v19001_2 v19001_3 v19001_4 v19001_5))
      exact LT.done mixed (hs:=⟨[],[],false,[],[]⟩) (es:=(some ⟨[(3,[])],[⟨.tmp 3,[],none⟩,⟨.cell 0 2,[],none⟩,⟨.cell 0 3,[],none⟩],false,[],[]⟩)) [.n x1.length,df,df,df,df] [⟨rF⟩,⟨cL0⟩,⟨cL0⟩,⟨cL0⟩,⟨(len_map e_i64_i64_u8_i64 x1)⟩] (by kernel_rfl) (fun s h=>by cases h)
theorem ok_law10_played (k:Nat) (x1:Ty7) (r:Ty11 × Ty8 × Ty2 × Ty7) (h:law10_played k x1=some r):Tri Try.prog 19 [(.sl 4 (List.map e_i64_i64_u8_i64 x1))] [] (.hp 0 0) [(.row [(.sl 2 (List.map e_u8_i64 r.1)),(.sl 3 (List.map e_u8_i64_b r.2.1)),(.mp 1),(.ref 4 2 0 0 r.2.2.2.length .virt)]),(.map (encM .i64 (fun y=>AV.agg (e_i64_Lu8i64E_b_i64 y)) r.2.2.1) r.2.2.1.length),(.arr 4 (List.map e_i64_i64_u8_i64 r.2.2.2) 0 0 false)]:=by
    unfold law10_played at h
    obtain ⟨x3,e0,h⟩:=Option.bind_eq_some_iff.1 h
    obtain rfl:=Option.some.inj h
    exact Tri.of (x:=X19) mixed facts19 [.call ⟨true,[]⟩ (.hp 0 0) [(.row [.nils,.nils,(.mp 1),.nils]),(.map (encM .i64 (fun y=>AV.agg (e_i64_Lu8i64E_b_i64 y)) ([]:Ty2)) ([]:Ty2).length)],df,.norm 2 ⟨[(0,[]),(3,[]),(4,[])],[⟨.tmp 3,[(0,2),(1,3)],none⟩,⟨.cell 0 2,[],none⟩,⟨.cell 0 3,[],some 4⟩],false,[],[]⟩,.n 0,.rows (List.map e_i64_i64_u8_i64 []),.out (.st .normal (E19_0_0 x3.1 x3.2.1 x3.2.2.1 x3.2.2.2)),.norm 0 ⟨[(2,[])],[⟨.tmp 2,[],none⟩,⟨.cell 0 2,[],none⟩,⟨.cell 0 3,[],none⟩],false,[],[]⟩] [⟨(LT.block (ok_law10_played_l0 x1 _ k 0 [] [] ([]:Ty2) [] e0))⟩,⟨(take_all e_i64_i64_u8_i64 (l:=[]) (n:=0) rfl)⟩,⟨(rfl:0=0)⟩,⟨(zle 0)⟩,⟨rF⟩,⟨(ok_site_New)⟩] (by kernel_rfl)
end Go.Ws

namespace Go.Ws
open Go.Proofs
set_option linter.unusedSimpArgs false
set_option linter.unusedVariables false
set_option maxRecDepth 1000000
set_option maxHeartbeats 4000000
noncomputable def X4:Ctx:=⟨Try.f4,[],true⟩
noncomputable def L4_0:Code:=at_ Try.f4 [1,1,1,1,1,1,1,0,1,4,5]
def S4_0 (x2:Ty7) (x3:Int) (x4:Int) (x7:Int × Int × Ty11 × Ty8 × Ty2 × Ty7) (v4001_1:Int) (v4001_2:Ty11) (v4001_3:Ty8) (v4001_4:Ty2) (v4001_5:Ty7):St:=⟨mkT 93 [(1,(.sl 4 (List.map e_i64_i64_u8_i64 x2))),(7,(.hp 0 0)),(8,(.hp 1 0)),(9,(.int .i64 x7.2.1)),(11,(.int .i64 v4001_1))],[(.row [(.sl 2 (List.map e_u8_i64 v4001_2)),(.sl 3 (List.map e_u8_i64_b v4001_3)),(.mp 2),(.ref 4 3 0 0 v4001_5.length .virt)]),(.row [(.int .i64 2),(.int .i64 (conv .i64 x3)),(.int .u8 x4),(.int .i64 0)]),(.map (encM .i64 (fun y=>AV.agg (e_i64_Lu8i64E_b_i64 y)) v4001_4) v4001_4.length),(.arr 4 (List.map e_i64_i64_u8_i64 v4001_5) 0 0 false)]⟩
def E4_0_0 (x3:Int) (x4:Int) (x7:Int × Int × Ty11 × Ty8 × Ty2 × Ty7) (v4002_1:Ty11) (v4002_2:Ty8) (v4002_3:Ty2) (v4002_4:Ty7):St:=⟨mkT 93 [(7,(.hp 0 0)),(8,(.hp 1 0)),(9,(.int .i64 x7.2.1))],[(.row [(.sl 2 (List.map e_u8_i64 v4002_1)),(.sl 3 (List.map e_u8_i64_b v4002_2)),(.mp 2),(.ref 4 3 0 0 v4002_4.length .virt)]),(.row [(.int .i64 2),(.int .i64 (conv .i64 x3)),(.int .u8 x4),(.int .i64 0)]),(.map (encM .i64 (fun y=>AV.agg (e_i64_Lu8i64E_b_i64 y)) v4002_3) v4002_3.length),(.arr 4 (List.map e_i64_i64_u8_i64 v4002_4) 0 0 false)]⟩
def O4_0 (x2:Ty7) (x3:Int) (x4:Int) (x7:Int × Int × Ty11 × Ty8 × Ty2 × Ty7) (y:(Ty11 × Ty8 × Ty2 × Ty7)):GX:=.st (.exit 0) (E4_0_0 x3 x4 x7 y.1 y.2.1 y.2.2.1 y.2.2.2)
def A4_0 (v4000_1:Int × Int × Int × Int):Ans:=.row [(.int .i64 v4000_1.1),(.int .i64 v4000_1.2.1),(.int .u8 v4000_1.2.2.1),(.int .i64 v4000_1.2.2.2)]
def A4_1 (v4000_2:Int × Bool × Int × Ty11 × Bool) (v4001_2:Ty11) (v4001_3:Ty8) (v4001_4:Ty2) (v4001_5:Ty7):Ans:=.call ⟨true,[]⟩ (.tup [(.agg [(.int .i64 v4000_2.1),(.ref 2 3 0 0 v4000_2.2.2.2.1.length .virt),(.bool v4000_2.2.1),(.int .i64 v4000_2.2.2.1)]),(.bool v4000_2.2.2.2.2)]) [(.row [(.sl 2 (List.map e_u8_i64 v4001_2)),(.sl 3 (List.map e_u8_i64_b v4001_3)),(.mp 1),(.ref 4 2 0 0 v4001_5.length .virt)]),(.map (encM .i64 (fun y=>AV.agg (e_i64_Lu8i64E_b_i64 y)) v4001_4) v4001_4.length),(.arr 4 (List.map e_i64_i64_u8_i64 v4001_5) 0 0 false),(.arr 2 (List.map e_u8_i64 v4000_2.2.2.2.1) 0 0 false)]
def A4_2 (v4000_3:Int × Int × Ty11 × Ty8 × Ty2 × Ty7):Ans:=.call ⟨true,[]⟩ (.tup [(.int .i64 v4000_3.2.1),(.int .i64 v4000_3.1)]) [(.row [(.sl 2 (List.map e_u8_i64 v4000_3.2.2.1)),(.sl 3 (List.map e_u8_i64_b v4000_3.2.2.2.1)),(.mp 1),(.ref 4 2 1 0 v4000_3.2.2.2.2.2.length .virt)]),(.map (encM .i64 (fun y=>AV.agg (e_i64_Lu8i64E_b_i64 y)) v4000_3.2.2.2.2.1) v4000_3.2.2.2.2.1.length),(.arr 4 (List.map e_i64_i64_u8_i64 v4000_3.2.2.2.2.2) 1 1 false)]
def A4_3 (x6:Ty11 × Ty8 × Ty2 × Ty7):Ans:=.call ⟨true,[]⟩ (.hp 0 0) [(.row [(.sl 2 (List.map e_u8_i64 x6.1)),(.sl 3 (List.map e_u8_i64_b x6.2.1)),(.mp 1),(.ref 4 2 0 0 x6.2.2.2.length .virt)]),(.map (encM .i64 (fun y=>AV.agg (e_i64_Lu8i64E_b_i64 y)) x6.2.2.1) x6.2.2.1.length),(.arr 4 (List.map e_i64_i64_u8_i64 x6.2.2.2) 0 0 false)]
def A4_4 (x7:Int × Int × Ty11 × Ty8 × Ty2 × Ty7):Ans:=.call ⟨true,[]⟩ (.tup [(.int .i64 x7.2.1),(.int .i64 x7.1)]) [(.row [(.sl 2 (List.map e_u8_i64 x7.2.2.1)),(.sl 3 (List.map e_u8_i64_b x7.2.2.2.1)),(.mp 1),(.ref 4 2 1 0 x7.2.2.2.2.2.length .virt)]),(.map (encM .i64 (fun y=>AV.agg (e_i64_Lu8i64E_b_i64 y)) x7.2.2.2.2.1) x7.2.2.2.2.1.length),(.arr 4 (List.map e_i64_i64_u8_i64 x7.2.2.2.2.2) 1 1 false)]
def A4_5:Ans:=.norm 2 ⟨[(1,[]),(7,[]),(8,[]),(9,[]),(11,[])],[⟨.tmp 7,[],none⟩,⟨.tmp 8,[],none⟩,⟨.cell 0 2,[],none⟩,⟨.cell 0 3,[],none⟩],false,[],[]⟩
def A4_6 (x10:Int × Int × Ty11 × Ty8 × Ty2 × Ty7):Ans:=.call ⟨true,[]⟩ (.tup [(.int .i64 x10.2.1),(.int .i64 x10.1)]) [(.row [(.sl 2 (List.map e_u8_i64 x10.2.2.1)),(.sl 3 (List.map e_u8_i64_b x10.2.2.2.1)),(.mp 1),(.ref 4 2 1 0 x10.2.2.2.2.2.length .virt)]),(.map (encM .i64 (fun y=>AV.agg (e_i64_Lu8i64E_b_i64 y)) x10.2.2.2.2.1) x10.2.2.2.2.1.length),(.arr 4 (List.map e_i64_i64_u8_i64 x10.2.2.2.2.2) 1 1 false)]
theorem ok_law10_SiteReads_l0 (x2:Ty7) (x3:Int) (x4:Int) (x7:Int × Int × Ty11 × Ty8 × Ty2 × Ty7) (y:(Ty11 × Ty8 × Ty2 × Ty7)):∀ (k:Nat) (v4001_1:Int) (v4001_2:Ty11) (v4001_3:Ty8) (v4001_4:Ty2) (v4001_5:Ty7),law10_SiteReads_l0 k x2 x3 x4 x7 v4001_1 v4001_2 v4001_3 v4001_4 v4001_5=some y→LT Try.prog X4 L4_0 (S4_0 x2 x3 x4 x7 v4001_1 v4001_2 v4001_3 v4001_4 v4001_5) (O4_0 x2 x3 x4 x7 y)
  | 0,v4001_1,v4001_2,v4001_3,v4001_4,v4001_5,h=>by cases h
  | k + 1,v4001_1,v4001_2,v4001_3,v4001_4,v4001_5,h=>by
    rw [law10_SiteReads_l0] at h
    by_cases cL0:ltI v4001_1 (nI x2.length)=true
    · rw [if_pos cL0] at h
      by_cases cL1:ltI v4001_1 120=true
      · rw [if_pos cL1] at h
        by_cases cL2:inI v4001_1 x2.length=true
        · rw [if_pos cL2] at h
          obtain ⟨v4000_1,eL3,h⟩:=Option.bind_eq_some_iff.1 h
          obtain ⟨v4000_2,eL4,h⟩:=Option.bind_eq_some_iff.1 h
          by_cases cL5:eqI v4000_1.2.1 (conv .i64 x3)=true
          · rw [if_pos cL5] at h
            by_cases cL6:eqI v4000_1.1 2=true
            · rw [if_pos cL6] at h
              by_cases cL7:eqI v4000_1.1 6=true
              · rw [if_pos cL7] at h
                by_cases cL8:v4000_2.2.1=true
                · rw [if_pos cL8] at h
                  exact LT.next mixed (hs:=⟨[(1,[]),(7,[]),(8,[]),(9,[]),(11,[])],[⟨.tmp 7,[],none⟩,⟨.tmp 8,[],none⟩,⟨.cell 0 2,[],none⟩,⟨.cell 0 3,[],none⟩],false,[],[]⟩) (es:=none) [.n x2.length,dt,dt,dt,dt,.n x2.length,(A4_0 v4000_1),(A4_1 v4000_2 v4001_2 v4001_3 v4001_4 v4001_5),dt,dt,dt,dt,df,df,df,df,dt,dt,df,dt,df,dt] [⟨cL8⟩,⟨(nF cL6)⟩,⟨cL7⟩,⟨(nF cL6)⟩,⟨cL7⟩,⟨cL7⟩,⟨(nF cL6)⟩,⟨(nF cL6)⟩,⟨(nF cL6)⟩,⟨(nF cL6)⟩,⟨cL5⟩,⟨cL5⟩,⟨cL5⟩,⟨cL5⟩,⟨(ok_site_Site_Part k v4000_1.2.1 v4001_2 v4001_3 v4001_4 v4001_5 _ eL4)⟩,⟨(cells_map (e:=e_i64_i64_u8_i64) eL3 4 0 4 (by decide))⟩,⟨cL2⟩,⟨(len_map e_i64_i64_u8_i64 x2)⟩,⟨cL1⟩,⟨cL0⟩,⟨cL0⟩,⟨cL0⟩,⟨(len_map e_i64_i64_u8_i64 x2)⟩] (by kernel_rfl) (ok_law10_SiteReads_l0 x2 x3 x4 x7 y k (iadd .i64 v4001_1 1) v4001_2 v4001_3 v4001_4 v4001_5 h)
                · rw [if_neg cL8] at h
                  replace cL8:=eqf cL8
                  obtain ⟨v4000_3,eL9,h⟩:=Option.bind_eq_some_iff.1 h
                  exact LT.next mixed (hs:=⟨[(1,[]),(7,[]),(8,[]),(9,[]),(11,[])],[⟨.tmp 7,[],none⟩,⟨.tmp 8,[],none⟩,⟨.cell 0 2,[],none⟩,⟨.cell 0 3,[],none⟩],false,[],[]⟩) (es:=none) [.n x2.length,dt,dt,dt,dt,.n x2.length,(A4_0 v4000_1),(A4_1 v4000_2 v4001_2 v4001_3 v4001_4 v4001_5),dt,dt,dt,dt,df,df,df,df,dt,dt,df,dt,df,df,(A4_2 v4000_3)] [⟨(ok_site_Site_Do_3 k v4000_1.1 v4000_1.2.1 v4000_1.2.2.1 v4000_1.2.2.2 v4001_2 v4001_3 v4001_4 v4001_5 _ eL9)⟩,⟨cL8⟩,⟨(nF cL6)⟩,⟨cL7⟩,⟨(nF cL6)⟩,⟨cL7⟩,⟨cL7⟩,⟨(nF cL6)⟩,⟨(nF cL6)⟩,⟨(nF cL6)⟩,⟨(nF cL6)⟩,⟨cL5⟩,⟨cL5⟩,⟨cL5⟩,⟨cL5⟩,⟨(ok_site_Site_Part k v4000_1.2.1 v4001_2 v4001_3 v4001_4 v4001_5 _ eL4)⟩,⟨(cells_map (e:=e_i64_i64_u8_i64) eL3 4 0 4 (by decide))⟩,⟨cL2⟩,⟨(len_map e_i64_i64_u8_i64 x2)⟩,⟨cL1⟩,⟨cL0⟩,⟨cL0⟩,⟨cL0⟩,⟨(len_map e_i64_i64_u8_i64 x2)⟩] (by kernel_rfl) (ok_law10_SiteReads_l0 x2 x3 x4 x7 y k (iadd .i64 v4001_1 1) v4000_3.2.2.1 v4000_3.2.2.2.1 v4000_3.2.2.2.2.1 v4000_3.2.2.2.2.2 h)
              · rw [if_neg cL7] at h
                replace cL7:=eqf cL7
                obtain ⟨v4000_3,eL8,h⟩:=Option.bind_eq_some_iff.1 h
                exact LT.next mixed (hs:=⟨[(1,[]),(7,[]),(8,[]),(9,[]),(11,[])],[⟨.tmp 7,[],none⟩,⟨.tmp 8,[],none⟩,⟨.cell 0 2,[],none⟩,⟨.cell 0 3,[],none⟩],false,[],[]⟩) (es:=none) [.n x2.length,dt,dt,dt,dt,.n x2.length,(A4_0 v4000_1),(A4_1 v4000_2 v4001_2 v4001_3 v4001_4 v4001_5),dt,dt,dt,dt,df,df,df,df,df,df,df,df,df,df,(A4_2 v4000_3)] [⟨(ok_site_Site_Do_3 k v4000_1.1 v4000_1.2.1 v4000_1.2.2.1 v4000_1.2.2.2 v4001_2 v4001_3 v4001_4 v4001_5 _ eL8)⟩,⟨rF⟩,⟨(nF cL6)⟩,⟨cL7⟩,⟨(nF cL6)⟩,⟨cL7⟩,⟨cL7⟩,⟨(nF cL6)⟩,⟨(nF cL6)⟩,⟨(nF cL6)⟩,⟨(nF cL6)⟩,⟨cL5⟩,⟨cL5⟩,⟨cL5⟩,⟨cL5⟩,⟨(ok_site_Site_Part k v4000_1.2.1 v4001_2 v4001_3 v4001_4 v4001_5 _ eL4)⟩,⟨(cells_map (e:=e_i64_i64_u8_i64) eL3 4 0 4 (by decide))⟩,⟨cL2⟩,⟨(len_map e_i64_i64_u8_i64 x2)⟩,⟨cL1⟩,⟨cL0⟩,⟨cL0⟩,⟨cL0⟩,⟨(len_map e_i64_i64_u8_i64 x2)⟩] (by kernel_rfl) (ok_law10_SiteReads_l0 x2 x3 x4 x7 y k (iadd .i64 v4001_1 1) v4000_3.2.2.1 v4000_3.2.2.2.1 v4000_3.2.2.2.2.1 v4000_3.2.2.2.2.2 h)
            · rw [if_neg cL6] at h
              replace cL6:=eqf cL6
              exact LT.next mixed (hs:=⟨[(1,[]),(7,[]),(8,[]),(9,[]),(11,[])],[⟨.tmp 7,[],none⟩,⟨.tmp 8,[],none⟩,⟨.cell 0 2,[],none⟩,⟨.cell 0 3,[],none⟩],false,[],[]⟩) (es:=none) [.n x2.length,dt,dt,dt,dt,.n x2.length,(A4_0 v4000_1),(A4_1 v4000_2 v4001_2 v4001_3 v4001_4 v4001_5),dt,dt,dt,dt,dt,dt,dt,dt,dt,dt,dt] [⟨rT⟩,⟨(nT cL6)⟩,⟨(nT cL6)⟩,⟨(nT cL6)⟩,⟨(nT cL6)⟩,⟨(nT cL6)⟩,⟨(nT cL6)⟩,⟨cL5⟩,⟨cL5⟩,⟨cL5⟩,⟨cL5⟩,⟨(ok_site_Site_Part k v4000_1.2.1 v4001_2 v4001_3 v4001_4 v4001_5 _ eL4)⟩,⟨(cells_map (e:=e_i64_i64_u8_i64) eL3 4 0 4 (by decide))⟩,⟨cL2⟩,⟨(len_map e_i64_i64_u8_i64 x2)⟩,⟨cL1⟩,⟨cL0⟩,⟨cL0⟩,⟨cL0⟩,⟨(len_map e_i64_i64_u8_i64 x2)⟩] (by kernel_rfl) (ok_law10_SiteReads_l0 x2 x3 x4 x7 y k (iadd .i64 v4001_1 1) v4001_2 v4001_3 v4001_4 v4001_5 h)
          · rw [if_neg cL5] at h
            replace cL5:=eqf cL5
            by_cases cL6:eqI v4000_1.1 6=true
            · rw [if_pos cL6] at h
              by_cases cL7:v4000_2.2.1=true
              · rw [if_pos cL7] at h
                exact LT.next mixed (hs:=⟨[(1,[]),(7,[]),(8,[]),(9,[]),(11,[])],[⟨.tmp 7,[],none⟩,⟨.tmp 8,[],none⟩,⟨.cell 0 2,[],none⟩,⟨.cell 0 3,[],none⟩],false,[],[]⟩) (es:=none) [.n x2.length,dt,dt,dt,dt,.n x2.length,(A4_0 v4000_1),(A4_1 v4000_2 v4001_2 v4001_3 v4001_4 v4001_5),df,df,df,df,df,df,df,df,dt,dt,df,dt,df,dt] [⟨cL7⟩,⟨rF⟩,⟨cL6⟩,⟨rF⟩,⟨cL6⟩,⟨cL6⟩,⟨rF⟩,⟨rF⟩,⟨rF⟩,⟨rF⟩,⟨cL5⟩,⟨cL5⟩,⟨cL5⟩,⟨cL5⟩,⟨(ok_site_Site_Part k v4000_1.2.1 v4001_2 v4001_3 v4001_4 v4001_5 _ eL4)⟩,⟨(cells_map (e:=e_i64_i64_u8_i64) eL3 4 0 4 (by decide))⟩,⟨cL2⟩,⟨(len_map e_i64_i64_u8_i64 x2)⟩,⟨cL1⟩,⟨cL0⟩,⟨cL0⟩,⟨cL0⟩,⟨(len_map e_i64_i64_u8_i64 x2)⟩] (by kernel_rfl) (ok_law10_SiteReads_l0 x2 x3 x4 x7 y k (iadd .i64 v4001_1 1) v4001_2 v4001_3 v4001_4 v4001_5 h)
              · rw [if_neg cL7] at h
                replace cL7:=eqf cL7
                obtain ⟨v4000_3,eL8,h⟩:=Option.bind_eq_some_iff.1 h
                exact LT.next mixed (hs:=⟨[(1,[]),(7,[]),(8,[]),(9,[]),(11,[])],[⟨.tmp 7,[],none⟩,⟨.tmp 8,[],none⟩,⟨.cell 0 2,[],none⟩,⟨.cell 0 3,[],none⟩],false,[],[]⟩) (es:=none) [.n x2.length,dt,dt,dt,dt,.n x2.length,(A4_0 v4000_1),(A4_1 v4000_2 v4001_2 v4001_3 v4001_4 v4001_5),df,df,df,df,df,df,df,df,dt,dt,df,dt,df,df,(A4_2 v4000_3)] [⟨(ok_site_Site_Do_3 k v4000_1.1 v4000_1.2.1 v4000_1.2.2.1 v4000_1.2.2.2 v4001_2 v4001_3 v4001_4 v4001_5 _ eL8)⟩,⟨cL7⟩,⟨rF⟩,⟨cL6⟩,⟨rF⟩,⟨cL6⟩,⟨cL6⟩,⟨rF⟩,⟨rF⟩,⟨rF⟩,⟨rF⟩,⟨cL5⟩,⟨cL5⟩,⟨cL5⟩,⟨cL5⟩,⟨(ok_site_Site_Part k v4000_1.2.1 v4001_2 v4001_3 v4001_4 v4001_5 _ eL4)⟩,⟨(cells_map (e:=e_i64_i64_u8_i64) eL3 4 0 4 (by decide))⟩,⟨cL2⟩,⟨(len_map e_i64_i64_u8_i64 x2)⟩,⟨cL1⟩,⟨cL0⟩,⟨cL0⟩,⟨cL0⟩,⟨(len_map e_i64_i64_u8_i64 x2)⟩] (by kernel_rfl) (ok_law10_SiteReads_l0 x2 x3 x4 x7 y k (iadd .i64 v4001_1 1) v4000_3.2.2.1 v4000_3.2.2.2.1 v4000_3.2.2.2.2.1 v4000_3.2.2.2.2.2 h)
            · rw [if_neg cL6] at h
              replace cL6:=eqf cL6
              obtain ⟨v4000_3,eL7,h⟩:=Option.bind_eq_some_iff.1 h
              exact LT.next mixed (hs:=⟨[(1,[]),(7,[]),(8,[]),(9,[]),(11,[])],[⟨.tmp 7,[],none⟩,⟨.tmp 8,[],none⟩,⟨.cell 0 2,[],none⟩,⟨.cell 0 3,[],none⟩],false,[],[]⟩) (es:=none) [.n x2.length,dt,dt,dt,dt,.n x2.length,(A4_0 v4000_1),(A4_1 v4000_2 v4001_2 v4001_3 v4001_4 v4001_5),df,df,df,df,df,df,df,df,df,df,df,df,df,df,(A4_2 v4000_3)] [⟨(ok_site_Site_Do_3 k v4000_1.1 v4000_1.2.1 v4000_1.2.2.1 v4000_1.2.2.2 v4001_2 v4001_3 v4001_4 v4001_5 _ eL7)⟩,⟨rF⟩,⟨rF⟩,⟨cL6⟩,⟨rF⟩,⟨cL6⟩,⟨cL6⟩,⟨rF⟩,⟨rF⟩,⟨rF⟩,⟨rF⟩,⟨cL5⟩,⟨cL5⟩,⟨cL5⟩,⟨cL5⟩,⟨(ok_site_Site_Part k v4000_1.2.1 v4001_2 v4001_3 v4001_4 v4001_5 _ eL4)⟩,⟨(cells_map (e:=e_i64_i64_u8_i64) eL3 4 0 4 (by decide))⟩,⟨cL2⟩,⟨(len_map e_i64_i64_u8_i64 x2)⟩,⟨cL1⟩,⟨cL0⟩,⟨cL0⟩,⟨cL0⟩,⟨(len_map e_i64_i64_u8_i64 x2)⟩] (by kernel_rfl) (ok_law10_SiteReads_l0 x2 x3 x4 x7 y k (iadd .i64 v4001_1 1) v4000_3.2.2.1 v4000_3.2.2.2.1 v4000_3.2.2.2.2.1 v4000_3.2.2.2.2.2 h)
        · rw [if_neg cL2] at h
          replace cL2:=eqf cL2
          cases h
      · rw [if_neg cL1] at h
        replace cL1:=eqf cL1
        obtain rfl:=Option.some.inj h
        show LT _ _ _ _ (.st (.exit 0) (E4_0_0 x3 x4 x7 v4001_2 v4001_3 v4001_4 v4001_5))
        exact LT.done mixed (hs:=⟨[],[],false,[],[]⟩) (es:=(some ⟨[(7,[]),(8,[]),(9,[])],[⟨.tmp 7,[],none⟩,⟨.tmp 8,[],none⟩,⟨.cell 0 2,[],none⟩,⟨.cell 0 3,[],none⟩],false,[],[]⟩)) [.n x2.length,dt,dt,dt,df] [⟨cL1⟩,⟨cL0⟩,⟨cL0⟩,⟨cL0⟩,⟨(len_map e_i64_i64_u8_i64 x2)⟩] (by kernel_rfl) (fun s h=>by cases h)
    · rw [if_neg cL0] at h
      replace cL0:=eqf cL0
      obtain rfl:=Option.some.inj h
      show LT _ _ _ _ (.st (.exit 0) (E4_0_0 x3 x4 x7 v4001_2 v4001_3 v4001_4 v4001_5))
      exact LT.done mixed (hs:=⟨[],[],false,[],[]⟩) (es:=(some ⟨[(7,[]),(8,[]),(9,[])],[⟨.tmp 7,[],none⟩,⟨.tmp 8,[],none⟩,⟨.cell 0 2,[],none⟩,⟨.cell 0 3,[],none⟩],false,[],[]⟩)) [.n x2.length,df,df,df,df] [⟨rF⟩,⟨cL0⟩,⟨cL0⟩,⟨cL0⟩,⟨(len_map e_i64_i64_u8_i64 x2)⟩] (by kernel_rfl) (fun s h=>by cases h)
theorem ok_law10_SiteReads (k:Nat) (x1:Ty7) (x2:Ty7) (x3:Int) (x4:Int) (r:Bool) (h:law10_SiteReads k x1 x2 x3 x4=some r):Tri Try.prog 4 [(.sl 4 (List.map e_i64_i64_u8_i64 x1)),(.sl 4 (List.map e_i64_i64_u8_i64 x2)),(.agg [(.int .u8 x3),(.int .u8 x4)])] [] (.bool r) []:=by
    unfold law10_SiteReads at h
    obtain ⟨x5,e0,h⟩:=Option.bind_eq_some_iff.1 h
    by_cases c1:x5=true
    · rw [if_pos c1] at h
      obtain ⟨x6,e2,h⟩:=Option.bind_eq_some_iff.1 h
      obtain ⟨x7,e3,h⟩:=Option.bind_eq_some_iff.1 h
      by_cases c4:eqI x7.1 0=true
      · rw [if_pos c4] at h
        obtain ⟨x9,e5,h⟩:=Option.bind_eq_some_iff.1 h
        obtain ⟨x10,e7,h⟩:=Option.bind_eq_some_iff.1 h
        by_cases c8:eqI x10.1 0=true
        · rw [if_pos c8] at h
          obtain rfl:=Option.some.inj h
          exact Tri.of (x:=X4) mixed facts4 [.call ⟨true,[]⟩ (.bool x5) [],df,(A4_3 x6),df,(A4_4 x7),df,A4_5,.out (.st .normal (E4_0_0 x3 x4 x7 x9.1 x9.2.1 x9.2.2.1 x9.2.2.2)),(A4_6 x10),dt,dt,dt,dt] [⟨c8⟩,⟨c8⟩,⟨c8⟩,⟨c8⟩,⟨(ok_site_Site_Do_3 k 2 (conv .i64 x3) x4 0 x9.1 x9.2.1 x9.2.2.1 x9.2.2.2 _ e7)⟩,⟨(LT.block (ok_law10_SiteReads_l0 x2 x3 x4 x7 _ k 0 x7.2.2.1 x7.2.2.2.1 x7.2.2.2.2.1 x7.2.2.2.2.2 e5))⟩,⟨(nF c4)⟩,⟨(ok_site_Site_Do_3 k 2 (conv .i64 x3) x4 0 x6.1 x6.2.1 x6.2.2.1 x6.2.2.2 _ e3)⟩,⟨rF⟩,⟨(ok_law10_played k x1 _ e2)⟩,⟨(nF c1)⟩,⟨(ok_law10_alive k _ e0)⟩] (by kernel_rfl)
        · rw [if_neg c8] at h
          replace c8:=eqf c8
          obtain rfl:=Option.some.inj h
          exact Tri.of (x:=X4) mixed facts4 [.call ⟨true,[]⟩ (.bool x5) [],df,(A4_3 x6),df,(A4_4 x7),df,A4_5,.out (.st .normal (E4_0_0 x3 x4 x7 x9.1 x9.2.1 x9.2.2.1 x9.2.2.2)),(A4_6 x10),df,df,df,df] [⟨c8⟩,⟨c8⟩,⟨c8⟩,⟨c8⟩,⟨(ok_site_Site_Do_3 k 2 (conv .i64 x3) x4 0 x9.1 x9.2.1 x9.2.2.1 x9.2.2.2 _ e7)⟩,⟨(LT.block (ok_law10_SiteReads_l0 x2 x3 x4 x7 _ k 0 x7.2.2.1 x7.2.2.2.1 x7.2.2.2.2.1 x7.2.2.2.2.2 e5))⟩,⟨(nF c4)⟩,⟨(ok_site_Site_Do_3 k 2 (conv .i64 x3) x4 0 x6.1 x6.2.1 x6.2.2.1 x6.2.2.2 _ e3)⟩,⟨rF⟩,⟨(ok_law10_played k x1 _ e2)⟩,⟨(nF c1)⟩,⟨(ok_law10_alive k _ e0)⟩] (by kernel_rfl)
      · rw [if_neg c4] at h
        replace c4:=eqf c4
        obtain rfl:=Option.some.inj h
        exact Tri.of (x:=X4) mixed facts4 [.call ⟨true,[]⟩ (.bool x5) [],df,(A4_3 x6),df,(A4_4 x7),dt] [⟨(nT c4)⟩,⟨(ok_site_Site_Do_3 k 2 (conv .i64 x3) x4 0 x6.1 x6.2.1 x6.2.2.1 x6.2.2.2 _ e3)⟩,⟨rF⟩,⟨(ok_law10_played k x1 _ e2)⟩,⟨(nF c1)⟩,⟨(ok_law10_alive k _ e0)⟩] (by kernel_rfl)
    · rw [if_neg c1] at h
      replace c1:=eqf c1
      obtain rfl:=Option.some.inj h
      exact Tri.of (x:=X4) mixed facts4 [.call ⟨true,[]⟩ (.bool x5) [],dt] [⟨(nT c1)⟩,⟨(ok_law10_alive k _ e0)⟩] (by kernel_rfl)
end Go.Ws
