/-
  Walks, merged.
  Conditions: none.
-/
import Derived.Test.YtojldadifhneeaaZPre
import Derived.Test.YtojldadifhneeaaZPure
import Derived.Test.YtojldadifhneeaaZIns67
import Derived.Test.YtojldadifhneeaaZDel74
import Derived.Test.YtojldadifhneeaaZIns73
import Derived.Test.YtojldadifhneeaaZOppI
set_option linter.unusedVariables false
set_option linter.unusedSimpArgs false
namespace Go.Ws
open Go.Proofs
set_option linter.unusedSimpArgs false
set_option linter.unusedVariables false
set_option maxRecDepth 1000000
set_option maxHeartbeats 4000000
noncomputable def X62_1001:Ctx:=⟨Try.f62,[],false⟩
theorem ok_slices_Clone_1001 (k:Nat) (x1:Ty12) (r:Unit) (h:slices_Clone_1001 k x1=some r):Tri Try.prog 62 [(.inl 3 (List.map e_u8_i64_b x1))] [] (.ref 3 0 0 0 x1.length .virt) [(.arr 3 (List.map e_u8_i64_b x1) 0 0 false)]:=by
 unfold slices_Clone_1001 at h
 by_cases c0:roomI (x1.length*24)=true
 · rw[if_pos c0] at h
   obtain rfl:=osi h
   exact Tri.of (x:=X62_1001) mixed facts62 [df,.n x1.length,.norm 0 ⟨[(2,[])],[⟨.tmp 2,[],some 3⟩],false,[],[]⟩,.n x1.length,.rows (List.map e_u8_i64_b x1)] [⟨(take_all e_u8_i64_b (l:=x1) (n:=x1.length) rfl)⟩,⟨(rfl:x1.length=x1.length)⟩,⟨(zle x1.length)⟩,⟨c0⟩,⟨(len_map e_u8_i64_b x1)⟩,⟨rF⟩] (by kernel_rfl)
 rw[if_neg c0] at h;replace c0:=eqf c0
 cases h
end Go.Ws

namespace Go.Ws
open Go.Proofs
set_option linter.unusedSimpArgs false
set_option linter.unusedVariables false
set_option maxRecDepth 1000000
set_option maxHeartbeats 4000000
noncomputable def X62_1002:Ctx:=⟨Try.f62,[],false⟩
theorem ok_slices_Clone_1002:Tri Try.prog 62 [.nils] [] (.ref 3 0 0 0 0 .virt) [(.arr 3 (List.map e_u8_i64_b []) 0 0 false)]:=by
 obtain⟨r,h⟩:∃r,slices_Clone_1002=r:=⟨_,rfl⟩
 try rw[h]
 unfold slices_Clone_1002 at h
 obtain rfl:=h
 exact Tri.of (x:=X62_1002) mixed facts62 [dt,.norm 0 ⟨[(2,[])],[⟨.tmp 2,[],some 3⟩],false,[],[]⟩,.n 0,.rows (List.map e_u8_i64_b [])] [⟨(take_all e_u8_i64_b (l:=[]) (n:=0) rfl)⟩,⟨(rfl:0=0)⟩,⟨(zle 0)⟩,⟨rT⟩] (by kernel_rfl)
end Go.Ws

namespace Go.Ws
open Go.Proofs
set_option linter.unusedSimpArgs false
set_option linter.unusedVariables false
set_option maxRecDepth 1000000
set_option maxHeartbeats 4000000
theorem ok_slices_Clone (k:Nat) (x1:Ty12) (r:Unit) (h:slices_Clone k x1=some r):Tri Try.prog 62 [(.sl 3 (List.map e_u8_i64_b x1))] [] (.ref 3 0 0 0 x1.length .virt) [(.arr 3 (List.map e_u8_i64_b x1) 0 0 false)]:=by
 refine Tri.slOf (ok_slices_Clone_1001 k x1 r h) fun h0=>?_
 have hx:x1=[]:=by simpa using h0
 subst hx
 exact ok_slices_Clone_1002
end Go.Ws

namespace Go.Ws
open Go.Proofs
set_option linter.unusedSimpArgs false
set_option linter.unusedVariables false
set_option maxRecDepth 1000000
set_option maxHeartbeats 4000000
noncomputable def X64:Ctx:=⟨Try.f64,[],true⟩
theorem ok_lock_may (x1:Int) (x2:Int):Tri Try.prog 64 [(.int .i64 x1),(.int .u8 x2)] [] (.bool (lock_may x1 x2)) []:=by
 obtain⟨r,h⟩:∃r,lock_may x1 x2=r:=⟨_,rfl⟩
 try rw[h]
 unfold lock_may at h
 by_cases c0:ltI x2 64=true
 · rw[if_pos c0] at h
   by_cases c1:ltI x1 0=true
   · rw[if_pos c1] at h
     obtain rfl:=h
     exact Tri.of (x:=X64) mixed facts64 [dt,dt,dt,df,df,df] [⟨(nF c1)⟩,⟨(nF c1)⟩,⟨(nF c1)⟩,⟨c0⟩,⟨c0⟩,⟨c0⟩] (by kernel_rfl)
   rw[if_neg c1] at h;replace c1:=eqf c1
   obtain rfl:=h
   exact Tri.of (x:=X64) mixed facts64 [dt,dt,dt,dt,dt,dt] [⟨(nT c1)⟩,⟨(nT c1)⟩,⟨(nT c1)⟩,⟨c0⟩,⟨c0⟩,⟨c0⟩] (by kernel_rfl)
 rw[if_neg c0] at h;replace c0:=eqf c0
 obtain rfl:=h
 exact Tri.of (x:=X64) mixed facts64 [df,df,df,df,df,df] [⟨rF⟩,⟨rF⟩,⟨rF⟩,⟨c0⟩,⟨c0⟩,⟨c0⟩] (by kernel_rfl)
end Go.Ws

namespace Go.Ws
open Go.Proofs
set_option linter.unusedSimpArgs false
set_option linter.unusedVariables false
set_option maxRecDepth 1000000
set_option maxHeartbeats 4000000
noncomputable def X95:Ctx:=⟨Try.f95,[],true⟩
theorem ok_cmp_isNaN (x1:Int):Tri Try.prog 95 [(.int .u8 x1)] [] (.bool (cmp_isNaN x1)) []:=by
 obtain⟨r,h⟩:∃r,cmp_isNaN x1=r:=⟨_,rfl⟩
 try rw[h]
 unfold cmp_isNaN at h
 obtain rfl:=h
 exact Tri.of (x:=X95) mixed facts95 [] [] (by kernel_rfl)
end Go.Ws

namespace Go.Ws
open Go.Proofs
set_option linter.unusedSimpArgs false
set_option linter.unusedVariables false
set_option maxRecDepth 1000000
set_option maxHeartbeats 4000000
noncomputable def X85:Ctx:=⟨Try.f85,[],true⟩
def A85_0 (x1:Int):Ans:=.call ⟨true,[]⟩ (.bool (cmp_isNaN x1)) []
def A85_1 (x2:Int):Ans:=.call ⟨true,[]⟩ (.bool (cmp_isNaN x2)) []
theorem ok_cmp_Compare (x1:Int) (x2:Int):Tri Try.prog 85 [(.int .u8 x1),(.int .u8 x2)] [] (.int .i64 (cmp_Compare x1 x2)) []:=by
 obtain⟨r,h⟩:∃r,cmp_Compare x1 x2=r:=⟨_,rfl⟩
 try rw[h]
 unfold cmp_Compare at h
 by_cases c0:(cmp_isNaN x1)=true
 · rw[if_pos c0] at h
   by_cases c1:(cmp_isNaN x2)=true
   · rw[if_pos c1] at h
     obtain rfl:=h
     exact Tri.of (x:=X85) mixed facts85 [(A85_0 x1),(A85_1 x2),dt,dt] [⟨c1⟩,⟨c0⟩,⟨(ok_cmp_isNaN x2)⟩,⟨(ok_cmp_isNaN x1)⟩] (by kernel_rfl)
   rw[if_neg c1] at h;replace c1:=eqf c1
   obtain rfl:=h
   exact Tri.of (x:=X85) mixed facts85 [(A85_0 x1),(A85_1 x2),dt,df] [⟨c1⟩,⟨c0⟩,⟨(ok_cmp_isNaN x2)⟩,⟨(ok_cmp_isNaN x1)⟩] (by kernel_rfl)
 rw[if_neg c0] at h;replace c0:=eqf c0
 by_cases c1:(cmp_isNaN x2)=true
 · rw[if_pos c1] at h
   obtain rfl:=h
   exact Tri.of (x:=X85) mixed facts85 [(A85_0 x1),(A85_1 x2),df,dt] [⟨c1⟩,⟨c0⟩,⟨(ok_cmp_isNaN x2)⟩,⟨(ok_cmp_isNaN x1)⟩] (by kernel_rfl)
 rw[if_neg c1] at h;replace c1:=eqf c1
 by_cases c2:ltI x1 x2=true
 · rw[if_pos c2] at h
   obtain rfl:=h
   exact Tri.of (x:=X85) mixed facts85 [(A85_0 x1),(A85_1 x2),df,df,dt] [⟨c2⟩,⟨c1⟩,⟨c0⟩,⟨(ok_cmp_isNaN x2)⟩,⟨(ok_cmp_isNaN x1)⟩] (by kernel_rfl)
 rw[if_neg c2] at h;replace c2:=eqf c2
 by_cases c3:ltI x2 x1=true
 · rw[if_pos c3] at h
   obtain rfl:=h
   exact Tri.of (x:=X85) mixed facts85 [(A85_0 x1),(A85_1 x2),df,df,df,dt] [⟨c3⟩,⟨c2⟩,⟨c1⟩,⟨c0⟩,⟨(ok_cmp_isNaN x2)⟩,⟨(ok_cmp_isNaN x1)⟩] (by kernel_rfl)
 rw[if_neg c3] at h;replace c3:=eqf c3
 obtain rfl:=h
 exact Tri.of (x:=X85) mixed facts85 [(A85_0 x1),(A85_1 x2),df,df,df,df] [⟨c3⟩,⟨c2⟩,⟨c1⟩,⟨c0⟩,⟨(ok_cmp_isNaN x2)⟩,⟨(ok_cmp_isNaN x1)⟩] (by kernel_rfl)
end Go.Ws

namespace Go.Ws
open Go.Proofs
set_option linter.unusedSimpArgs false
set_option linter.unusedVariables false
set_option maxRecDepth 1000000
set_option maxHeartbeats 4000000
noncomputable def X96:Ctx:=⟨Try.f96,[],true⟩
theorem ok_cmp_isNaN_96 (x1:Int):Tri Try.prog 96 [(.int .i64 x1)] [] (.bool (cmp_isNaN_96 x1)) []:=by
 obtain⟨r,h⟩:∃r,cmp_isNaN_96 x1=r:=⟨_,rfl⟩
 try rw[h]
 unfold cmp_isNaN_96 at h
 obtain rfl:=h
 exact Tri.of (x:=X96) mixed facts96 [] [] (by kernel_rfl)
end Go.Ws

namespace Go.Ws
open Go.Proofs
set_option linter.unusedSimpArgs false
set_option linter.unusedVariables false
set_option maxRecDepth 1000000
set_option maxHeartbeats 4000000
noncomputable def X86:Ctx:=⟨Try.f86,[],true⟩
def A86_0 (x1:Int):Ans:=.call ⟨true,[]⟩ (.bool (cmp_isNaN_96 x1)) []
def A86_1 (x2:Int):Ans:=.call ⟨true,[]⟩ (.bool (cmp_isNaN_96 x2)) []
theorem ok_cmp_Compare_86 (x1:Int) (x2:Int):Tri Try.prog 86 [(.int .i64 x1),(.int .i64 x2)] [] (.int .i64 (cmp_Compare_86 x1 x2)) []:=by
 obtain⟨r,h⟩:∃r,cmp_Compare_86 x1 x2=r:=⟨_,rfl⟩
 try rw[h]
 unfold cmp_Compare_86 at h
 by_cases c0:(cmp_isNaN_96 x1)=true
 · rw[if_pos c0] at h
   by_cases c1:(cmp_isNaN_96 x2)=true
   · rw[if_pos c1] at h
     obtain rfl:=h
     exact Tri.of (x:=X86) mixed facts86 [(A86_0 x1),(A86_1 x2),dt,dt] [⟨c1⟩,⟨c0⟩,⟨(ok_cmp_isNaN_96 x2)⟩,⟨(ok_cmp_isNaN_96 x1)⟩] (by kernel_rfl)
   rw[if_neg c1] at h;replace c1:=eqf c1
   obtain rfl:=h
   exact Tri.of (x:=X86) mixed facts86 [(A86_0 x1),(A86_1 x2),dt,df] [⟨c1⟩,⟨c0⟩,⟨(ok_cmp_isNaN_96 x2)⟩,⟨(ok_cmp_isNaN_96 x1)⟩] (by kernel_rfl)
 rw[if_neg c0] at h;replace c0:=eqf c0
 by_cases c1:(cmp_isNaN_96 x2)=true
 · rw[if_pos c1] at h
   obtain rfl:=h
   exact Tri.of (x:=X86) mixed facts86 [(A86_0 x1),(A86_1 x2),df,dt] [⟨c1⟩,⟨c0⟩,⟨(ok_cmp_isNaN_96 x2)⟩,⟨(ok_cmp_isNaN_96 x1)⟩] (by kernel_rfl)
 rw[if_neg c1] at h;replace c1:=eqf c1
 by_cases c2:ltI x1 x2=true
 · rw[if_pos c2] at h
   obtain rfl:=h
   exact Tri.of (x:=X86) mixed facts86 [(A86_0 x1),(A86_1 x2),df,df,dt] [⟨c2⟩,⟨c1⟩,⟨c0⟩,⟨(ok_cmp_isNaN_96 x2)⟩,⟨(ok_cmp_isNaN_96 x1)⟩] (by kernel_rfl)
 rw[if_neg c2] at h;replace c2:=eqf c2
 by_cases c3:ltI x2 x1=true
 · rw[if_pos c3] at h
   obtain rfl:=h
   exact Tri.of (x:=X86) mixed facts86 [(A86_0 x1),(A86_1 x2),df,df,df,dt] [⟨c3⟩,⟨c2⟩,⟨c1⟩,⟨c0⟩,⟨(ok_cmp_isNaN_96 x2)⟩,⟨(ok_cmp_isNaN_96 x1)⟩] (by kernel_rfl)
 rw[if_neg c3] at h;replace c3:=eqf c3
 obtain rfl:=h
 exact Tri.of (x:=X86) mixed facts86 [(A86_0 x1),(A86_1 x2),df,df,df,df] [⟨c3⟩,⟨c2⟩,⟨c1⟩,⟨c0⟩,⟨(ok_cmp_isNaN_96 x2)⟩,⟨(ok_cmp_isNaN_96 x1)⟩] (by kernel_rfl)
end Go.Ws

namespace Go.Ws
open Go.Proofs
set_option linter.unusedSimpArgs false
set_option linter.unusedVariables false
set_option maxRecDepth 1000000
set_option maxHeartbeats 4000000
noncomputable def X84:Ctx:=⟨Try.f84,[],true⟩
noncomputable def L84_0:Code:=at_ Try.f84 [1,1,0,1,4,5]
def S84_0 (x1:List Int) (v84001_1:Int):St:=⟨mkT 18 [(3,(.int .i64 0)),(6,(.sl 1 (List.map e_i64 x1))),(7,(.int .i64 (nI x1.length))),(8,(.int .i64 v84001_1))],[]⟩
def E84_0_0:St:=⟨mkT 18 [(3,(.int .i64 0))],[]⟩
def O84_0 (x1:List Int) (y:(Sum (Unit) (Int))):GX:=match y with
 | .inl y=>.st (.exit 0) (E84_0_0)
 | .inr y=>.fin (.int .i64 y) []
theorem ok_cmp_Or_l0 (x1:List Int) (y:(Sum (Unit) (Int))):∀(k:Nat) (v84001_1:Int),cmp_Or_l0 k x1 v84001_1=some y→LT Try.prog X84 L84_0 (S84_0 x1 v84001_1) (O84_0 x1 y)
 | 0,v84001_1,h=>by cases h
 | k+1,v84001_1,h=>by
  rw[cmp_Or_l0] at h
  by_cases cL0:ltI v84001_1 (nI x1.length)=true
  · rw[if_pos cL0] at h
    by_cases cL1:inI v84001_1 x1.length=true
    · rw[if_pos cL1] at h
      obtain⟨v84000_1,eL2,h⟩:=bsm h
      by_cases cL3:eqI v84000_1 0=true
      · rw[if_pos cL3] at h
        exact LT.next mixed (hs:=⟨[(3,[]),(6,[]),(7,[]),(8,[])],[],false,[],[]⟩) (es:=none) [dt,.n x1.length,.row [(.int .i64 v84000_1)],df] [⟨(nF cL3)⟩,⟨(cells_map (e:=e_i64) eL2 1 0 1 (by decide))⟩,⟨cL1⟩,⟨(len_map e_i64 x1)⟩,⟨cL0⟩] (by kernel_rfl) (ok_cmp_Or_l0 x1 y k (iadd .i64 v84001_1 1) h)
      rw[if_neg cL3] at h;replace cL3:=eqf cL3
      obtain rfl:=osi h
      show LT _ _ _ _ (.fin (.int .i64 v84000_1) [])
      exact LT.done mixed (hs:=⟨[],[],false,[],[]⟩) (es:=none) [dt,.n x1.length,.row [(.int .i64 v84000_1)],dt] [⟨(nT cL3)⟩,⟨(cells_map (e:=e_i64) eL2 1 0 1 (by decide))⟩,⟨cL1⟩,⟨(len_map e_i64 x1)⟩,⟨cL0⟩] (by kernel_rfl) (fun s h=>by cases h)
    rw[if_neg cL1] at h;replace cL1:=eqf cL1
    cases h
  rw[if_neg cL0] at h;replace cL0:=eqf cL0
  obtain rfl:=osi h
  show LT _ _ _ _ (.st (.exit 0) (E84_0_0))
  exact LT.done mixed (hs:=⟨[],[],false,[],[]⟩) (es:=(some ⟨[(3,[])],[],false,[],[]⟩)) [df] [⟨cL0⟩] (by kernel_rfl) (fun s h=>by cases h)
theorem ok_cmp_Or (k:Nat) (x1:List Int) (r:Int) (h:cmp_Or k x1=some r):Tri Try.prog 84 [(.sl 1 (List.map e_i64 x1))] [] (.int .i64 r) []:=by
 unfold cmp_Or at h
 obtain⟨x2,e0,h⟩:=bsm h
 cases x2 with
 | inl x3 =>
  simp only[Sum.elim_inl] at h
  obtain rfl:=osi h
  exact Tri.of (x:=X84) mixed facts84 [.n x1.length,.norm 2 ⟨[(3,[]),(6,[]),(7,[]),(8,[])],[],false,[],[]⟩,.out (.st .normal (E84_0_0))] [⟨(LT.block (ok_cmp_Or_l0 x1 _ k 0 e0))⟩,⟨(len_map e_i64 x1)⟩] (by kernel_rfl)
 | inr x3 =>
  simp only[Sum.elim_inr] at h
  obtain rfl:=osi h
  exact Tri.of (x:=X84) mixed facts84 [.n x1.length,.norm 2 ⟨[(3,[]),(6,[]),(7,[]),(8,[])],[],false,[],[]⟩,.out (.fin (.int .i64 x3) [])] [⟨(LT.blockFin (id:=0) (ok_cmp_Or_l0 x1 _ k 0 e0))⟩,⟨(len_map e_i64 x1)⟩] (by kernel_rfl)
end Go.Ws

namespace Go.Ws
open Go.Proofs
set_option linter.unusedSimpArgs false
set_option linter.unusedVariables false
set_option maxRecDepth 1000000
set_option maxHeartbeats 4000000
noncomputable def X66:Ctx:=⟨Try.f66,[],true⟩
theorem ok_lock_order (k:Nat) (x1:Int) (x2:Int) (x3:Bool) (x4:Int) (x5:Int) (x6:Bool) (r:Int) (h:lock_order k x1 x2 x3 x4 x5 x6=some r):Tri Try.prog 66 [(.agg [(.int .u8 x1),(.int .i64 x2),(.bool x3)]),(.agg [(.int .u8 x4),(.int .i64 x5),(.bool x6)])] [] (.int .i64 r) []:=by
 unfold lock_order at h
 obtain⟨x7,e0,h⟩:=bsm h
 obtain rfl:=osi h
 exact Tri.of (x:=X66) mixed facts66 [.call ⟨true,[]⟩ (.int .i64 (cmp_Compare x1 x4)) [],.call ⟨true,[]⟩ (.int .i64 (cmp_Compare_86 x2 x5)) [],.call ⟨true,[]⟩ (.int .i64 x7) [],.rows (List.map e_i64 [(cmp_Compare x1 x4),(cmp_Compare_86 x2 x5)])] [⟨(ok_cmp_Or k [(cmp_Compare x1 x4),(cmp_Compare_86 x2 x5)] _ e0)⟩,⟨(part_all e_i64 (l:=[(cmp_Compare x1 x4),(cmp_Compare_86 x2 x5)]) (n:=2) rfl)⟩,⟨(le_map e_i64 (Nat.le_refl 2):0+2≤(List.map e_i64 [(cmp_Compare x1 x4),(cmp_Compare_86 x2 x5)]).length)⟩,⟨(ok_cmp_Compare_86 x2 x5)⟩,⟨(ok_cmp_Compare x1 x4)⟩] (by kernel_rfl)
end Go.Ws

namespace Go.Ws
open Go.Proofs
set_option linter.unusedSimpArgs false
set_option linter.unusedVariables false
set_option maxRecDepth 1000000
set_option maxHeartbeats 4000000
noncomputable def X63:Ctx:=⟨Try.f63,[],true⟩
noncomputable def L63_0:Code:=at_ Try.f63 [1,0,1,4,5]
def S63_0 (x1:Ty12) (v63001_1:Int):St:=⟨mkT 46 [(0,(.sl 3 (List.map e_u8_i64_b x1))),(6,(.sl 3 (List.map e_u8_i64_b x1))),(7,(.int .i64 (nI x1.length))),(8,(.int .i64 v63001_1))],[]⟩
def E63_0_0:St:=⟨mkT 46 [],[]⟩
def O63_0 (x1:Ty12) (y:Ty14):GX:=match y with
 | .inl y=>.st (.exit 0) (E63_0_0)
 | .inr y=>.fin (.bool y) []
def A63_0 (v63000_1:Int × Int × Bool):Ans:=.row [(.int .u8 v63000_1.1),(.int .i64 v63000_1.2.1),(.bool v63000_1.2.2)]
def A63_1 (v63000_1:Int × Int × Bool):Ans:=.call ⟨true,[]⟩ (.bool (lock_may v63000_1.2.1 v63000_1.1)) []
def A63_2 (v63000_2:Int × Int × Bool):Ans:=.row [(.int .u8 v63000_2.1),(.int .i64 v63000_2.2.1),(.bool v63000_2.2.2)]
def A63_3 (v63000_3:Int):Ans:=.call ⟨true,[]⟩ (.int .i64 v63000_3) []
theorem ok_lock_Right_l0 (x1:Ty12) (y:Ty14):∀(k:Nat) (v63001_1:Int),lock_Right_l0 k x1 v63001_1=some y→LT Try.prog X63 L63_0 (S63_0 x1 v63001_1) (O63_0 x1 y)
 | 0,v63001_1,h=>by cases h
 | k+1,v63001_1,h=>by
  rw[lock_Right_l0] at h
  by_cases cL0:ltI v63001_1 (nI x1.length)=true
  · rw[if_pos cL0] at h
    by_cases cL1:inI v63001_1 x1.length=true
    · rw[if_pos cL1] at h
      obtain⟨v63000_1,eL2,h⟩:=bsm h
      by_cases cL3:(lock_may v63000_1.2.1 v63000_1.1)=true
      · rw[if_pos cL3] at h
        by_cases cL4:eqI v63001_1 0=true
        · rw[if_pos cL4] at h
          exact LT.next mixed (hs:=⟨[(0,[]),(6,[]),(7,[]),(8,[])],[],false,[],[]⟩) (es:=none) [dt,.n x1.length,(A63_0 v63000_1),(A63_1 v63000_1),df,dt] [⟨cL4⟩,⟨(nF cL3)⟩,⟨(ok_lock_may v63000_1.2.1 v63000_1.1)⟩,⟨(cells_map (e:=e_u8_i64_b) eL2 3 0 3 (by decide))⟩,⟨cL1⟩,⟨(len_map e_u8_i64_b x1)⟩,⟨cL0⟩] (by kernel_rfl) (ok_lock_Right_l0 x1 y k (iadd .i64 v63001_1 1) h)
        rw[if_neg cL4] at h;replace cL4:=eqf cL4
        by_cases cL5:inI (isub .i64 v63001_1 1) x1.length=true
        · rw[if_pos cL5] at h
          obtain⟨v63000_2,eL6,h⟩:=bsm h
          obtain⟨v63000_3,eL7,h⟩:=bsm h
          by_cases cL8:ltI v63000_3 0=true
          · rw[if_pos cL8] at h
            by_cases cL9:eqI v63000_2.1 v63000_1.1=true
            · rw[if_pos cL9] at h
              by_cases cL10:v63000_2.2.2=true
              · rw[if_pos cL10] at h
                obtain rfl:=osi h
                show LT _ _ _ _ (.fin (.bool false) [])
                exact LT.done mixed (hs:=⟨[],[],false,[],[]⟩) (es:=none) [dt,.n x1.length,(A63_0 v63000_1),(A63_1 v63000_1),df,df,.n x1.length,(A63_2 v63000_2),(A63_3 v63000_3),df,df,df,df,df,df,dt,dt,dt,dt,dt,dt,dt,df,dt,df,dt] [⟨rT⟩,⟨(nF cL8)⟩,⟨cL9⟩,⟨(nF cL8)⟩,⟨cL10⟩,⟨cL9⟩,⟨cL10⟩,⟨cL10⟩,⟨cL9⟩,⟨cL9⟩,⟨cL9⟩,⟨(nF cL8)⟩,⟨(nF cL8)⟩,⟨(nF cL8)⟩,⟨(nF cL8)⟩,⟨(nF cL8)⟩,⟨(nF cL8)⟩,⟨(ok_lock_order k v63000_2.1 v63000_2.2.1 v63000_2.2.2 v63000_1.1 v63000_1.2.1 v63000_1.2.2 _ eL7)⟩,⟨(cells_map (e:=e_u8_i64_b) eL6 3 0 3 (by decide))⟩,⟨cL5⟩,⟨(len_map e_u8_i64_b x1)⟩,⟨cL4⟩,⟨(nF cL3)⟩,⟨(ok_lock_may v63000_1.2.1 v63000_1.1)⟩,⟨(cells_map (e:=e_u8_i64_b) eL2 3 0 3 (by decide))⟩,⟨cL1⟩,⟨(len_map e_u8_i64_b x1)⟩,⟨cL0⟩] (by kernel_rfl) (fun s h=>by cases h)
              rw[if_neg cL10] at h;replace cL10:=eqf cL10
              by_cases cL11:v63000_1.2.2=true
              · rw[if_pos cL11] at h
                obtain rfl:=osi h
                show LT _ _ _ _ (.fin (.bool false) [])
                exact LT.done mixed (hs:=⟨[],[],false,[],[]⟩) (es:=none) [dt,.n x1.length,(A63_0 v63000_1),(A63_1 v63000_1),df,df,.n x1.length,(A63_2 v63000_2),(A63_3 v63000_3),df,df,df,df,df,df,dt,dt,dt,df,df,dt,df,df,dt,df,dt] [⟨cL11⟩,⟨(nF cL8)⟩,⟨cL9⟩,⟨(nF cL8)⟩,⟨cL10⟩,⟨cL9⟩,⟨cL10⟩,⟨cL10⟩,⟨cL9⟩,⟨cL9⟩,⟨cL9⟩,⟨(nF cL8)⟩,⟨(nF cL8)⟩,⟨(nF cL8)⟩,⟨(nF cL8)⟩,⟨(nF cL8)⟩,⟨(nF cL8)⟩,⟨(ok_lock_order k v63000_2.1 v63000_2.2.1 v63000_2.2.2 v63000_1.1 v63000_1.2.1 v63000_1.2.2 _ eL7)⟩,⟨(cells_map (e:=e_u8_i64_b) eL6 3 0 3 (by decide))⟩,⟨cL5⟩,⟨(len_map e_u8_i64_b x1)⟩,⟨cL4⟩,⟨(nF cL3)⟩,⟨(ok_lock_may v63000_1.2.1 v63000_1.1)⟩,⟨(cells_map (e:=e_u8_i64_b) eL2 3 0 3 (by decide))⟩,⟨cL1⟩,⟨(len_map e_u8_i64_b x1)⟩,⟨cL0⟩] (by kernel_rfl) (fun s h=>by cases h)
              rw[if_neg cL11] at h;replace cL11:=eqf cL11
              exact LT.next mixed (hs:=⟨[(0,[]),(6,[]),(7,[]),(8,[])],[],false,[],[]⟩) (es:=none) [dt,.n x1.length,(A63_0 v63000_1),(A63_1 v63000_1),df,df,.n x1.length,(A63_2 v63000_2),(A63_3 v63000_3),df,df,df,df,df,df,dt,dt,dt,df,df,dt,df,df,dt,df,df] [⟨cL11⟩,⟨(nF cL8)⟩,⟨cL9⟩,⟨(nF cL8)⟩,⟨cL10⟩,⟨cL9⟩,⟨cL10⟩,⟨cL10⟩,⟨cL9⟩,⟨cL9⟩,⟨cL9⟩,⟨(nF cL8)⟩,⟨(nF cL8)⟩,⟨(nF cL8)⟩,⟨(nF cL8)⟩,⟨(nF cL8)⟩,⟨(nF cL8)⟩,⟨(ok_lock_order k v63000_2.1 v63000_2.2.1 v63000_2.2.2 v63000_1.1 v63000_1.2.1 v63000_1.2.2 _ eL7)⟩,⟨(cells_map (e:=e_u8_i64_b) eL6 3 0 3 (by decide))⟩,⟨cL5⟩,⟨(len_map e_u8_i64_b x1)⟩,⟨cL4⟩,⟨(nF cL3)⟩,⟨(ok_lock_may v63000_1.2.1 v63000_1.1)⟩,⟨(cells_map (e:=e_u8_i64_b) eL2 3 0 3 (by decide))⟩,⟨cL1⟩,⟨(len_map e_u8_i64_b x1)⟩,⟨cL0⟩] (by kernel_rfl) (ok_lock_Right_l0 x1 y k (iadd .i64 v63001_1 1) h)
            rw[if_neg cL9] at h;replace cL9:=eqf cL9
            exact LT.next mixed (hs:=⟨[(0,[]),(6,[]),(7,[]),(8,[])],[],false,[],[]⟩) (es:=none) [dt,.n x1.length,(A63_0 v63000_1),(A63_1 v63000_1),df,df,.n x1.length,(A63_2 v63000_2),(A63_3 v63000_3),df,df,df,df,df,df,df,df,df,df,df,df,df,df] [⟨rF⟩,⟨(nF cL8)⟩,⟨cL9⟩,⟨(nF cL8)⟩,⟨cL9⟩,⟨cL9⟩,⟨cL9⟩,⟨cL9⟩,⟨(nF cL8)⟩,⟨(nF cL8)⟩,⟨(nF cL8)⟩,⟨(nF cL8)⟩,⟨(nF cL8)⟩,⟨(nF cL8)⟩,⟨(ok_lock_order k v63000_2.1 v63000_2.2.1 v63000_2.2.2 v63000_1.1 v63000_1.2.1 v63000_1.2.2 _ eL7)⟩,⟨(cells_map (e:=e_u8_i64_b) eL6 3 0 3 (by decide))⟩,⟨cL5⟩,⟨(len_map e_u8_i64_b x1)⟩,⟨cL4⟩,⟨(nF cL3)⟩,⟨(ok_lock_may v63000_1.2.1 v63000_1.1)⟩,⟨(cells_map (e:=e_u8_i64_b) eL2 3 0 3 (by decide))⟩,⟨cL1⟩,⟨(len_map e_u8_i64_b x1)⟩,⟨cL0⟩] (by kernel_rfl) (ok_lock_Right_l0 x1 y k (iadd .i64 v63001_1 1) h)
          rw[if_neg cL8] at h;replace cL8:=eqf cL8
          obtain rfl:=osi h
          show LT _ _ _ _ (.fin (.bool false) [])
          exact LT.done mixed (hs:=⟨[],[],false,[],[]⟩) (es:=none) [dt,.n x1.length,(A63_0 v63000_1),(A63_1 v63000_1),df,df,.n x1.length,(A63_2 v63000_2),(A63_3 v63000_3),dt,dt,dt,dt,dt,dt,dt,dt,dt] [⟨rT⟩,⟨(nT cL8)⟩,⟨(nT cL8)⟩,⟨(nT cL8)⟩,⟨(nT cL8)⟩,⟨(nT cL8)⟩,⟨(nT cL8)⟩,⟨(nT cL8)⟩,⟨(nT cL8)⟩,⟨(ok_lock_order k v63000_2.1 v63000_2.2.1 v63000_2.2.2 v63000_1.1 v63000_1.2.1 v63000_1.2.2 _ eL7)⟩,⟨(cells_map (e:=e_u8_i64_b) eL6 3 0 3 (by decide))⟩,⟨cL5⟩,⟨(len_map e_u8_i64_b x1)⟩,⟨cL4⟩,⟨(nF cL3)⟩,⟨(ok_lock_may v63000_1.2.1 v63000_1.1)⟩,⟨(cells_map (e:=e_u8_i64_b) eL2 3 0 3 (by decide))⟩,⟨cL1⟩,⟨(len_map e_u8_i64_b x1)⟩,⟨cL0⟩] (by kernel_rfl) (fun s h=>by cases h)
        rw[if_neg cL5] at h;replace cL5:=eqf cL5
        cases h
      rw[if_neg cL3] at h;replace cL3:=eqf cL3
      obtain rfl:=osi h
      show LT _ _ _ _ (.fin (.bool false) [])
      exact LT.done mixed (hs:=⟨[],[],false,[],[]⟩) (es:=none) [dt,.n x1.length,(A63_0 v63000_1),(A63_1 v63000_1),dt] [⟨(nT cL3)⟩,⟨(ok_lock_may v63000_1.2.1 v63000_1.1)⟩,⟨(cells_map (e:=e_u8_i64_b) eL2 3 0 3 (by decide))⟩,⟨cL1⟩,⟨(len_map e_u8_i64_b x1)⟩,⟨cL0⟩] (by kernel_rfl) (fun s h=>by cases h)
    rw[if_neg cL1] at h;replace cL1:=eqf cL1
    cases h
  rw[if_neg cL0] at h;replace cL0:=eqf cL0
  obtain rfl:=osi h
  show LT _ _ _ _ (.st (.exit 0) (E63_0_0))
  exact LT.done mixed (hs:=⟨[],[],false,[],[]⟩) (es:=(some ⟨[],[],false,[],[]⟩)) [df] [⟨cL0⟩] (by kernel_rfl) (fun s h=>by cases h)
theorem ok_lock_Right (k:Nat) (x1:Ty12) (r:Bool) (h:lock_Right k x1=some r):Tri Try.prog 63 [(.sl 3 (List.map e_u8_i64_b x1))] [] (.bool r) []:=by
 unfold lock_Right at h
 obtain⟨x2,e0,h⟩:=bsm h
 cases x2 with
 | inl x3 =>
  simp only[Sum.elim_inl] at h
  obtain rfl:=osi h
  exact Tri.of (x:=X63) mixed facts63 [.n x1.length,.norm 2 ⟨[(0,[]),(6,[]),(7,[]),(8,[])],[],false,[],[]⟩,.out (.st .normal (E63_0_0))] [⟨(LT.block (ok_lock_Right_l0 x1 _ k 0 e0))⟩,⟨(len_map e_u8_i64_b x1)⟩] (by kernel_rfl)
 | inr x3 =>
  simp only[Sum.elim_inr] at h
  obtain rfl:=osi h
  exact Tri.of (x:=X63) mixed facts63 [.n x1.length,.norm 2 ⟨[(0,[]),(6,[]),(7,[]),(8,[])],[],false,[],[]⟩,.out (.fin (.bool x3) [])] [⟨(LT.blockFin (id:=0) (ok_lock_Right_l0 x1 _ k 0 e0))⟩,⟨(len_map e_u8_i64_b x1)⟩] (by kernel_rfl)
end Go.Ws

namespace Go.Ws
open Go.Proofs
set_option linter.unusedSimpArgs false
set_option linter.unusedVariables false
set_option maxRecDepth 1000000
set_option maxHeartbeats 4000000
noncomputable def X65:Ctx:=⟨Try.f65,[],true⟩
noncomputable def L65_0:Code:=at_ Try.f65 [1,1,1,0,4,5]
def S65_0 (x1:Ty12) (x2:Int) (x3:Int) (x4:Bool) (v65001_1:Int) (v65001_2:Int):St:=⟨mkT 49 [(0,(.sl 3 (List.map e_u8_i64_b x1))),(2,(.fn 66 [])),(4,(.hp 0 0)),(8,(.int .i64 (nI x1.length))),(9,(.int .i64 v65001_1)),(10,(.int .i64 v65001_2))],[(.row [(.int .u8 x2),(.int .i64 x3),(.bool x4)])]⟩
def E65_0_0 (x1:Ty12) (x2:Int) (x3:Int) (x4:Bool) (v65002_1:Int):St:=⟨mkT 49 [(0,(.sl 3 (List.map e_u8_i64_b x1))),(2,(.fn 66 [])),(4,(.hp 0 0)),(8,(.int .i64 (nI x1.length))),(9,(.int .i64 v65002_1))],[(.row [(.int .u8 x2),(.int .i64 x3),(.bool x4)])]⟩
def O65_0 (x1:Ty12) (x2:Int) (x3:Int) (x4:Bool) (y:(Int)):GX:=.st (.exit 0) (E65_0_0 x1 x2 x3 x4 y)
def A65_0:Ans:=.norm 2 ⟨[(0,[]),(2,[]),(4,[]),(8,[]),(9,[]),(10,[])],[⟨.tmp 4,[],none⟩],false,[],[]⟩
theorem ok_slices_BinarySearchFunc_l0 (x1:Ty12) (x2:Int) (x3:Int) (x4:Bool) (y:(Int)):∀(k:Nat) (v65001_1:Int) (v65001_2:Int),slices_BinarySearchFunc_l0 k x1 x2 x3 x4 v65001_1 v65001_2=some y→LT Try.prog X65 L65_0 (S65_0 x1 x2 x3 x4 v65001_1 v65001_2) (O65_0 x1 x2 x3 x4 y)
 | 0,v65001_1,v65001_2,h=>by cases h
 | k+1,v65001_1,v65001_2,h=>by
  rw[slices_BinarySearchFunc_l0] at h
  by_cases cL0:ltI v65001_1 v65001_2=true
  · rw[if_pos cL0] at h
    by_cases cL1:inI (conv .i64 (ishr .u64 (conv .u64 (iadd .i64 v65001_1 v65001_2)) 1)) x1.length=true
    · rw[if_pos cL1] at h
      obtain⟨v65000_1,eL2,h⟩:=bsm h
      obtain⟨v65000_2,eL3,h⟩:=bsm h
      by_cases cL4:ltI v65000_2 0=true
      · rw[if_pos cL4] at h
        exact LT.next mixed (hs:=⟨[(0,[]),(2,[]),(4,[]),(8,[]),(9,[]),(10,[])],[⟨.tmp 4,[],none⟩],false,[],[]⟩) (es:=none) [dt,.n x1.length,.row [(.int .u8 v65000_1.1),(.int .i64 v65000_1.2.1),(.bool v65000_1.2.2)],.call ⟨true,[]⟩ (.int .i64 v65000_2) [],dt] [⟨cL4⟩,⟨(ok_lock_order k v65000_1.1 v65000_1.2.1 v65000_1.2.2 x2 x3 x4 _ eL3)⟩,⟨(cells_map (e:=e_u8_i64_b) eL2 3 0 3 (by decide))⟩,⟨cL1⟩,⟨(len_map e_u8_i64_b x1)⟩,⟨cL0⟩] (by kernel_rfl) (ok_slices_BinarySearchFunc_l0 x1 x2 x3 x4 y k (iadd .i64 (conv .i64 (ishr .u64 (conv .u64 (iadd .i64 v65001_1 v65001_2)) 1)) 1) v65001_2 h)
      rw[if_neg cL4] at h;replace cL4:=eqf cL4
      exact LT.next mixed (hs:=⟨[(0,[]),(2,[]),(4,[]),(8,[]),(9,[]),(10,[])],[⟨.tmp 4,[],none⟩],false,[],[]⟩) (es:=none) [dt,.n x1.length,.row [(.int .u8 v65000_1.1),(.int .i64 v65000_1.2.1),(.bool v65000_1.2.2)],.call ⟨true,[]⟩ (.int .i64 v65000_2) [],df] [⟨cL4⟩,⟨(ok_lock_order k v65000_1.1 v65000_1.2.1 v65000_1.2.2 x2 x3 x4 _ eL3)⟩,⟨(cells_map (e:=e_u8_i64_b) eL2 3 0 3 (by decide))⟩,⟨cL1⟩,⟨(len_map e_u8_i64_b x1)⟩,⟨cL0⟩] (by kernel_rfl) (ok_slices_BinarySearchFunc_l0 x1 x2 x3 x4 y k v65001_1 (conv .i64 (ishr .u64 (conv .u64 (iadd .i64 v65001_1 v65001_2)) 1)) h)
    rw[if_neg cL1] at h;replace cL1:=eqf cL1
    cases h
  rw[if_neg cL0] at h;replace cL0:=eqf cL0
  obtain rfl:=osi h
  show LT _ _ _ _ (.st (.exit 0) (E65_0_0 x1 x2 x3 x4 v65001_1))
  exact LT.done mixed (hs:=⟨[],[],false,[],[]⟩) (es:=(some ⟨[(0,[]),(2,[]),(4,[]),(8,[]),(9,[])],[⟨.tmp 4,[],none⟩],false,[],[]⟩)) [df] [⟨cL0⟩] (by kernel_rfl) (fun s h=>by cases h)
theorem ok_slices_BinarySearchFunc (k:Nat) (x1:Ty12) (x2:Int) (x3:Int) (x4:Bool) (r:Int × Bool) (h:slices_BinarySearchFunc k x1 x2 x3 x4=some r):Tri Try.prog 65 [(.sl 3 (List.map e_u8_i64_b x1)),(.agg [(.int .u8 x2),(.int .i64 x3),(.bool x4)]),(.fn 66 [])] [] (.tup [(.int .i64 r.1),(.bool r.2)]) []:=by
 unfold slices_BinarySearchFunc at h
 obtain⟨x6,e0,h⟩:=bsm h
 by_cases c2:ltI x6 (nI x1.length)=true
 · rw[if_pos c2] at h
   by_cases c3:inI x6 x1.length=true
   · rw[if_pos c3] at h
     obtain⟨x7,e4,h⟩:=bsm h
     obtain⟨x8,e5,h⟩:=bsm h
     obtain rfl:=osi h
     exact Tri.of (x:=X65) mixed facts65 [.n x1.length,A65_0,.out (.st .normal (E65_0_0 x1 x2 x3 x4 x6)),dt,dt,dt,dt,.n x1.length,dt,.row [(.int .u8 x7.1),(.int .i64 x7.2.1),(.bool x7.2.2)],dt,dt,.call ⟨true,[]⟩ (.int .i64 x8) [],dt,dt] [⟨c2⟩,⟨c2⟩,⟨(ok_lock_order k x7.1 x7.2.1 x7.2.2 x2 x3 x4 _ e5)⟩,⟨c2⟩,⟨c2⟩,⟨(cells_map (e:=e_u8_i64_b) e4 3 0 3 (by decide))⟩,⟨c2⟩,⟨c3⟩,⟨(len_map e_u8_i64_b x1)⟩,⟨c2⟩,⟨c2⟩,⟨c2⟩,⟨c2⟩,⟨(LT.block (ok_slices_BinarySearchFunc_l0 x1 x2 x3 x4 _ k 0 (nI x1.length) e0))⟩,⟨(len_map e_u8_i64_b x1)⟩] (by kernel_rfl)
   rw[if_neg c3] at h;replace c3:=eqf c3
   cases h
 rw[if_neg c2] at h;replace c2:=eqf c2
 obtain rfl:=osi h
 exact Tri.of (x:=X65) mixed facts65 [.n x1.length,A65_0,.out (.st .normal (E65_0_0 x1 x2 x3 x4 x6)),df,df,df,df,df,df,df,df,df] [⟨c2⟩,⟨c2⟩,⟨c2⟩,⟨c2⟩,⟨c2⟩,⟨c2⟩,⟨c2⟩,⟨c2⟩,⟨c2⟩,⟨(LT.block (ok_slices_BinarySearchFunc_l0 x1 x2 x3 x4 _ k 0 (nI x1.length) e0))⟩,⟨(len_map e_u8_i64_b x1)⟩] (by kernel_rfl)
end Go.Ws

namespace Go.Ws
open Go.Proofs
set_option linter.unusedSimpArgs false
set_option linter.unusedVariables false
set_option maxRecDepth 1000000
set_option maxHeartbeats 4000000
theorem ok_slices_Insert (k:Nat) (x1:Int) (x2:Ty12) (x3:Ty12) (r:Ty12) (h:slices_Insert k x1 x2 x3=some r):Tri Try.prog 67 [(.ref 3 0 0 0 x2.length .virt),(.int .i64 x1),(.ref 3 1 0 0 x3.length .full)] [(.arr 3 (List.map e_u8_i64_b x2) 0 0 false),(.arr 3 (List.map e_u8_i64_b x3) 0 0 false)] (.ref 3 0 1 0 r.length .full) [(.arr 3 (List.map e_u8_i64_b r) 1 1 false),(.arr 3 (List.map e_u8_i64_b x3) 0 0 false)]:=ins_ok67 _ h rfl
end Go.Ws

namespace Go.Ws
open Go.Proofs
set_option linter.unusedSimpArgs false
set_option linter.unusedVariables false
set_option maxRecDepth 1000000
set_option maxHeartbeats 4000000
noncomputable def X46:Ctx:=⟨Try.f46,[],true⟩
noncomputable def L46_0:Code:=at_ Try.f46 [1,1,1,0,1,4,5]
def S46_0 (x1:Ty12) (x2:Int) (x3:Int) (x4:Bool) (v46001_1:Int):St:=⟨mkT 82 [(0,(.ref 3 0 0 0 x1.length .virt)),(1,(.int .i64 x2)),(2,(.int .u8 x3)),(3,(.bool x4)),(27,(.ref 3 0 0 0 x1.length .virt)),(28,(.int .i64 (nI x1.length))),(29,(.int .i64 v46001_1))],[(.arr 3 (List.map e_u8_i64_b x1) 0 0 false)]⟩
def E46_0_0 (x1:Ty12) (x2:Int) (x3:Int) (x4:Bool):St:=⟨mkT 82 [(0,(.ref 3 0 0 0 x1.length .virt)),(1,(.int .i64 x2)),(2,(.int .u8 x3)),(3,(.bool x4))],[(.arr 3 (List.map e_u8_i64_b x1) 0 0 false)]⟩
def O46_0 (x1:Ty12) (x2:Int) (x3:Int) (x4:Bool) (y:(Sum (Unit) (Ty12 × Int))):GX:=match y with
 | .inl y=>.st (.exit 0) (E46_0_0 x1 x2 x3 x4)
 | .inr y=>.fin (.tup [(.sl 3 (List.map e_u8_i64_b y.1)),(.int .i64 y.2)]) []
def A46_0 (v46000_1:Int × Int × Bool):Ans:=.row [(.int .u8 v46000_1.1),(.int .i64 v46000_1.2.1),(.bool v46000_1.2.2)]
def A46_1 (x1:Ty12):Ans:=.call ⟨true,[]⟩ (.ref 3 0 0 0 x1.length .virt) [(.arr 3 (List.map e_u8_i64_b x1) 0 0 false)]
def A46_2 (x2:Int) (x3:Int):Ans:=.call ⟨true,[]⟩ (.bool (lock_may x2 x3)) []
def A46_3:Ans:=.norm 2 ⟨[(0,[]),(1,[]),(2,[]),(3,[]),(27,[]),(28,[]),(29,[])],[⟨.tmp 0,[],none⟩],false,[],[]⟩
def A46_4 (x9:Int × Bool):Ans:=.call ⟨true,[]⟩ (.tup [(.int .i64 x9.1),(.bool x9.2)]) []
theorem ok_lock_Take_l0 (x1:Ty12) (x2:Int) (x3:Int) (x4:Bool) (y:(Sum (Unit) (Ty12 × Int))):∀(k:Nat) (v46001_1:Int),lock_Take_l0 k x1 x2 x3 x4 v46001_1=some y→LT Try.prog X46 L46_0 (S46_0 x1 x2 x3 x4 v46001_1) (O46_0 x1 x2 x3 x4 y)
 | 0,v46001_1,h=>by cases h
 | k+1,v46001_1,h=>by
  rw[lock_Take_l0] at h
  by_cases cL0:ltI v46001_1 (nI x1.length)=true
  · rw[if_pos cL0] at h
    by_cases cL1:inI v46001_1 x1.length=true
    · rw[if_pos cL1] at h
      obtain⟨v46000_1,eL2,h⟩:=bsm h
      by_cases cL3:eqI v46000_1.1 x3=true
      · rw[if_pos cL3] at h
        by_cases cL4:eqI v46000_1.2.1 x2=true
        · rw[if_pos cL4] at h
          exact LT.next mixed (hs:=⟨[(0,[]),(1,[]),(2,[]),(3,[]),(27,[]),(28,[]),(29,[])],[⟨.tmp 0,[],none⟩],false,[],[]⟩) (es:=none) [dt,(A46_0 v46000_1),dt,dt,dt,dt,dt,df,df,df,df,df] [⟨rF⟩,⟨(nF cL4)⟩,⟨(nF cL4)⟩,⟨(nF cL4)⟩,⟨(nF cL4)⟩,⟨cL3⟩,⟨cL3⟩,⟨cL3⟩,⟨cL3⟩,⟨cL3⟩,⟨(cells_map (e:=e_u8_i64_b) eL2 3 0 3 (by decide))⟩,⟨cL1⟩,⟨cL0⟩] (by kernel_rfl) (ok_lock_Take_l0 x1 x2 x3 x4 y k (iadd .i64 v46001_1 1) h)
        rw[if_neg cL4] at h;replace cL4:=eqf cL4
        by_cases cL5:x4=true
        · rw[if_pos cL5] at h
          obtain rfl:=osi h
          show LT _ _ _ _ (.fin (.tup [(.sl 3 (List.map e_u8_i64_b ((x1,9).1))),(.int .i64 ((x1,9).2))]) [])
          exact LT.done mixed (hs:=⟨[],[],false,[],[]⟩) (es:=none) [dt,(A46_0 v46000_1),dt,dt,dt,dt,dt,dt,dt,dt,dt,dt,dt,dt,dt,.rows (List.map e_u8_i64_b x1)] [⟨(part_all e_u8_i64_b (l:=x1) (n:=x1.length) rfl)⟩,⟨(le_map e_u8_i64_b (Nat.le_refl x1.length):0+x1.length≤(List.map e_u8_i64_b x1).length)⟩,⟨rT⟩,⟨(nT cL4)⟩,⟨cL5⟩,⟨(nT cL4)⟩,⟨cL5⟩,⟨cL5⟩,⟨(nT cL4)⟩,⟨(nT cL4)⟩,⟨cL3⟩,⟨cL3⟩,⟨cL3⟩,⟨cL3⟩,⟨cL3⟩,⟨(cells_map (e:=e_u8_i64_b) eL2 3 0 3 (by decide))⟩,⟨cL1⟩,⟨cL0⟩] (by kernel_rfl) (fun s h=>by cases h)
        rw[if_neg cL5] at h;replace cL5:=eqf cL5
        by_cases cL6:v46000_1.2.2=true
        · rw[if_pos cL6] at h
          obtain rfl:=osi h
          show LT _ _ _ _ (.fin (.tup [(.sl 3 (List.map e_u8_i64_b ((x1,9).1))),(.int .i64 ((x1,9).2))]) [])
          exact LT.done mixed (hs:=⟨[],[],false,[],[]⟩) (es:=none) [dt,(A46_0 v46000_1),dt,dt,dt,dt,dt,dt,dt,df,df,dt,df,dt,dt,.rows (List.map e_u8_i64_b x1)] [⟨(part_all e_u8_i64_b (l:=x1) (n:=x1.length) rfl)⟩,⟨(le_map e_u8_i64_b (Nat.le_refl x1.length):0+x1.length≤(List.map e_u8_i64_b x1).length)⟩,⟨cL6⟩,⟨(nT cL4)⟩,⟨cL5⟩,⟨(nT cL4)⟩,⟨cL5⟩,⟨cL5⟩,⟨(nT cL4)⟩,⟨(nT cL4)⟩,⟨cL3⟩,⟨cL3⟩,⟨cL3⟩,⟨cL3⟩,⟨cL3⟩,⟨(cells_map (e:=e_u8_i64_b) eL2 3 0 3 (by decide))⟩,⟨cL1⟩,⟨cL0⟩] (by kernel_rfl) (fun s h=>by cases h)
        rw[if_neg cL6] at h;replace cL6:=eqf cL6
        exact LT.next mixed (hs:=⟨[(0,[]),(1,[]),(2,[]),(3,[]),(27,[]),(28,[]),(29,[])],[⟨.tmp 0,[],none⟩],false,[],[]⟩) (es:=none) [dt,(A46_0 v46000_1),dt,dt,dt,dt,dt,dt,dt,df,df,dt,df,dt,df] [⟨cL6⟩,⟨(nT cL4)⟩,⟨cL5⟩,⟨(nT cL4)⟩,⟨cL5⟩,⟨cL5⟩,⟨(nT cL4)⟩,⟨(nT cL4)⟩,⟨cL3⟩,⟨cL3⟩,⟨cL3⟩,⟨cL3⟩,⟨cL3⟩,⟨(cells_map (e:=e_u8_i64_b) eL2 3 0 3 (by decide))⟩,⟨cL1⟩,⟨cL0⟩] (by kernel_rfl) (ok_lock_Take_l0 x1 x2 x3 x4 y k (iadd .i64 v46001_1 1) h)
      rw[if_neg cL3] at h;replace cL3:=eqf cL3
      exact LT.next mixed (hs:=⟨[(0,[]),(1,[]),(2,[]),(3,[]),(27,[]),(28,[]),(29,[])],[⟨.tmp 0,[],none⟩],false,[],[]⟩) (es:=none) [dt,(A46_0 v46000_1),df,df,df,df,df,df,df,df,df,df] [⟨rF⟩,⟨rF⟩,⟨rF⟩,⟨rF⟩,⟨rF⟩,⟨cL3⟩,⟨cL3⟩,⟨cL3⟩,⟨cL3⟩,⟨cL3⟩,⟨(cells_map (e:=e_u8_i64_b) eL2 3 0 3 (by decide))⟩,⟨cL1⟩,⟨cL0⟩] (by kernel_rfl) (ok_lock_Take_l0 x1 x2 x3 x4 y k (iadd .i64 v46001_1 1) h)
    rw[if_neg cL1] at h;replace cL1:=eqf cL1
    cases h
  rw[if_neg cL0] at h;replace cL0:=eqf cL0
  obtain rfl:=osi h
  show LT _ _ _ _ (.st (.exit 0) (E46_0_0 x1 x2 x3 x4))
  exact LT.done mixed (hs:=⟨[],[],false,[],[]⟩) (es:=(some ⟨[(0,[]),(1,[]),(2,[]),(3,[])],[⟨.tmp 0,[],none⟩],false,[],[]⟩)) [df] [⟨cL0⟩] (by kernel_rfl) (fun s h=>by cases h)
theorem ok_lock_Take (k:Nat) (x1:Ty12) (x2:Int) (x3:Int) (x4:Bool) (r:Ty12 × Int) (h:lock_Take k x1 x2 x3 x4=some r):Tri Try.prog 46 [(.sl 3 (List.map e_u8_i64_b x1)),(.int .i64 x2),(.int .u8 x3),(.bool x4)] [] (.tup [(.sl 3 (List.map e_u8_i64_b r.1)),(.int .i64 r.2)]) []:=by
 unfold lock_Take at h
 obtain⟨x5,e0,h⟩:=bsm h
 obtain⟨x6,e1,h⟩:=bsm h
 by_cases c2:x6=true
 · rw[if_pos c2] at h
   by_cases c3:(lock_may x2 x3)=true
   · rw[if_pos c3] at h
     obtain⟨x7,e4,h⟩:=bsm h
     cases x7 with
     | inl x8 =>
      simp only[Sum.elim_inl] at h
      obtain⟨x9,e6,h⟩:=bsm h
      by_cases c7:x9.2=true
      · rw[if_pos c7] at h
        by_cases c8:inI x9.1 x1.length=true
        · rw[if_pos c8] at h
          obtain⟨x10,e9,h⟩:=bsm h
          by_cases c10:x10.2.2=true
          · rw[if_pos c10] at h
            obtain rfl:=osi h
            exact Tri.of (x:=X46) mixed facts46 [(A46_1 x1),.call ⟨true,[]⟩ (.bool x6) [],.rows (List.map e_u8_i64_b x1),df,df,df,(A46_2 x2 x3),df,df,df,A46_3,.out (.st .normal (E46_0_0 x1 x2 x3 x4)),(A46_4 x9),.rows (List.map e_u8_i64_b x1),df,.row [(.bool x10.2.2)],dt,dt,.rows (List.map e_u8_i64_b (List.set x1 (tN x9.1) (x10.1,x10.2.1,true))),.rows (List.map e_u8_i64_b (List.set x1 (tN x9.1) (x10.1,x10.2.1,true)))] [⟨(part_all e_u8_i64_b (l:=(List.set x1 (tN x9.1) (x10.1,x10.2.1,true))) (n:=x1.length) (by simp:x1.length=List.length (α:=Int × Int × Bool) (List.set x1 (tN x9.1) (x10.1,x10.2.1,true))))⟩,⟨(le_map e_u8_i64_b (Nat.le_of_eq (by simp:x1.length=List.length (α:=Int × Int × Bool) (List.set x1 (tN x9.1) (x10.1,x10.2.1,true)))))⟩,⟨(store_map (e:=e_u8_i64_b) e9 2 [(.bool true)] (x10.1,x10.2.1,true) rfl)⟩,⟨c8⟩,⟨c10⟩,⟨c10⟩,⟨(cells_map (e:=e_u8_i64_b) e9 3 2 1 (by decide))⟩,⟨c8⟩,⟨(nF c7)⟩,⟨(ok_slices_BinarySearchFunc k x1 x3 x2 x4 _ e6)⟩,⟨(part_all e_u8_i64_b (l:=x1) (n:=x1.length) rfl)⟩,⟨(le_map e_u8_i64_b (Nat.le_refl x1.length):0+x1.length≤(List.map e_u8_i64_b x1).length)⟩,⟨(LT.block (ok_lock_Take_l0 x1 x2 x3 x4 _ k 0 e4))⟩,⟨(nF c3)⟩,⟨(nF c2)⟩,⟨(nF c2)⟩,⟨(ok_lock_may x2 x3)⟩,⟨(nF c2)⟩,⟨(nF c2)⟩,⟨(nF c2)⟩,⟨(ok_lock_Right k x1 _ e1)⟩,⟨(part_all e_u8_i64_b (l:=x1) (n:=x1.length) rfl)⟩,⟨(le_map e_u8_i64_b (Nat.le_refl x1.length):0+x1.length≤(List.map e_u8_i64_b x1).length)⟩,⟨(ok_slices_Clone k x1 _ e0)⟩] (by kernel_rfl)
          rw[if_neg c10] at h;replace c10:=eqf c10
          obtain rfl:=osi h
          exact Tri.of (x:=X46) mixed facts46 [(A46_1 x1),.call ⟨true,[]⟩ (.bool x6) [],.rows (List.map e_u8_i64_b x1),df,df,df,(A46_2 x2 x3),df,df,df,A46_3,.out (.st .normal (E46_0_0 x1 x2 x3 x4)),(A46_4 x9),.rows (List.map e_u8_i64_b x1),df,.row [(.bool x10.2.2)],df,df,.rows (List.map e_u8_i64_b (List.set x1 (tN x9.1) (x10.1,x10.2.1,x4))),.rows (List.map e_u8_i64_b (List.set x1 (tN x9.1) (x10.1,x10.2.1,x4)))] [⟨(part_all e_u8_i64_b (l:=(List.set x1 (tN x9.1) (x10.1,x10.2.1,x4))) (n:=x1.length) (by simp:x1.length=List.length (α:=Int × Int × Bool) (List.set x1 (tN x9.1) (x10.1,x10.2.1,x4))))⟩,⟨(le_map e_u8_i64_b (Nat.le_of_eq (by simp:x1.length=List.length (α:=Int × Int × Bool) (List.set x1 (tN x9.1) (x10.1,x10.2.1,x4)))))⟩,⟨(store_map (e:=e_u8_i64_b) e9 2 [(.bool x4)] (x10.1,x10.2.1,x4) rfl)⟩,⟨c8⟩,⟨c10⟩,⟨c10⟩,⟨(cells_map (e:=e_u8_i64_b) e9 3 2 1 (by decide))⟩,⟨c8⟩,⟨(nF c7)⟩,⟨(ok_slices_BinarySearchFunc k x1 x3 x2 x4 _ e6)⟩,⟨(part_all e_u8_i64_b (l:=x1) (n:=x1.length) rfl)⟩,⟨(le_map e_u8_i64_b (Nat.le_refl x1.length):0+x1.length≤(List.map e_u8_i64_b x1).length)⟩,⟨(LT.block (ok_lock_Take_l0 x1 x2 x3 x4 _ k 0 e4))⟩,⟨(nF c3)⟩,⟨(nF c2)⟩,⟨(nF c2)⟩,⟨(ok_lock_may x2 x3)⟩,⟨(nF c2)⟩,⟨(nF c2)⟩,⟨(nF c2)⟩,⟨(ok_lock_Right k x1 _ e1)⟩,⟨(part_all e_u8_i64_b (l:=x1) (n:=x1.length) rfl)⟩,⟨(le_map e_u8_i64_b (Nat.le_refl x1.length):0+x1.length≤(List.map e_u8_i64_b x1).length)⟩,⟨(ok_slices_Clone k x1 _ e0)⟩] (by kernel_rfl)
        rw[if_neg c8] at h;replace c8:=eqf c8
        cases h
      rw[if_neg c7] at h;replace c7:=eqf c7
      obtain⟨x10,e8,h⟩:=bsm h
      obtain rfl:=osi h
      exact Tri.of (x:=X46) mixed facts46 [(A46_1 x1),.call ⟨true,[]⟩ (.bool x6) [],.rows (List.map e_u8_i64_b x1),df,df,df,(A46_2 x2 x3),df,df,df,A46_3,.out (.st .normal (E46_0_0 x1 x2 x3 x4)),(A46_4 x9),.rows (List.map e_u8_i64_b x1),dt,.call ⟨false,[]⟩ (.ref 3 0 1 0 x10.length .full) [(.arr 3 (List.map e_u8_i64_b x10) 1 1 false),(.arr 3 (List.map e_u8_i64_b [(x3,x2,x4)]) 0 0 false)],.rows (List.map e_u8_i64_b x10)] [⟨(part_all e_u8_i64_b (l:=x10) (n:=x10.length) rfl)⟩,⟨(le_map e_u8_i64_b (Nat.le_refl x10.length):0+x10.length≤(List.map e_u8_i64_b x10).length)⟩,⟨(ok_slices_Insert k x9.1 x1 [(x3,x2,x4)] _ e8)⟩,⟨(nT c7)⟩,⟨(ok_slices_BinarySearchFunc k x1 x3 x2 x4 _ e6)⟩,⟨(part_all e_u8_i64_b (l:=x1) (n:=x1.length) rfl)⟩,⟨(le_map e_u8_i64_b (Nat.le_refl x1.length):0+x1.length≤(List.map e_u8_i64_b x1).length)⟩,⟨(LT.block (ok_lock_Take_l0 x1 x2 x3 x4 _ k 0 e4))⟩,⟨(nF c3)⟩,⟨(nF c2)⟩,⟨(nF c2)⟩,⟨(ok_lock_may x2 x3)⟩,⟨(nF c2)⟩,⟨(nF c2)⟩,⟨(nF c2)⟩,⟨(ok_lock_Right k x1 _ e1)⟩,⟨(part_all e_u8_i64_b (l:=x1) (n:=x1.length) rfl)⟩,⟨(le_map e_u8_i64_b (Nat.le_refl x1.length):0+x1.length≤(List.map e_u8_i64_b x1).length)⟩,⟨(ok_slices_Clone k x1 _ e0)⟩] (by kernel_rfl)
     | inr x8 =>
      simp only[Sum.elim_inr] at h
      obtain rfl:=osi h
      exact Tri.of (x:=X46) mixed facts46 [(A46_1 x1),.call ⟨true,[]⟩ (.bool x6) [],.rows (List.map e_u8_i64_b x1),df,df,df,(A46_2 x2 x3),df,df,df,A46_3,.out (.fin (.tup [(.sl 3 (List.map e_u8_i64_b x8.1)),(.int .i64 x8.2)]) [])] [⟨(LT.blockFin (id:=0) (ok_lock_Take_l0 x1 x2 x3 x4 _ k 0 e4))⟩,⟨(nF c3)⟩,⟨(nF c2)⟩,⟨(nF c2)⟩,⟨(ok_lock_may x2 x3)⟩,⟨(nF c2)⟩,⟨(nF c2)⟩,⟨(nF c2)⟩,⟨(ok_lock_Right k x1 _ e1)⟩,⟨(part_all e_u8_i64_b (l:=x1) (n:=x1.length) rfl)⟩,⟨(le_map e_u8_i64_b (Nat.le_refl x1.length):0+x1.length≤(List.map e_u8_i64_b x1).length)⟩,⟨(ok_slices_Clone k x1 _ e0)⟩] (by kernel_rfl)
   rw[if_neg c3] at h;replace c3:=eqf c3
   obtain rfl:=osi h
   exact Tri.of (x:=X46) mixed facts46 [(A46_1 x1),.call ⟨true,[]⟩ (.bool x6) [],.rows (List.map e_u8_i64_b x1),df,df,df,(A46_2 x2 x3),df,df,dt,.rows (List.map e_u8_i64_b x1)] [⟨(part_all e_u8_i64_b (l:=x1) (n:=x1.length) rfl)⟩,⟨(le_map e_u8_i64_b (Nat.le_refl x1.length):0+x1.length≤(List.map e_u8_i64_b x1).length)⟩,⟨(nT c3)⟩,⟨(nF c2)⟩,⟨(nF c2)⟩,⟨(ok_lock_may x2 x3)⟩,⟨(nF c2)⟩,⟨(nF c2)⟩,⟨(nF c2)⟩,⟨(ok_lock_Right k x1 _ e1)⟩,⟨(part_all e_u8_i64_b (l:=x1) (n:=x1.length) rfl)⟩,⟨(le_map e_u8_i64_b (Nat.le_refl x1.length):0+x1.length≤(List.map e_u8_i64_b x1).length)⟩,⟨(ok_slices_Clone k x1 _ e0)⟩] (by kernel_rfl)
 rw[if_neg c2] at h;replace c2:=eqf c2
 obtain rfl:=osi h
 exact Tri.of (x:=X46) mixed facts46 [(A46_1 x1),.call ⟨true,[]⟩ (.bool x6) [],.rows (List.map e_u8_i64_b x1),dt,dt,dt,dt,dt,dt,.rows (List.map e_u8_i64_b x1)] [⟨(part_all e_u8_i64_b (l:=x1) (n:=x1.length) rfl)⟩,⟨(le_map e_u8_i64_b (Nat.le_refl x1.length):0+x1.length≤(List.map e_u8_i64_b x1).length)⟩,⟨rT⟩,⟨(nT c2)⟩,⟨(nT c2)⟩,⟨(nT c2)⟩,⟨(nT c2)⟩,⟨(nT c2)⟩,⟨(ok_lock_Right k x1 _ e1)⟩,⟨(part_all e_u8_i64_b (l:=x1) (n:=x1.length) rfl)⟩,⟨(le_map e_u8_i64_b (Nat.le_refl x1.length):0+x1.length≤(List.map e_u8_i64_b x1).length)⟩,⟨(ok_slices_Clone k x1 _ e0)⟩] (by kernel_rfl)
end Go.Ws

namespace Go.Ws
open Go.Proofs
set_option linter.unusedSimpArgs false
set_option linter.unusedVariables false
set_option maxRecDepth 1000000
set_option maxHeartbeats 4000000
noncomputable def X76 (x4:Int):Ctx:=⟨Try.f76,[(.row [(.int .i64 x4)])],false⟩
theorem ok_lock_Free_1 (x1:Int) (x2:Int) (x3:Bool) (x4:Int):Tri Try.prog 76 [(.agg [(.int .u8 x1),(.int .i64 x2),(.bool x3)]),(.hp 0 0)] [(.row [(.int .i64 x4)])] (.bool (eqI x2 x4)) [(.row [(.int .i64 x4)])]:=by
 obtain⟨r,h⟩:∃r,lock_Free_1 x1 x2 x3 x4=r:=⟨_,rfl⟩
 try rw[h]
 unfold lock_Free_1 at h
 obtain rfl:=h
 exact Tri.of (x:=(X76 x4)) mixed facts76 [.norm 0 ⟨[(3,[])],[],false,[],[]⟩] [] (by kernel_rfl)
end Go.Ws

namespace Go.Ws
open Go.Proofs
set_option linter.unusedSimpArgs false
set_option linter.unusedVariables false
set_option maxRecDepth 1000000
set_option maxHeartbeats 4000000
noncomputable def X93 (x1:Ty12) (x2:Int):Ctx:=⟨Try.f93,[(.arr 3 (List.map e_u8_i64_b x1) 0 0 false),(.row [(.int .i64 x2)])],false⟩
noncomputable def L93_0:Code:=at_ Try.f93 [1,0,1,4,5]
def S93_0 (x1:Ty12) (x2:Int) (v93001_1:Int):St:=⟨mkT 19 [(0,(.ref 3 0 0 0 x1.length .virt)),(1,(.fn 76 [(.hp 1 0)])),(7,(.int .i64 (nI x1.length))),(8,(.int .i64 v93001_1))],[(.arr 3 (List.map e_u8_i64_b x1) 0 0 false),(.row [(.int .i64 x2)])]⟩
def E93_0_0 (x1:Ty12) (x2:Int):St:=⟨mkT 19 [],[(.arr 3 (List.map e_u8_i64_b x1) 0 0 false),(.row [(.int .i64 x2)])]⟩
def O93_0 (x1:Ty12) (x2:Int) (y:(Sum (Unit) (Int))):GX:=match y with
 | .inl y=>.st (.exit 0) (E93_0_0 x1 x2)
 | .inr y=>.fin (.int .i64 y) [(.arr 3 (List.map e_u8_i64_b x1) 0 0 false),(.row [(.int .i64 x2)])]
theorem ok_slices_IndexFunc_l0 (x1:Ty12) (x2:Int) (y:(Sum (Unit) (Int))):∀(k:Nat) (v93001_1:Int),slices_IndexFunc_l0 k x1 x2 v93001_1=some y→LT Try.prog (X93 x1 x2) L93_0 (S93_0 x1 x2 v93001_1) (O93_0 x1 x2 y)
 | 0,v93001_1,h=>by cases h
 | k+1,v93001_1,h=>by
  rw[slices_IndexFunc_l0] at h
  by_cases cL0:ltI v93001_1 (nI x1.length)=true
  · rw[if_pos cL0] at h
    by_cases cL1:inI v93001_1 x1.length=true
    · rw[if_pos cL1] at h
      obtain⟨v93000_1,eL2,h⟩:=bsm h
      by_cases cL3:eqI v93000_1.2.1 x2=true
      · rw[if_pos cL3] at h
        obtain rfl:=osi h
        show LT _ _ _ _ (.fin (.int .i64 v93001_1) [(.arr 3 (List.map e_u8_i64_b x1) 0 0 false),(.row [(.int .i64 x2)])])
        exact LT.done mixed (hs:=⟨[],[],false,[],[]⟩) (es:=none) [dt,.row [(.int .u8 v93000_1.1),(.int .i64 v93000_1.2.1),(.bool v93000_1.2.2)],.call ⟨false,[]⟩ (.bool (eqI v93000_1.2.1 x2)) [(.row [(.int .i64 x2)])],dt,.norm 0 ⟨[(4,[])],[],false,[],[]⟩] [⟨cL3⟩,⟨(ok_lock_Free_1 v93000_1.1 v93000_1.2.1 v93000_1.2.2 x2)⟩,⟨(cells_map (e:=e_u8_i64_b) eL2 3 0 3 (by decide))⟩,⟨cL1⟩,⟨cL0⟩] (by kernel_rfl) (fun s h=>by cases h)
      rw[if_neg cL3] at h;replace cL3:=eqf cL3
      exact LT.next mixed (hs:=⟨[(0,[]),(1,[]),(7,[]),(8,[])],[],false,[],[]⟩) (es:=none) [dt,.row [(.int .u8 v93000_1.1),(.int .i64 v93000_1.2.1),(.bool v93000_1.2.2)],.call ⟨false,[]⟩ (.bool (eqI v93000_1.2.1 x2)) [(.row [(.int .i64 x2)])],df] [⟨cL3⟩,⟨(ok_lock_Free_1 v93000_1.1 v93000_1.2.1 v93000_1.2.2 x2)⟩,⟨(cells_map (e:=e_u8_i64_b) eL2 3 0 3 (by decide))⟩,⟨cL1⟩,⟨cL0⟩] (by kernel_rfl) (ok_slices_IndexFunc_l0 x1 x2 y k (iadd .i64 v93001_1 1) h)
    rw[if_neg cL1] at h;replace cL1:=eqf cL1
    cases h
  rw[if_neg cL0] at h;replace cL0:=eqf cL0
  obtain rfl:=osi h
  show LT _ _ _ _ (.st (.exit 0) (E93_0_0 x1 x2))
  exact LT.done mixed (hs:=⟨[],[],false,[],[]⟩) (es:=(some ⟨[],[],false,[],[]⟩)) [df] [⟨cL0⟩] (by kernel_rfl) (fun s h=>by cases h)
theorem ok_slices_IndexFunc (k:Nat) (x1:Ty12) (x2:Int) (r:Int) (h:slices_IndexFunc k x1 x2=some r):Tri Try.prog 93 [(.ref 3 0 0 0 x1.length .virt),(.fn 76 [(.hp 1 0)])] [(.arr 3 (List.map e_u8_i64_b x1) 0 0 false),(.row [(.int .i64 x2)])] (.int .i64 r) [(.arr 3 (List.map e_u8_i64_b x1) 0 0 false),(.row [(.int .i64 x2)])]:=by
 unfold slices_IndexFunc at h
 obtain⟨x3,e0,h⟩:=bsm h
 cases x3 with
 | inl x4 =>
  simp only[Sum.elim_inl] at h
  obtain rfl:=osi h
  exact Tri.of (x:=(X93 x1 x2)) mixed facts93 [.norm 2 ⟨[(0,[]),(1,[]),(7,[]),(8,[])],[],false,[],[]⟩,.out (.st .normal (E93_0_0 x1 x2)),.norm 0 ⟨[(4,[])],[],false,[],[]⟩] [⟨(LT.block (ok_slices_IndexFunc_l0 x1 x2 _ k 0 e0))⟩] (by kernel_rfl)
 | inr x4 =>
  simp only[Sum.elim_inr] at h
  obtain rfl:=osi h
  exact Tri.of (x:=(X93 x1 x2)) mixed facts93 [.norm 2 ⟨[(0,[]),(1,[]),(7,[]),(8,[])],[],false,[],[]⟩,.out (.fin (.int .i64 x4) [(.arr 3 (List.map e_u8_i64_b x1) 0 0 false),(.row [(.int .i64 x2)])])] [⟨(LT.blockFin (id:=0) (ok_slices_IndexFunc_l0 x1 x2 _ k 0 e0))⟩] (by kernel_rfl)
end Go.Ws

namespace Go.Ws
open Go.Proofs
set_option linter.unusedSimpArgs false
set_option linter.unusedVariables false
set_option maxRecDepth 1000000
set_option maxHeartbeats 4000000
noncomputable def X75 (x1:Ty12) (x2:Int):Ctx:=⟨Try.f75,[(.arr 3 (List.map e_u8_i64_b x1) 0 0 false),(.row [(.int .i64 x2)])],false⟩
noncomputable def L75_0:Code:=at_ Try.f75 [1,1,1,0,1,4,5]
def S75_0 (x1:Ty12) (x2:Int) (v75001_1:Int) (v75001_2:Int) (v75001_3:Ty12):St:=⟨mkT 42 [(0,(.ref 3 0 0 0 x1.length .virt)),(1,(.fn 76 [(.hp 1 0)])),(5,(.int .i64 v75001_2)),(6,(.int .i64 v75001_1))],[(.arr 3 (List.map e_u8_i64_b v75001_3) 0 0 false),(.row [(.int .i64 x2)])]⟩
def E75_0_0 (x1:Ty12) (x2:Int) (v75002_1:Int) (v75002_2:Ty12):St:=⟨mkT 42 [(0,(.ref 3 0 0 0 x1.length .virt)),(5,(.int .i64 v75002_1))],[(.arr 3 (List.map e_u8_i64_b v75002_2) 0 0 false),(.row [(.int .i64 x2)])]⟩
def O75_0 (x1:Ty12) (x2:Int) (y:(Int × Ty12)):GX:=.st (.exit 0) (E75_0_0 x1 x2 y.1 y.2)
def A75_0 (x1:Ty12) (x2:Int) (x3:Int):Ans:=.call ⟨false,[]⟩ (.int .i64 x3) [(.arr 3 (List.map e_u8_i64_b x1) 0 0 false),(.row [(.int .i64 x2)])]
theorem ok_slices_DeleteFunc_l0 (x1:Ty12) (x2:Int) (y:(Int × Ty12)):∀(k:Nat) (v75001_1:Int) (v75001_2:Int) (v75001_3:Ty12),slices_DeleteFunc_l0 k x1 x2 v75001_1 v75001_2 v75001_3=some y→LT Try.prog (X75 x1 x2) L75_0 (S75_0 x1 x2 v75001_1 v75001_2 v75001_3) (O75_0 x1 x2 y)
 | 0,v75001_1,v75001_2,v75001_3,h=>by cases h
 | k+1,v75001_1,v75001_2,v75001_3,h=>by
  rw[slices_DeleteFunc_l0] at h
  by_cases cL0:ltI v75001_1 (nI x1.length)=true
  · rw[if_pos cL0] at h
    by_cases cL1:inI v75001_1 x1.length=true
    · rw[if_pos cL1] at h
      obtain⟨v75000_1,eL2,h⟩:=bsm h
      by_cases cL3:eqI v75000_1.2.1 x2=true
      · rw[if_pos cL3] at h
        exact LT.next mixed (hs:=⟨[(0,[]),(1,[]),(5,[]),(6,[])],[],false,[],[]⟩) (es:=none) [dt,.row [(.int .u8 v75000_1.1),(.int .i64 v75000_1.2.1),(.bool v75000_1.2.2)],.call ⟨false,[]⟩ (.bool (eqI v75000_1.2.1 x2)) [(.row [(.int .i64 x2)])],df] [⟨(nF cL3)⟩,⟨(ok_lock_Free_1 v75000_1.1 v75000_1.2.1 v75000_1.2.2 x2)⟩,⟨(cells_map (e:=e_u8_i64_b) eL2 3 0 3 (by decide))⟩,⟨cL1⟩,⟨cL0⟩] (by kernel_rfl) (ok_slices_DeleteFunc_l0 x1 x2 y k (iadd .i64 v75001_1 1) v75001_2 v75001_3 h)
      rw[if_neg cL3] at h;replace cL3:=eqf cL3
      by_cases cL4:inI v75001_2 x1.length=true
      · rw[if_pos cL4] at h
        obtain⟨v75000_2,eL5,h⟩:=bsm h
        exact LT.next mixed (hs:=⟨[(0,[]),(1,[]),(5,[]),(6,[])],[],false,[],[]⟩) (es:=none) [dt,.row [(.int .u8 v75000_1.1),(.int .i64 v75000_1.2.1),(.bool v75000_1.2.2)],.call ⟨false,[]⟩ (.bool (eqI v75000_1.2.1 x2)) [(.row [(.int .i64 x2)])],dt,.rows (List.map e_u8_i64_b (List.set v75001_3 (tN v75001_2) v75000_1))] [⟨(store_map (e:=e_u8_i64_b) eL5 0 [(.int .u8 v75000_1.1),(.int .i64 v75000_1.2.1),(.bool v75000_1.2.2)] v75000_1 rfl)⟩,⟨cL4⟩,⟨(nT cL3)⟩,⟨(ok_lock_Free_1 v75000_1.1 v75000_1.2.1 v75000_1.2.2 x2)⟩,⟨(cells_map (e:=e_u8_i64_b) eL2 3 0 3 (by decide))⟩,⟨cL1⟩,⟨cL0⟩] (by kernel_rfl) (ok_slices_DeleteFunc_l0 x1 x2 y k (iadd .i64 v75001_1 1) (iadd .i64 v75001_2 1) (List.set v75001_3 (tN v75001_2) v75000_1) h)
      rw[if_neg cL4] at h;replace cL4:=eqf cL4
      cases h
    rw[if_neg cL1] at h;replace cL1:=eqf cL1
    cases h
  rw[if_neg cL0] at h;replace cL0:=eqf cL0
  obtain rfl:=osi h
  show LT _ _ _ _ (.st (.exit 0) (E75_0_0 x1 x2 v75001_2 v75001_3))
  exact LT.done mixed (hs:=⟨[],[],false,[],[]⟩) (es:=(some ⟨[(0,[]),(5,[])],[],false,[],[]⟩)) [df] [⟨cL0⟩] (by kernel_rfl) (fun s h=>by cases h)
theorem ok_slices_DeleteFunc (k:Nat) (x1:Ty12) (x2:Int) (r:Nat × Ty12) (h:slices_DeleteFunc k x1 x2=some r):Tri Try.prog 75 [(.ref 3 0 0 0 x1.length .virt),(.fn 76 [(.hp 1 0)])] [(.arr 3 (List.map e_u8_i64_b x1) 0 0 false),(.row [(.int .i64 x2)])] (.ref 3 0 0 0 r.1 .virt) [(.arr 3 (List.map e_u8_i64_b r.2) 0 0 false),(.row [(.int .i64 x2)])]:=by
 unfold slices_DeleteFunc at h
 obtain⟨x3,e0,h⟩:=bsm h
 by_cases c1:eqI x3 (-1)=true
 · rw[if_pos c1] at h
   obtain rfl:=osi h
   exact Tri.of (x:=(X75 x1 x2)) mixed facts75 [(A75_0 x1 x2 x3),dt,.norm 0 ⟨[(4,[])],[],false,[],[]⟩] [⟨c1⟩,⟨(ok_slices_IndexFunc k x1 x2 _ e0)⟩] (by kernel_rfl)
 rw[if_neg c1] at h;replace c1:=eqf c1
 obtain⟨x5,e2,h⟩:=bsm h
 by_cases c4:isZ x1.length=true
 · rw[if_pos c4] at h
   cases h
 rw[if_neg c4] at h;replace c4:=eqf c4
 by_cases c5:capI x1.length x5.2.length=true
 · rw[if_pos c5] at h
   by_cases c6:leI x5.1 x1.length=true
   · rw[if_pos c6] at h
     by_cases c7:isZ (x1.length - (tN x5.1))=true
     · rw[if_pos c7] at h
       by_cases c8:leI x5.1 x5.2.length=true
       · rw[if_pos c8] at h
         obtain rfl:=osi h
         exact Tri.of (x:=(X75 x1 x2)) mixed facts75 [(A75_0 x1 x2 x3),df,.norm 2 ⟨[(0,[]),(1,[]),(5,[]),(6,[])],[],false,[],[]⟩,.out (.st .normal (E75_0_0 x1 x2 x5.1 x5.2)),df,.n x5.2.length,.n x5.2.length,.n (tN x5.1),.n (x1.length - (tN x5.1)),dt,df,.n x5.2.length,.n x5.2.length,.n 0,.n (tN x5.1),.norm 0 ⟨[(4,[])],[],false,[],[]⟩] [⟨(rfl:(tN x5.1) - 0=tN x5.1)⟩,⟨((Nat.zero_add _):0+0=0)⟩,⟨c8⟩,⟨(rfl:x5.2.length - 0=x5.2.length)⟩,⟨(zadd_le ((cap_le c5):x1.length≤x5.2.length))⟩,⟨(len_map e_u8_i64_b x5.2)⟩,⟨c4⟩,⟨c7⟩,⟨(rfl:x1.length - (tN x5.1)=x1.length - (tN x5.1))⟩,⟨((Nat.zero_add _):0+(tN x5.1)=tN x5.1)⟩,⟨c6⟩,⟨(rfl:x5.2.length - 0=x5.2.length)⟩,⟨(zadd_le ((cap_le c5):x1.length≤x5.2.length))⟩,⟨(len_map e_u8_i64_b x5.2)⟩,⟨c4⟩,⟨(LT.block (ok_slices_DeleteFunc_l0 x1 x2 _ k (iadd .i64 x3 1) x3 x1 e2))⟩,⟨c1⟩,⟨(ok_slices_IndexFunc k x1 x2 _ e0)⟩] (by kernel_rfl)
       rw[if_neg c8] at h;replace c8:=eqf c8
       cases h
     rw[if_neg c7] at h;replace c7:=eqf c7
     by_cases c8:capI (tN x5.1+(x1.length - (tN x5.1))) x5.2.length=true
     · rw[if_pos c8] at h
       by_cases c9:capI (tN x5.1) x5.2.length=true
       · rw[if_pos c9] at h
         by_cases c10:capI x1.length ((((List.take (tN x5.1) x5.2)++(List.replicate (x1.length - (tN x5.1)) (0,0,false)))++(List.drop (tN x5.1+(x1.length - (tN x5.1))) x5.2)).length)=true
         · rw[if_pos c10] at h
           by_cases c11:leI x5.1 ((((List.take (tN x5.1) x5.2)++(List.replicate (x1.length - (tN x5.1)) (0,0,false)))++(List.drop (tN x5.1+(x1.length - (tN x5.1))) x5.2)).length)=true
           · rw[if_pos c11] at h
             obtain rfl:=osi h
             exact Tri.of (x:=(X75 x1 x2)) mixed facts75 [(A75_0 x1 x2 x3),df,.norm 2 ⟨[(0,[]),(1,[]),(5,[]),(6,[])],[],false,[],[]⟩,.out (.st .normal (E75_0_0 x1 x2 x5.1 x5.2)),df,.n x5.2.length,.n x5.2.length,.n (tN x5.1),.n (x1.length - (tN x5.1)),df,.rows (List.map e_u8_i64_b (((List.take (tN x5.1) x5.2)++(List.replicate (x1.length - (tN x5.1)) (0,0,false)))++(List.drop (tN x5.1+(x1.length - (tN x5.1))) x5.2))),df,.n ((((List.take (tN x5.1) x5.2)++(List.replicate (x1.length - (tN x5.1)) (0,0,false)))++(List.drop (tN x5.1+(x1.length - (tN x5.1))) x5.2)).length),.n ((((List.take (tN x5.1) x5.2)++(List.replicate (x1.length - (tN x5.1)) (0,0,false)))++(List.drop (tN x5.1+(x1.length - (tN x5.1))) x5.2)).length),.n 0,.n (tN x5.1),.norm 0 ⟨[(4,[])],[],false,[],[]⟩] [⟨(rfl:(tN x5.1) - 0=tN x5.1)⟩,⟨((Nat.zero_add _):0+0=0)⟩,⟨c11⟩,⟨(rfl:((((List.take (tN x5.1) x5.2)++(List.replicate (x1.length - (tN x5.1)) (0,0,false)))++(List.drop (tN x5.1+(x1.length - (tN x5.1))) x5.2)).length) - 0=(((List.take (tN x5.1) x5.2)++(List.replicate (x1.length - (tN x5.1)) (0,0,false)))++(List.drop (tN x5.1+(x1.length - (tN x5.1))) x5.2)).length)⟩,⟨(zadd_le ((cap_le c10):x1.length≤(((List.take (tN x5.1) x5.2)++(List.replicate (x1.length - (tN x5.1)) (0,0,false)))++(List.drop (tN x5.1+(x1.length - (tN x5.1))) x5.2)).length))⟩,⟨(len_map e_u8_i64_b (((List.take (tN x5.1) x5.2)++(List.replicate (x1.length - (tN x5.1)) (0,0,false)))++(List.drop (tN x5.1+(x1.length - (tN x5.1))) x5.2)))⟩,⟨c4⟩,⟨(clear_map e_u8_i64_b x5.2 (tN x5.1) (x1.length - (tN x5.1)) (0,0,false))⟩,⟨(le_mapI e_u8_i64_b (cap_le c8))⟩,⟨c7⟩,⟨(rfl:x1.length - (tN x5.1)=x1.length - (tN x5.1))⟩,⟨((Nat.zero_add _):0+(tN x5.1)=tN x5.1)⟩,⟨c6⟩,⟨(rfl:x5.2.length - 0=x5.2.length)⟩,⟨(zadd_le ((cap_le c5):x1.length≤x5.2.length))⟩,⟨(len_map e_u8_i64_b x5.2)⟩,⟨c4⟩,⟨(LT.block (ok_slices_DeleteFunc_l0 x1 x2 _ k (iadd .i64 x3 1) x3 x1 e2))⟩,⟨c1⟩,⟨(ok_slices_IndexFunc k x1 x2 _ e0)⟩] (by kernel_rfl)
           rw[if_neg c11] at h;replace c11:=eqf c11
           cases h
         rw[if_neg c10] at h;replace c10:=eqf c10
         cases h
       rw[if_neg c9] at h;replace c9:=eqf c9
       cases h
     rw[if_neg c8] at h;replace c8:=eqf c8
     cases h
   rw[if_neg c6] at h;replace c6:=eqf c6
   cases h
 rw[if_neg c5] at h;replace c5:=eqf c5
 cases h
end Go.Ws

namespace Go.Ws
open Go.Proofs
set_option linter.unusedSimpArgs false
set_option linter.unusedVariables false
set_option maxRecDepth 1000000
set_option maxHeartbeats 4000000
noncomputable def X52:Ctx:=⟨Try.f52,[],true⟩
theorem ok_lock_Free (k:Nat) (x1:Ty12) (x2:Int) (r:Ty12) (h:lock_Free k x1 x2=some r):Tri Try.prog 52 [(.sl 3 (List.map e_u8_i64_b x1)),(.int .i64 x2)] [] (.sl 3 (List.map e_u8_i64_b r)) []:=by
 unfold lock_Free at h
 obtain⟨x3,e0,h⟩:=bsm h
 obtain⟨x4,e1,h⟩:=bsm h
 by_cases c2:capI x4.1 x4.2.length=true
 · rw[if_pos c2] at h
   obtain rfl:=osi h
   exact Tri.of (x:=X52) mixed facts52 [.call ⟨true,[]⟩ (.ref 3 0 0 0 x1.length .virt) [(.arr 3 (List.map e_u8_i64_b x1) 0 0 false)],.call ⟨false,[]⟩ (.ref 3 0 0 0 x4.1 .virt) [(.arr 3 (List.map e_u8_i64_b x4.2) 0 0 false),(.row [(.int .i64 x2)])],.rows (List.map e_u8_i64_b (List.take x4.1 x4.2))] [⟨(part_take e_u8_i64_b x4.2 x4.1)⟩,⟨(le_map e_u8_i64_b (cap_le c2))⟩,⟨(ok_slices_DeleteFunc k x1 x2 _ e1)⟩,⟨(ok_slices_Clone k x1 _ e0)⟩] (by kernel_rfl)
 rw[if_neg c2] at h;replace c2:=eqf c2
 cases h
end Go.Ws

namespace Go.Ws
open Go.Proofs
set_option linter.unusedSimpArgs false
set_option linter.unusedVariables false
set_option maxRecDepth 1000000
set_option maxHeartbeats 4000000
noncomputable def X70_1001:Ctx:=⟨Try.f70,[],false⟩
theorem ok_slices_Clone_70_1001 (k:Nat) (x1:Ty16) (r:Unit) (h:slices_Clone_70_1001 k x1=some r):Tri Try.prog 70 [(.inl 2 (List.map e_u8_i64 x1))] [] (.ref 2 0 0 0 x1.length .virt) [(.arr 2 (List.map e_u8_i64 x1) 0 0 false)]:=by
 unfold slices_Clone_70_1001 at h
 by_cases c0:roomI (x1.length*16)=true
 · rw[if_pos c0] at h
   obtain rfl:=osi h
   exact Tri.of (x:=X70_1001) mixed facts70 [df,.n x1.length,.norm 0 ⟨[(2,[])],[⟨.tmp 2,[],some 2⟩],false,[],[]⟩,.n x1.length,.rows (List.map e_u8_i64 x1)] [⟨(take_all e_u8_i64 (l:=x1) (n:=x1.length) rfl)⟩,⟨(rfl:x1.length=x1.length)⟩,⟨(zle x1.length)⟩,⟨c0⟩,⟨(len_map e_u8_i64 x1)⟩,⟨rF⟩] (by kernel_rfl)
 rw[if_neg c0] at h;replace c0:=eqf c0
 cases h
end Go.Ws

namespace Go.Ws
open Go.Proofs
set_option linter.unusedSimpArgs false
set_option linter.unusedVariables false
set_option maxRecDepth 1000000
set_option maxHeartbeats 4000000
noncomputable def X70_1002:Ctx:=⟨Try.f70,[],false⟩
theorem ok_slices_Clone_70_1002:Tri Try.prog 70 [.nils] [] (.ref 2 0 0 0 0 .virt) [(.arr 2 (List.map e_u8_i64 []) 0 0 false)]:=by
 obtain⟨r,h⟩:∃r,slices_Clone_70_1002=r:=⟨_,rfl⟩
 try rw[h]
 unfold slices_Clone_70_1002 at h
 obtain rfl:=h
 exact Tri.of (x:=X70_1002) mixed facts70 [dt,.norm 0 ⟨[(2,[])],[⟨.tmp 2,[],some 2⟩],false,[],[]⟩,.n 0,.rows (List.map e_u8_i64 [])] [⟨(take_all e_u8_i64 (l:=[]) (n:=0) rfl)⟩,⟨(rfl:0=0)⟩,⟨(zle 0)⟩,⟨rT⟩] (by kernel_rfl)
end Go.Ws

namespace Go.Ws
open Go.Proofs
set_option linter.unusedSimpArgs false
set_option linter.unusedVariables false
set_option maxRecDepth 1000000
set_option maxHeartbeats 4000000
theorem ok_slices_Clone_70 (k:Nat) (x1:Ty16) (r:Unit) (h:slices_Clone_70 k x1=some r):Tri Try.prog 70 [(.sl 2 (List.map e_u8_i64 x1))] [] (.ref 2 0 0 0 x1.length .virt) [(.arr 2 (List.map e_u8_i64 x1) 0 0 false)]:=by
 refine Tri.slOf (ok_slices_Clone_70_1001 k x1 r h) fun h0=>?_
 have hx:x1=[]:=by simpa using h0
 subst hx
 exact ok_slices_Clone_70_1002
end Go.Ws

namespace Go.Ws
open Go.Proofs
set_option linter.unusedSimpArgs false
set_option linter.unusedVariables false
set_option maxRecDepth 1000000
set_option maxHeartbeats 4000000
noncomputable def X71:Ctx:=⟨Try.f71,[],true⟩
noncomputable def L71_0:Code:=at_ Try.f71 [1,0,1,4,5]
def S71_0 (x1:Ty16) (v71001_1:Int):St:=⟨mkT 36 [(0,(.sl 2 (List.map e_u8_i64 x1))),(5,(.sl 2 (List.map e_u8_i64 x1))),(6,(.int .i64 (nI x1.length))),(7,(.int .i64 v71001_1))],[]⟩
def E71_0_0:St:=⟨mkT 36 [],[]⟩
def O71_0 (x1:Ty16) (y:Ty14):GX:=match y with
 | .inl y=>.st (.exit 0) (E71_0_0)
 | .inr y=>.fin (.bool y) []
def A71_0 (v71000_1:Int × Int):Ans:=.row [(.int .u8 v71000_1.1),(.int .i64 v71000_1.2)]
theorem ok_ledger_Right_l0 (x1:Ty16) (y:Ty14):∀(k:Nat) (v71001_1:Int),ledger_Right_l0 k x1 v71001_1=some y→LT Try.prog X71 L71_0 (S71_0 x1 v71001_1) (O71_0 x1 y)
 | 0,v71001_1,h=>by cases h
 | k+1,v71001_1,h=>by
  rw[ledger_Right_l0] at h
  by_cases cL0:ltI v71001_1 (nI x1.length)=true
  · rw[if_pos cL0] at h
    by_cases cL1:inI v71001_1 x1.length=true
    · rw[if_pos cL1] at h
      obtain⟨v71000_1,eL2,h⟩:=bsm h
      by_cases cL3:ltI v71000_1.1 64=true
      · rw[if_pos cL3] at h
        by_cases cL4:eqI v71000_1.2 0=true
        · rw[if_pos cL4] at h
          obtain rfl:=osi h
          show LT _ _ _ _ (.fin (.bool false) [])
          exact LT.done mixed (hs:=⟨[],[],false,[],[]⟩) (es:=none) [dt,.n x1.length,(A71_0 v71000_1),df,df,df,df,dt,dt,dt,dt,dt,dt] [⟨rT⟩,⟨cL4⟩,⟨cL4⟩,⟨cL4⟩,⟨cL4⟩,⟨cL4⟩,⟨(nF cL3)⟩,⟨(nF cL3)⟩,⟨(nF cL3)⟩,⟨(nF cL3)⟩,⟨(cells_map (e:=e_u8_i64) eL2 2 0 2 (by decide))⟩,⟨cL1⟩,⟨(len_map e_u8_i64 x1)⟩,⟨cL0⟩] (by kernel_rfl) (fun s h=>by cases h)
        rw[if_neg cL4] at h;replace cL4:=eqf cL4
        by_cases cL5:ltI 0 v71001_1=true
        · rw[if_pos cL5] at h
          by_cases cL6:inI (isub .i64 v71001_1 1) x1.length=true
          · rw[if_pos cL6] at h
            obtain⟨v71000_2,eL7,h⟩:=bsm h
            by_cases cL8:ltI v71000_2.1 v71000_1.1=true
            · rw[if_pos cL8] at h
              exact LT.next mixed (hs:=⟨[(0,[]),(5,[]),(6,[]),(7,[])],[],false,[],[]⟩) (es:=none) [dt,.n x1.length,(A71_0 v71000_1),df,df,df,df,df,df,df,dt,dt,dt,dt,.n x1.length,dt,dt,.row [(.int .u8 v71000_2.1)],dt,dt,dt,df,dt,df,df] [⟨(nF cL8)⟩,⟨cL4⟩,⟨cL5⟩,⟨cL4⟩,⟨cL5⟩,⟨cL5⟩,⟨cL5⟩,⟨(cells_map (e:=e_u8_i64) eL7 2 0 1 (by decide))⟩,⟨cL5⟩,⟨cL5⟩,⟨cL6⟩,⟨(len_map e_u8_i64 x1)⟩,⟨cL5⟩,⟨cL5⟩,⟨cL5⟩,⟨cL5⟩,⟨cL4⟩,⟨cL4⟩,⟨cL4⟩,⟨(nF cL3)⟩,⟨(nF cL3)⟩,⟨(nF cL3)⟩,⟨(nF cL3)⟩,⟨(cells_map (e:=e_u8_i64) eL2 2 0 2 (by decide))⟩,⟨cL1⟩,⟨(len_map e_u8_i64 x1)⟩,⟨cL0⟩] (by kernel_rfl) (ok_ledger_Right_l0 x1 y k (iadd .i64 v71001_1 1) h)
            rw[if_neg cL8] at h;replace cL8:=eqf cL8
            obtain rfl:=osi h
            show LT _ _ _ _ (.fin (.bool false) [])
            exact LT.done mixed (hs:=⟨[],[],false,[],[]⟩) (es:=none) [dt,.n x1.length,(A71_0 v71000_1),df,df,df,df,df,df,df,dt,dt,dt,dt,.n x1.length,dt,dt,.row [(.int .u8 v71000_2.1)],dt,dt,dt,df,dt,df,dt] [⟨(nT cL8)⟩,⟨cL4⟩,⟨cL5⟩,⟨cL4⟩,⟨cL5⟩,⟨cL5⟩,⟨cL5⟩,⟨(cells_map (e:=e_u8_i64) eL7 2 0 1 (by decide))⟩,⟨cL5⟩,⟨cL5⟩,⟨cL6⟩,⟨(len_map e_u8_i64 x1)⟩,⟨cL5⟩,⟨cL5⟩,⟨cL5⟩,⟨cL5⟩,⟨cL4⟩,⟨cL4⟩,⟨cL4⟩,⟨(nF cL3)⟩,⟨(nF cL3)⟩,⟨(nF cL3)⟩,⟨(nF cL3)⟩,⟨(cells_map (e:=e_u8_i64) eL2 2 0 2 (by decide))⟩,⟨cL1⟩,⟨(len_map e_u8_i64 x1)⟩,⟨cL0⟩] (by kernel_rfl) (fun s h=>by cases h)
          rw[if_neg cL6] at h;replace cL6:=eqf cL6
          cases h
        rw[if_neg cL5] at h;replace cL5:=eqf cL5
        exact LT.next mixed (hs:=⟨[(0,[]),(5,[]),(6,[]),(7,[])],[],false,[],[]⟩) (es:=none) [dt,.n x1.length,(A71_0 v71000_1),df,df,df,df,df,df,df,df,df,df,df,df,df,df,df,df,df,df,df,df] [⟨rF⟩,⟨cL4⟩,⟨cL5⟩,⟨cL4⟩,⟨cL5⟩,⟨cL5⟩,⟨cL5⟩,⟨cL5⟩,⟨cL5⟩,⟨cL5⟩,⟨cL5⟩,⟨cL5⟩,⟨cL5⟩,⟨cL4⟩,⟨cL4⟩,⟨cL4⟩,⟨(nF cL3)⟩,⟨(nF cL3)⟩,⟨(nF cL3)⟩,⟨(nF cL3)⟩,⟨(cells_map (e:=e_u8_i64) eL2 2 0 2 (by decide))⟩,⟨cL1⟩,⟨(len_map e_u8_i64 x1)⟩,⟨cL0⟩] (by kernel_rfl) (ok_ledger_Right_l0 x1 y k (iadd .i64 v71001_1 1) h)
      rw[if_neg cL3] at h;replace cL3:=eqf cL3
      obtain rfl:=osi h
      show LT _ _ _ _ (.fin (.bool false) [])
      exact LT.done mixed (hs:=⟨[],[],false,[],[]⟩) (es:=none) [dt,.n x1.length,(A71_0 v71000_1),dt,dt,dt,dt,dt,dt,dt,dt,dt,dt] [⟨rT⟩,⟨rT⟩,⟨rT⟩,⟨rT⟩,⟨rT⟩,⟨rT⟩,⟨(nT cL3)⟩,⟨(nT cL3)⟩,⟨(nT cL3)⟩,⟨(nT cL3)⟩,⟨(cells_map (e:=e_u8_i64) eL2 2 0 2 (by decide))⟩,⟨cL1⟩,⟨(len_map e_u8_i64 x1)⟩,⟨cL0⟩] (by kernel_rfl) (fun s h=>by cases h)
    rw[if_neg cL1] at h;replace cL1:=eqf cL1
    cases h
  rw[if_neg cL0] at h;replace cL0:=eqf cL0
  obtain rfl:=osi h
  show LT _ _ _ _ (.st (.exit 0) (E71_0_0))
  exact LT.done mixed (hs:=⟨[],[],false,[],[]⟩) (es:=(some ⟨[],[],false,[],[]⟩)) [df] [⟨cL0⟩] (by kernel_rfl) (fun s h=>by cases h)
theorem ok_ledger_Right (k:Nat) (x1:Ty16) (r:Bool) (h:ledger_Right k x1=some r):Tri Try.prog 71 [(.sl 2 (List.map e_u8_i64 x1))] [] (.bool r) []:=by
 unfold ledger_Right at h
 obtain⟨x2,e0,h⟩:=bsm h
 cases x2 with
 | inl x3 =>
  simp only[Sum.elim_inl] at h
  obtain rfl:=osi h
  exact Tri.of (x:=X71) mixed facts71 [.n x1.length,.norm 2 ⟨[(0,[]),(5,[]),(6,[]),(7,[])],[],false,[],[]⟩,.out (.st .normal (E71_0_0))] [⟨(LT.block (ok_ledger_Right_l0 x1 _ k 0 e0))⟩,⟨(len_map e_u8_i64 x1)⟩] (by kernel_rfl)
 | inr x3 =>
  simp only[Sum.elim_inr] at h
  obtain rfl:=osi h
  exact Tri.of (x:=X71) mixed facts71 [.n x1.length,.norm 2 ⟨[(0,[]),(5,[]),(6,[]),(7,[])],[],false,[],[]⟩,.out (.fin (.bool x3) [])] [⟨(LT.blockFin (id:=0) (ok_ledger_Right_l0 x1 _ k 0 e0))⟩,⟨(len_map e_u8_i64 x1)⟩] (by kernel_rfl)
end Go.Ws

namespace Go.Ws
open Go.Proofs
set_option linter.unusedSimpArgs false
set_option linter.unusedVariables false
set_option maxRecDepth 1000000
set_option maxHeartbeats 4000000
noncomputable def X69:Ctx:=⟨Try.f69,[],false⟩
theorem ok_ledger_Put_1 (x1:Int) (x2:Int):Tri Try.prog 69 [(.agg [(.int .u8 x1),(.int .i64 x2)])] [] (.bool (!ltI x1 64)) []:=by
 obtain⟨r,h⟩:∃r,ledger_Put_1 x1 x2=r:=⟨_,rfl⟩
 try rw[h]
 unfold ledger_Put_1 at h
 obtain rfl:=h
 exact Tri.of (x:=X69) mixed facts69 [.norm 0 ⟨[(2,[])],[],false,[],[]⟩] [] (by kernel_rfl)
end Go.Ws

namespace Go.Ws
open Go.Proofs
set_option linter.unusedSimpArgs false
set_option linter.unusedVariables false
set_option maxRecDepth 1000000
set_option maxHeartbeats 4000000
noncomputable def X60:Ctx:=⟨Try.f60,[],true⟩
noncomputable def L60_0:Code:=at_ Try.f60 [1,0,1,4,5]
def S60_0 (x1:Ty16) (v60001_1:Int):St:=⟨mkT 19 [(0,(.sl 2 (List.map e_u8_i64 x1))),(1,(.fn 69 [])),(7,(.int .i64 (nI x1.length))),(8,(.int .i64 v60001_1))],[]⟩
def E60_0_0:St:=⟨mkT 19 [],[]⟩
def O60_0 (x1:Ty16) (y:(Sum (Unit) (Int))):GX:=match y with
 | .inl y=>.st (.exit 0) (E60_0_0)
 | .inr y=>.fin (.int .i64 y) []
theorem ok_slices_IndexFunc_60_l0 (x1:Ty16) (y:(Sum (Unit) (Int))):∀(k:Nat) (v60001_1:Int),slices_IndexFunc_60_l0 k x1 v60001_1=some y→LT Try.prog X60 L60_0 (S60_0 x1 v60001_1) (O60_0 x1 y)
 | 0,v60001_1,h=>by cases h
 | k+1,v60001_1,h=>by
  rw[slices_IndexFunc_60_l0] at h
  by_cases cL0:ltI v60001_1 (nI x1.length)=true
  · rw[if_pos cL0] at h
    by_cases cL1:inI v60001_1 x1.length=true
    · rw[if_pos cL1] at h
      obtain⟨v60000_1,eL2,h⟩:=bsm h
      by_cases cL3:ltI v60000_1.1 64=true
      · rw[if_pos cL3] at h
        exact LT.next mixed (hs:=⟨[(0,[]),(1,[]),(7,[]),(8,[])],[],false,[],[]⟩) (es:=none) [dt,.n x1.length,.row [(.int .u8 v60000_1.1),(.int .i64 v60000_1.2)],.call ⟨false,[]⟩ (.bool (!ltI v60000_1.1 64)) [],df] [⟨(nF cL3)⟩,⟨(ok_ledger_Put_1 v60000_1.1 v60000_1.2)⟩,⟨(cells_map (e:=e_u8_i64) eL2 2 0 2 (by decide))⟩,⟨cL1⟩,⟨(len_map e_u8_i64 x1)⟩,⟨cL0⟩] (by kernel_rfl) (ok_slices_IndexFunc_60_l0 x1 y k (iadd .i64 v60001_1 1) h)
      rw[if_neg cL3] at h;replace cL3:=eqf cL3
      obtain rfl:=osi h
      show LT _ _ _ _ (.fin (.int .i64 v60001_1) [])
      exact LT.done mixed (hs:=⟨[],[],false,[],[]⟩) (es:=none) [dt,.n x1.length,.row [(.int .u8 v60000_1.1),(.int .i64 v60000_1.2)],.call ⟨false,[]⟩ (.bool (!ltI v60000_1.1 64)) [],dt] [⟨(nT cL3)⟩,⟨(ok_ledger_Put_1 v60000_1.1 v60000_1.2)⟩,⟨(cells_map (e:=e_u8_i64) eL2 2 0 2 (by decide))⟩,⟨cL1⟩,⟨(len_map e_u8_i64 x1)⟩,⟨cL0⟩] (by kernel_rfl) (fun s h=>by cases h)
    rw[if_neg cL1] at h;replace cL1:=eqf cL1
    cases h
  rw[if_neg cL0] at h;replace cL0:=eqf cL0
  obtain rfl:=osi h
  show LT _ _ _ _ (.st (.exit 0) (E60_0_0))
  exact LT.done mixed (hs:=⟨[],[],false,[],[]⟩) (es:=(some ⟨[],[],false,[],[]⟩)) [df] [⟨cL0⟩] (by kernel_rfl) (fun s h=>by cases h)
theorem ok_slices_IndexFunc_60 (k:Nat) (x1:Ty16) (r:Int) (h:slices_IndexFunc_60 k x1=some r):Tri Try.prog 60 [(.sl 2 (List.map e_u8_i64 x1)),(.fn 69 [])] [] (.int .i64 r) []:=by
 unfold slices_IndexFunc_60 at h
 obtain⟨x2,e0,h⟩:=bsm h
 cases x2 with
 | inl x3 =>
  simp only[Sum.elim_inl] at h
  obtain rfl:=osi h
  exact Tri.of (x:=X60) mixed facts60 [.n x1.length,.norm 2 ⟨[(0,[]),(1,[]),(7,[]),(8,[])],[],false,[],[]⟩,.out (.st .normal (E60_0_0))] [⟨(LT.block (ok_slices_IndexFunc_60_l0 x1 _ k 0 e0))⟩,⟨(len_map e_u8_i64 x1)⟩] (by kernel_rfl)
 | inr x3 =>
  simp only[Sum.elim_inr] at h
  obtain rfl:=osi h
  exact Tri.of (x:=X60) mixed facts60 [.n x1.length,.norm 2 ⟨[(0,[]),(1,[]),(7,[]),(8,[])],[],false,[],[]⟩,.out (.fin (.int .i64 x3) [])] [⟨(LT.blockFin (id:=0) (ok_slices_IndexFunc_60_l0 x1 _ k 0 e0))⟩,⟨(len_map e_u8_i64 x1)⟩] (by kernel_rfl)
end Go.Ws

namespace Go.Ws
open Go.Proofs
set_option linter.unusedSimpArgs false
set_option linter.unusedVariables false
set_option maxRecDepth 1000000
set_option maxHeartbeats 4000000
noncomputable def X42:Ctx:=⟨Try.f42,[],true⟩
theorem ok_slices_ContainsFunc (k:Nat) (x1:Ty16) (r:Bool) (h:slices_ContainsFunc k x1=some r):Tri Try.prog 42 [(.sl 2 (List.map e_u8_i64 x1)),(.fn 69 [])] [] (.bool r) []:=by
 unfold slices_ContainsFunc at h
 obtain⟨x2,e0,h⟩:=bsm h
 obtain rfl:=osi h
 exact Tri.of (x:=X42) mixed facts42 [.call ⟨true,[]⟩ (.int .i64 x2) []] [⟨(ok_slices_IndexFunc_60 k x1 _ e0)⟩] (by kernel_rfl)
end Go.Ws

namespace Go.Ws
open Go.Proofs
set_option linter.unusedSimpArgs false
set_option linter.unusedVariables false
set_option maxRecDepth 1000000
set_option maxHeartbeats 4000000
noncomputable def X90:Ctx:=⟨Try.f90,[],false⟩
theorem ok_ledger_find_1 (x1:Int) (x2:Int) (x3:Int):Tri Try.prog 90 [(.agg [(.int .u8 x1),(.int .i64 x2)]),(.int .u8 x3)] [] (.int .i64 (cmp_Compare x1 x3)) []:=by
 obtain⟨r,h⟩:∃r,ledger_find_1 x1 x2 x3=r:=⟨_,rfl⟩
 try rw[h]
 unfold ledger_find_1 at h
 obtain rfl:=h
 exact Tri.of (x:=X90) mixed facts90 [.call ⟨true,[]⟩ (.int .i64 (cmp_Compare x1 x3)) [],.norm 0 ⟨[(4,[])],[],false,[],[]⟩] [⟨(ok_cmp_Compare x1 x3)⟩] (by kernel_rfl)
end Go.Ws

namespace Go.Ws
open Go.Proofs
set_option linter.unusedSimpArgs false
set_option linter.unusedVariables false
set_option maxRecDepth 1000000
set_option maxHeartbeats 4000000
noncomputable def X89:Ctx:=⟨Try.f89,[],true⟩
noncomputable def L89_0:Code:=at_ Try.f89 [1,1,1,0,4,5]
def S89_0 (x1:Ty16) (x2:Int) (v89001_1:Int) (v89001_2:Int):St:=⟨mkT 49 [(0,(.sl 2 (List.map e_u8_i64 x1))),(1,(.int .u8 x2)),(2,(.fn 90 [])),(8,(.int .i64 (nI x1.length))),(9,(.int .i64 v89001_1)),(10,(.int .i64 v89001_2))],[]⟩
def E89_0_0 (x1:Ty16) (x2:Int) (v89002_1:Int):St:=⟨mkT 49 [(0,(.sl 2 (List.map e_u8_i64 x1))),(1,(.int .u8 x2)),(2,(.fn 90 [])),(8,(.int .i64 (nI x1.length))),(9,(.int .i64 v89002_1))],[]⟩
def O89_0 (x1:Ty16) (x2:Int) (y:(Int)):GX:=.st (.exit 0) (E89_0_0 x1 x2 y)
def A89_0:Ans:=.norm 2 ⟨[(0,[]),(1,[]),(2,[]),(8,[]),(9,[]),(10,[])],[],false,[],[]⟩
theorem ok_slices_BinarySearchFunc_89_l0 (x1:Ty16) (x2:Int) (y:(Int)):∀(k:Nat) (v89001_1:Int) (v89001_2:Int),slices_BinarySearchFunc_89_l0 k x1 x2 v89001_1 v89001_2=some y→LT Try.prog X89 L89_0 (S89_0 x1 x2 v89001_1 v89001_2) (O89_0 x1 x2 y)
 | 0,v89001_1,v89001_2,h=>by cases h
 | k+1,v89001_1,v89001_2,h=>by
  rw[slices_BinarySearchFunc_89_l0] at h
  by_cases cL0:ltI v89001_1 v89001_2=true
  · rw[if_pos cL0] at h
    by_cases cL1:inI (conv .i64 (ishr .u64 (conv .u64 (iadd .i64 v89001_1 v89001_2)) 1)) x1.length=true
    · rw[if_pos cL1] at h
      obtain⟨v89000_1,eL2,h⟩:=bsm h
      by_cases cL3:ltI (cmp_Compare v89000_1.1 x2) 0=true
      · rw[if_pos cL3] at h
        exact LT.next mixed (hs:=⟨[(0,[]),(1,[]),(2,[]),(8,[]),(9,[]),(10,[])],[],false,[],[]⟩) (es:=none) [dt,.n x1.length,.row [(.int .u8 v89000_1.1),(.int .i64 v89000_1.2)],.call ⟨false,[]⟩ (.int .i64 (cmp_Compare v89000_1.1 x2)) [],dt] [⟨cL3⟩,⟨(ok_ledger_find_1 v89000_1.1 v89000_1.2 x2)⟩,⟨(cells_map (e:=e_u8_i64) eL2 2 0 2 (by decide))⟩,⟨cL1⟩,⟨(len_map e_u8_i64 x1)⟩,⟨cL0⟩] (by kernel_rfl) (ok_slices_BinarySearchFunc_89_l0 x1 x2 y k (iadd .i64 (conv .i64 (ishr .u64 (conv .u64 (iadd .i64 v89001_1 v89001_2)) 1)) 1) v89001_2 h)
      rw[if_neg cL3] at h;replace cL3:=eqf cL3
      exact LT.next mixed (hs:=⟨[(0,[]),(1,[]),(2,[]),(8,[]),(9,[]),(10,[])],[],false,[],[]⟩) (es:=none) [dt,.n x1.length,.row [(.int .u8 v89000_1.1),(.int .i64 v89000_1.2)],.call ⟨false,[]⟩ (.int .i64 (cmp_Compare v89000_1.1 x2)) [],df] [⟨cL3⟩,⟨(ok_ledger_find_1 v89000_1.1 v89000_1.2 x2)⟩,⟨(cells_map (e:=e_u8_i64) eL2 2 0 2 (by decide))⟩,⟨cL1⟩,⟨(len_map e_u8_i64 x1)⟩,⟨cL0⟩] (by kernel_rfl) (ok_slices_BinarySearchFunc_89_l0 x1 x2 y k v89001_1 (conv .i64 (ishr .u64 (conv .u64 (iadd .i64 v89001_1 v89001_2)) 1)) h)
    rw[if_neg cL1] at h;replace cL1:=eqf cL1
    cases h
  rw[if_neg cL0] at h;replace cL0:=eqf cL0
  obtain rfl:=osi h
  show LT _ _ _ _ (.st (.exit 0) (E89_0_0 x1 x2 v89001_1))
  exact LT.done mixed (hs:=⟨[],[],false,[],[]⟩) (es:=(some ⟨[(0,[]),(1,[]),(2,[]),(8,[]),(9,[])],[],false,[],[]⟩)) [df] [⟨cL0⟩] (by kernel_rfl) (fun s h=>by cases h)
theorem ok_slices_BinarySearchFunc_89 (k:Nat) (x1:Ty16) (x2:Int) (r:Int × Bool) (h:slices_BinarySearchFunc_89 k x1 x2=some r):Tri Try.prog 89 [(.sl 2 (List.map e_u8_i64 x1)),(.int .u8 x2),(.fn 90 [])] [] (.tup [(.int .i64 r.1),(.bool r.2)]) []:=by
 unfold slices_BinarySearchFunc_89 at h
 obtain⟨x4,e0,h⟩:=bsm h
 by_cases c2:ltI x4 (nI x1.length)=true
 · rw[if_pos c2] at h
   by_cases c3:inI x4 x1.length=true
   · rw[if_pos c3] at h
     obtain⟨x5,e4,h⟩:=bsm h
     obtain rfl:=osi h
     exact Tri.of (x:=X89) mixed facts89 [.n x1.length,A89_0,.out (.st .normal (E89_0_0 x1 x2 x4)),dt,dt,dt,dt,.n x1.length,dt,.row [(.int .u8 x5.1),(.int .i64 x5.2)],dt,dt,.call ⟨false,[]⟩ (.int .i64 (cmp_Compare x5.1 x2)) [],dt,dt] [⟨c2⟩,⟨c2⟩,⟨(ok_ledger_find_1 x5.1 x5.2 x2)⟩,⟨c2⟩,⟨c2⟩,⟨(cells_map (e:=e_u8_i64) e4 2 0 2 (by decide))⟩,⟨c2⟩,⟨c3⟩,⟨(len_map e_u8_i64 x1)⟩,⟨c2⟩,⟨c2⟩,⟨c2⟩,⟨c2⟩,⟨(LT.block (ok_slices_BinarySearchFunc_89_l0 x1 x2 _ k 0 (nI x1.length) e0))⟩,⟨(len_map e_u8_i64 x1)⟩] (by kernel_rfl)
   rw[if_neg c3] at h;replace c3:=eqf c3
   cases h
 rw[if_neg c2] at h;replace c2:=eqf c2
 obtain rfl:=osi h
 exact Tri.of (x:=X89) mixed facts89 [.n x1.length,A89_0,.out (.st .normal (E89_0_0 x1 x2 x4)),df,df,df,df,df,df,df,df,df] [⟨c2⟩,⟨c2⟩,⟨c2⟩,⟨c2⟩,⟨c2⟩,⟨c2⟩,⟨c2⟩,⟨c2⟩,⟨c2⟩,⟨(LT.block (ok_slices_BinarySearchFunc_89_l0 x1 x2 _ k 0 (nI x1.length) e0))⟩,⟨(len_map e_u8_i64 x1)⟩] (by kernel_rfl)
end Go.Ws

namespace Go.Ws
open Go.Proofs
set_option linter.unusedSimpArgs false
set_option linter.unusedVariables false
set_option maxRecDepth 1000000
set_option maxHeartbeats 4000000
noncomputable def X72:Ctx:=⟨Try.f72,[],true⟩
theorem ok_ledger_find (k:Nat) (x1:Ty16) (x2:Int) (r:Int × Bool) (h:ledger_find k x1 x2=some r):Tri Try.prog 72 [(.sl 2 (List.map e_u8_i64 x1)),(.int .u8 x2)] [] (.tup [(.int .i64 r.1),(.bool r.2)]) []:=by
 unfold ledger_find at h
 obtain⟨x3,e0,h⟩:=bsm h
 obtain rfl:=osi h
 exact Tri.of (x:=X72) mixed facts72 [.call ⟨true,[]⟩ (.tup [(.int .i64 x3.1),(.bool x3.2)]) []] [⟨(ok_slices_BinarySearchFunc_89 k x1 x2 _ e0)⟩] (by kernel_rfl)
end Go.Ws

namespace Go.Ws
open Go.Proofs
set_option linter.unusedSimpArgs false
set_option linter.unusedVariables false
set_option maxRecDepth 1000000
set_option maxHeartbeats 4000000
theorem ok_slices_Delete (k:Nat) (x1:Int) (x2:Int) (x3:Ty16) (r:Ty16) (h:slices_Delete k x1 x2 x3=some r):Tri Try.prog 74 [(.ref 2 0 0 0 x3.length .virt),(.int .i64 x1),(.int .i64 x2)] [(.arr 2 (List.map e_u8_i64 x3) 0 0 false)] (.ref 2 0 1 0 r.length .full) [(.arr 2 (List.map e_u8_i64 r) 1 1 false)]:=del_ok74 _ h
end Go.Ws

namespace Go.Ws
open Go.Proofs
set_option linter.unusedSimpArgs false
set_option linter.unusedVariables false
set_option maxRecDepth 1000000
set_option maxHeartbeats 4000000
theorem ok_slices_Insert_73 (k:Nat) (x1:Int) (x2:Ty16) (x3:Ty16) (r:Ty16) (h:slices_Insert_73 k x1 x2 x3=some r):Tri Try.prog 73 [(.ref 2 0 0 0 x2.length .virt),(.int .i64 x1),(.ref 2 1 0 0 x3.length .full)] [(.arr 2 (List.map e_u8_i64 x2) 0 0 false),(.arr 2 (List.map e_u8_i64 x3) 0 0 false)] (.ref 2 0 1 0 r.length .full) [(.arr 2 (List.map e_u8_i64 r) 1 1 false),(.arr 2 (List.map e_u8_i64 x3) 0 0 false)]:=ins_ok73 _ h rfl
end Go.Ws

namespace Go.Ws
open Go.Proofs
set_option linter.unusedSimpArgs false
set_option linter.unusedVariables false
set_option maxRecDepth 1000000
set_option maxHeartbeats 4000000
theorem ok_slices_Delete_1 (k:Nat) (x1:Int) (x2:Int) (x3:Ty16) (r:Ty16) (h:slices_Delete_1 k x1 x2 x3=some r):Tri Try.prog 74 [(.ref 2 0 1 0 x3.length .full),(.int .i64 x1),(.int .i64 x2)] [(.arr 2 (List.map e_u8_i64 x3) 1 1 false)] (.ref 2 0 2 0 r.length .full) [(.arr 2 (List.map e_u8_i64 r) 2 2 false)]:=del_ok74 _ h
end Go.Ws

namespace Go.Ws
open Go.Proofs
set_option linter.unusedSimpArgs false
set_option linter.unusedVariables false
set_option maxRecDepth 1000000
set_option maxHeartbeats 4000000
noncomputable def X51:Ctx:=⟨Try.f51,[],true⟩
noncomputable def L51_0:Code:=at_ Try.f51 [1,1,1,1,0,1,4,5]
def S51_0 (x2:Ty16) (v51001_1:Int) (v51001_2:Ty16):St:=⟨mkT 67 [(0,(.ref 2 0 0 0 v51001_2.length .virt)),(22,(.sl 2 (List.map e_u8_i64 x2))),(23,(.int .i64 (nI x2.length))),(24,(.int .i64 v51001_1))],[(.arr 2 (List.map e_u8_i64 v51001_2) 0 0 false)]⟩
def E51_0_0 (v51002_1:Ty16):St:=⟨mkT 67 [(0,(.ref 2 0 0 0 v51002_1.length .virt))],[(.arr 2 (List.map e_u8_i64 v51002_1) 0 0 false)]⟩
def O51_0 (x2:Ty16) (y:(Ty16)):GX:=.st (.exit 0) (E51_0_0 y)
def A51_0 (v51000_1:Int × Int):Ans:=.row [(.int .u8 v51000_1.1),(.int .i64 v51000_1.2)]
def A51_1 (v51000_2:Int × Bool):Ans:=.call ⟨true,[]⟩ (.tup [(.int .i64 v51000_2.1),(.bool v51000_2.2)]) []
def A51_2 (x1:Ty16):Ans:=.call ⟨true,[]⟩ (.ref 2 0 0 0 x1.length .virt) [(.arr 2 (List.map e_u8_i64 x1) 0 0 false)]
theorem ok_ledger_Put_l0 (x2:Ty16) (y:(Ty16)):∀(k:Nat) (v51001_1:Int) (v51001_2:Ty16),ledger_Put_l0 k x2 v51001_1 v51001_2=some y→LT Try.prog X51 L51_0 (S51_0 x2 v51001_1 v51001_2) (O51_0 x2 y)
 | 0,v51001_1,v51001_2,h=>by cases h
 | k+1,v51001_1,v51001_2,h=>by
  rw[ledger_Put_l0] at h
  by_cases cL0:ltI v51001_1 (nI x2.length)=true
  · rw[if_pos cL0] at h
    by_cases cL1:inI v51001_1 x2.length=true
    · rw[if_pos cL1] at h
      obtain⟨v51000_1,eL2,h⟩:=bsm h
      obtain⟨v51000_2,eL3,h⟩:=bsm h
      by_cases cL4:v51000_2.2=true
      · rw[if_pos cL4] at h
        by_cases cL5:inI v51000_2.1 v51001_2.length=true
        · rw[if_pos cL5] at h
          obtain⟨v51000_3,eL6,h⟩:=bsm h
          obtain⟨v51000_4,eL7,h⟩:=bsm h
          by_cases cL8:eqI v51000_4.2 0=true
          · rw[if_pos cL8] at h
            obtain⟨v51000_5,eL9,h⟩:=bsm h
            exact LT.next mixed (hs:=⟨[(0,[]),(22,[]),(23,[]),(24,[])],[⟨.tmp 0,[],some 2⟩],false,[],[]⟩) (es:=none) [dt,.n x2.length,(A51_0 v51000_1),(A51_1 v51000_2),.rows (List.map e_u8_i64 v51001_2),df,.row [(.int .i64 v51000_3.2)],.rows (List.map e_u8_i64 (List.set v51001_2 (tN v51000_2.1) (v51000_3.1,iadd .i64 v51000_3.2 v51000_1.2))),.row [(.int .i64 v51000_4.2)],dt,.call ⟨false,[]⟩ (.ref 2 0 1 0 v51000_5.length .full) [(.arr 2 (List.map e_u8_i64 v51000_5) 1 1 false)],.n v51000_5.length,.rows (List.map e_u8_i64 v51000_5)] [⟨(take_all e_u8_i64 (l:=v51000_5) (n:=v51000_5.length) rfl)⟩,⟨(rfl:v51000_5.length=v51000_5.length)⟩,⟨(zle v51000_5.length)⟩,⟨(by have hh:=(ok_slices_Delete k v51000_2.1 (iadd .i64 v51000_2.1 1) (List.set v51001_2 (tN v51000_2.1) (v51000_3.1,iadd .i64 v51000_3.2 v51000_1.2)) _ eL9);simp only[List.length_set] at hh;exact hh)⟩,⟨cL8⟩,⟨(cells_map (e:=e_u8_i64) eL7 2 1 1 (by decide))⟩,⟨cL5⟩,⟨(store_map (e:=e_u8_i64) eL6 1 [(.int .i64 (iadd .i64 v51000_3.2 v51000_1.2))] (v51000_3.1,iadd .i64 v51000_3.2 v51000_1.2) rfl)⟩,⟨cL5⟩,⟨(cells_map (e:=e_u8_i64) eL6 2 1 1 (by decide))⟩,⟨cL5⟩,⟨(nF cL4)⟩,⟨(ok_ledger_find k v51001_2 v51000_1.1 _ eL3)⟩,⟨(part_all e_u8_i64 (l:=v51001_2) (n:=v51001_2.length) rfl)⟩,⟨(le_map e_u8_i64 (Nat.le_refl v51001_2.length):0+v51001_2.length≤(List.map e_u8_i64 v51001_2).length)⟩,⟨(cells_map (e:=e_u8_i64) eL2 2 0 2 (by decide))⟩,⟨cL1⟩,⟨(len_map e_u8_i64 x2)⟩,⟨cL0⟩] (by kernel_rfl) (ok_ledger_Put_l0 x2 y k (iadd .i64 v51001_1 1) v51000_5 h)
          rw[if_neg cL8] at h;replace cL8:=eqf cL8
          exact LT.next mixed (hs:=⟨[(0,[]),(22,[]),(23,[]),(24,[])],[⟨.tmp 0,[],some 2⟩],false,[],[]⟩) (es:=none) [dt,.n x2.length,(A51_0 v51000_1),(A51_1 v51000_2),.rows (List.map e_u8_i64 v51001_2),df,.row [(.int .i64 v51000_3.2)],.rows (List.map e_u8_i64 (List.set v51001_2 (tN v51000_2.1) (v51000_3.1,iadd .i64 v51000_3.2 v51000_1.2))),.row [(.int .i64 v51000_4.2)],df,.n ((List.set v51001_2 (tN v51000_2.1) (v51000_3.1,iadd .i64 v51000_3.2 v51000_1.2)).length),.rows (List.map e_u8_i64 (List.set v51001_2 (tN v51000_2.1) (v51000_3.1,iadd .i64 v51000_3.2 v51000_1.2)))] [⟨(take_all e_u8_i64 (l:=(List.set v51001_2 (tN v51000_2.1) (v51000_3.1,iadd .i64 v51000_3.2 v51000_1.2))) (n:=v51001_2.length) (by simp:v51001_2.length=(List.set v51001_2 (tN v51000_2.1) (v51000_3.1,iadd .i64 v51000_3.2 v51000_1.2)).length))⟩,⟨((by simp:v51001_2.length=List.length (α:=Int × Int) (List.set v51001_2 (tN v51000_2.1) (v51000_3.1,iadd .i64 v51000_3.2 v51000_1.2))):v51001_2.length=(List.set v51001_2 (tN v51000_2.1) (v51000_3.1,iadd .i64 v51000_3.2 v51000_1.2)).length)⟩,⟨(zle v51001_2.length)⟩,⟨cL8⟩,⟨(cells_map (e:=e_u8_i64) eL7 2 1 1 (by decide))⟩,⟨cL5⟩,⟨(store_map (e:=e_u8_i64) eL6 1 [(.int .i64 (iadd .i64 v51000_3.2 v51000_1.2))] (v51000_3.1,iadd .i64 v51000_3.2 v51000_1.2) rfl)⟩,⟨cL5⟩,⟨(cells_map (e:=e_u8_i64) eL6 2 1 1 (by decide))⟩,⟨cL5⟩,⟨(nF cL4)⟩,⟨(ok_ledger_find k v51001_2 v51000_1.1 _ eL3)⟩,⟨(part_all e_u8_i64 (l:=v51001_2) (n:=v51001_2.length) rfl)⟩,⟨(le_map e_u8_i64 (Nat.le_refl v51001_2.length):0+v51001_2.length≤(List.map e_u8_i64 v51001_2).length)⟩,⟨(cells_map (e:=e_u8_i64) eL2 2 0 2 (by decide))⟩,⟨cL1⟩,⟨(len_map e_u8_i64 x2)⟩,⟨cL0⟩] (by kernel_rfl) (ok_ledger_Put_l0 x2 y k (iadd .i64 v51001_1 1) (List.set v51001_2 (tN v51000_2.1) (v51000_3.1,iadd .i64 v51000_3.2 v51000_1.2)) h)
        rw[if_neg cL5] at h;replace cL5:=eqf cL5
        cases h
      rw[if_neg cL4] at h;replace cL4:=eqf cL4
      obtain⟨v51000_3,eL5,h⟩:=bsm h
      by_cases cL6:inI v51000_2.1 v51000_3.length=true
      · rw[if_pos cL6] at h
        obtain⟨v51000_4,eL7,h⟩:=bsm h
        obtain⟨v51000_5,eL8,h⟩:=bsm h
        by_cases cL9:eqI v51000_5.2 0=true
        · rw[if_pos cL9] at h
          obtain⟨v51000_6,eL10,h⟩:=bsm h
          exact LT.next mixed (hs:=⟨[(0,[]),(22,[]),(23,[]),(24,[])],[⟨.tmp 0,[],some 2⟩],false,[],[]⟩) (es:=none) [dt,.n x2.length,(A51_0 v51000_1),(A51_1 v51000_2),.rows (List.map e_u8_i64 v51001_2),dt,.call ⟨false,[]⟩ (.ref 2 0 1 0 v51000_3.length .full) [(.arr 2 (List.map e_u8_i64 v51000_3) 1 1 false),(.arr 2 (List.map e_u8_i64 [(v51000_1.1,0)]) 0 0 false)],.row [(.int .i64 v51000_4.2)],.rows (List.map e_u8_i64 (List.set v51000_3 (tN v51000_2.1) (v51000_4.1,iadd .i64 v51000_4.2 v51000_1.2))),.row [(.int .i64 v51000_5.2)],dt,.call ⟨false,[]⟩ (.ref 2 0 2 0 v51000_6.length .full) [(.arr 2 (List.map e_u8_i64 v51000_6) 2 2 false)],.n v51000_6.length,.rows (List.map e_u8_i64 v51000_6)] [⟨(take_all e_u8_i64 (l:=v51000_6) (n:=v51000_6.length) rfl)⟩,⟨(rfl:v51000_6.length=v51000_6.length)⟩,⟨(zle v51000_6.length)⟩,⟨(by have hh:=(ok_slices_Delete_1 k v51000_2.1 (iadd .i64 v51000_2.1 1) (List.set v51000_3 (tN v51000_2.1) (v51000_4.1,iadd .i64 v51000_4.2 v51000_1.2)) _ eL10);simp only[List.length_set] at hh;exact hh)⟩,⟨cL9⟩,⟨(cells_map (e:=e_u8_i64) eL8 2 1 1 (by decide))⟩,⟨cL6⟩,⟨(store_map (e:=e_u8_i64) eL7 1 [(.int .i64 (iadd .i64 v51000_4.2 v51000_1.2))] (v51000_4.1,iadd .i64 v51000_4.2 v51000_1.2) rfl)⟩,⟨cL6⟩,⟨(cells_map (e:=e_u8_i64) eL7 2 1 1 (by decide))⟩,⟨cL6⟩,⟨(ok_slices_Insert_73 k v51000_2.1 v51001_2 [(v51000_1.1,0)] _ eL5)⟩,⟨(nT cL4)⟩,⟨(ok_ledger_find k v51001_2 v51000_1.1 _ eL3)⟩,⟨(part_all e_u8_i64 (l:=v51001_2) (n:=v51001_2.length) rfl)⟩,⟨(le_map e_u8_i64 (Nat.le_refl v51001_2.length):0+v51001_2.length≤(List.map e_u8_i64 v51001_2).length)⟩,⟨(cells_map (e:=e_u8_i64) eL2 2 0 2 (by decide))⟩,⟨cL1⟩,⟨(len_map e_u8_i64 x2)⟩,⟨cL0⟩] (by kernel_rfl) (ok_ledger_Put_l0 x2 y k (iadd .i64 v51001_1 1) v51000_6 h)
        rw[if_neg cL9] at h;replace cL9:=eqf cL9
        exact LT.next mixed (hs:=⟨[(0,[]),(22,[]),(23,[]),(24,[])],[⟨.tmp 0,[],some 2⟩],false,[],[]⟩) (es:=none) [dt,.n x2.length,(A51_0 v51000_1),(A51_1 v51000_2),.rows (List.map e_u8_i64 v51001_2),dt,.call ⟨false,[]⟩ (.ref 2 0 1 0 v51000_3.length .full) [(.arr 2 (List.map e_u8_i64 v51000_3) 1 1 false),(.arr 2 (List.map e_u8_i64 [(v51000_1.1,0)]) 0 0 false)],.row [(.int .i64 v51000_4.2)],.rows (List.map e_u8_i64 (List.set v51000_3 (tN v51000_2.1) (v51000_4.1,iadd .i64 v51000_4.2 v51000_1.2))),.row [(.int .i64 v51000_5.2)],df,.n ((List.set v51000_3 (tN v51000_2.1) (v51000_4.1,iadd .i64 v51000_4.2 v51000_1.2)).length),.rows (List.map e_u8_i64 (List.set v51000_3 (tN v51000_2.1) (v51000_4.1,iadd .i64 v51000_4.2 v51000_1.2)))] [⟨(take_all e_u8_i64 (l:=(List.set v51000_3 (tN v51000_2.1) (v51000_4.1,iadd .i64 v51000_4.2 v51000_1.2))) (n:=v51000_3.length) (by simp:v51000_3.length=(List.set v51000_3 (tN v51000_2.1) (v51000_4.1,iadd .i64 v51000_4.2 v51000_1.2)).length))⟩,⟨((by simp:v51000_3.length=List.length (α:=Int × Int) (List.set v51000_3 (tN v51000_2.1) (v51000_4.1,iadd .i64 v51000_4.2 v51000_1.2))):v51000_3.length=(List.set v51000_3 (tN v51000_2.1) (v51000_4.1,iadd .i64 v51000_4.2 v51000_1.2)).length)⟩,⟨(zle v51000_3.length)⟩,⟨cL9⟩,⟨(cells_map (e:=e_u8_i64) eL8 2 1 1 (by decide))⟩,⟨cL6⟩,⟨(store_map (e:=e_u8_i64) eL7 1 [(.int .i64 (iadd .i64 v51000_4.2 v51000_1.2))] (v51000_4.1,iadd .i64 v51000_4.2 v51000_1.2) rfl)⟩,⟨cL6⟩,⟨(cells_map (e:=e_u8_i64) eL7 2 1 1 (by decide))⟩,⟨cL6⟩,⟨(ok_slices_Insert_73 k v51000_2.1 v51001_2 [(v51000_1.1,0)] _ eL5)⟩,⟨(nT cL4)⟩,⟨(ok_ledger_find k v51001_2 v51000_1.1 _ eL3)⟩,⟨(part_all e_u8_i64 (l:=v51001_2) (n:=v51001_2.length) rfl)⟩,⟨(le_map e_u8_i64 (Nat.le_refl v51001_2.length):0+v51001_2.length≤(List.map e_u8_i64 v51001_2).length)⟩,⟨(cells_map (e:=e_u8_i64) eL2 2 0 2 (by decide))⟩,⟨cL1⟩,⟨(len_map e_u8_i64 x2)⟩,⟨cL0⟩] (by kernel_rfl) (ok_ledger_Put_l0 x2 y k (iadd .i64 v51001_1 1) (List.set v51000_3 (tN v51000_2.1) (v51000_4.1,iadd .i64 v51000_4.2 v51000_1.2)) h)
      rw[if_neg cL6] at h;replace cL6:=eqf cL6
      cases h
    rw[if_neg cL1] at h;replace cL1:=eqf cL1
    cases h
  rw[if_neg cL0] at h;replace cL0:=eqf cL0
  obtain rfl:=osi h
  show LT _ _ _ _ (.st (.exit 0) (E51_0_0 v51001_2))
  exact LT.done mixed (hs:=⟨[],[],false,[],[]⟩) (es:=(some ⟨[(0,[])],[⟨.tmp 0,[],none⟩],false,[],[]⟩)) [df] [⟨cL0⟩] (by kernel_rfl) (fun s h=>by cases h)
theorem ok_ledger_Put (k:Nat) (x1:Ty16) (x2:Ty16) (r:Ty16 × Int) (h:ledger_Put k x1 x2=some r):Tri Try.prog 51 [(.sl 2 (List.map e_u8_i64 x1)),(.sl 2 (List.map e_u8_i64 x2))] [] (.tup [(.sl 2 (List.map e_u8_i64 r.1)),(.int .i64 r.2)]) []:=by
 unfold ledger_Put at h
 obtain⟨x3,e0,h⟩:=bsm h
 obtain⟨x4,e1,h⟩:=bsm h
 by_cases c2:x4=true
 · rw[if_pos c2] at h
   obtain⟨x5,e3,h⟩:=bsm h
   by_cases c4:x5=true
   · rw[if_pos c4] at h
     obtain rfl:=osi h
     exact Tri.of (x:=X51) mixed facts51 [(A51_2 x1),.call ⟨true,[]⟩ (.bool x4) [],.rows (List.map e_u8_i64 x1),df,df,df,.call ⟨true,[]⟩ (.bool x5) [],df,dt,.rows (List.map e_u8_i64 x1)] [⟨(part_all e_u8_i64 (l:=x1) (n:=x1.length) rfl)⟩,⟨(le_map e_u8_i64 (Nat.le_refl x1.length):0+x1.length≤(List.map e_u8_i64 x1).length)⟩,⟨c4⟩,⟨(nF c2)⟩,⟨(ok_slices_ContainsFunc k x2 _ e3)⟩,⟨(nF c2)⟩,⟨(nF c2)⟩,⟨(nF c2)⟩,⟨(ok_ledger_Right k x1 _ e1)⟩,⟨(part_all e_u8_i64 (l:=x1) (n:=x1.length) rfl)⟩,⟨(le_map e_u8_i64 (Nat.le_refl x1.length):0+x1.length≤(List.map e_u8_i64 x1).length)⟩,⟨(ok_slices_Clone_70 k x1 _ e0)⟩] (by kernel_rfl)
   rw[if_neg c4] at h;replace c4:=eqf c4
   obtain⟨x7,e5,h⟩:=bsm h
   obtain rfl:=osi h
   exact Tri.of (x:=X51) mixed facts51 [(A51_2 x1),.call ⟨true,[]⟩ (.bool x4) [],.rows (List.map e_u8_i64 x1),df,df,df,.call ⟨true,[]⟩ (.bool x5) [],df,df,.n x2.length,.norm 2 ⟨[(0,[]),(22,[]),(23,[]),(24,[])],[⟨.tmp 0,[],some 2⟩],false,[],[]⟩,.n x1.length,.rows (List.map e_u8_i64 x1),.out (.st .normal (E51_0_0 x7)),.rows (List.map e_u8_i64 x7)] [⟨(part_all e_u8_i64 (l:=x7) (n:=x7.length) rfl)⟩,⟨(le_map e_u8_i64 (Nat.le_refl x7.length):0+x7.length≤(List.map e_u8_i64 x7).length)⟩,⟨(LT.block (ok_ledger_Put_l0 x2 _ k 0 x1 e5))⟩,⟨(take_all e_u8_i64 (l:=x1) (n:=x1.length) rfl)⟩,⟨(rfl:x1.length=x1.length)⟩,⟨(zle x1.length)⟩,⟨(len_map e_u8_i64 x2)⟩,⟨c4⟩,⟨(nF c2)⟩,⟨(ok_slices_ContainsFunc k x2 _ e3)⟩,⟨(nF c2)⟩,⟨(nF c2)⟩,⟨(nF c2)⟩,⟨(ok_ledger_Right k x1 _ e1)⟩,⟨(part_all e_u8_i64 (l:=x1) (n:=x1.length) rfl)⟩,⟨(le_map e_u8_i64 (Nat.le_refl x1.length):0+x1.length≤(List.map e_u8_i64 x1).length)⟩,⟨(ok_slices_Clone_70 k x1 _ e0)⟩] (by kernel_rfl)
 rw[if_neg c2] at h;replace c2:=eqf c2
 obtain rfl:=osi h
 exact Tri.of (x:=X51) mixed facts51 [(A51_2 x1),.call ⟨true,[]⟩ (.bool x4) [],.rows (List.map e_u8_i64 x1),dt,dt,dt,dt,dt,.rows (List.map e_u8_i64 x1)] [⟨(part_all e_u8_i64 (l:=x1) (n:=x1.length) rfl)⟩,⟨(le_map e_u8_i64 (Nat.le_refl x1.length):0+x1.length≤(List.map e_u8_i64 x1).length)⟩,⟨rT⟩,⟨(nT c2)⟩,⟨(nT c2)⟩,⟨(nT c2)⟩,⟨(nT c2)⟩,⟨(ok_ledger_Right k x1 _ e1)⟩,⟨(part_all e_u8_i64 (l:=x1) (n:=x1.length) rfl)⟩,⟨(le_map e_u8_i64 (Nat.le_refl x1.length):0+x1.length≤(List.map e_u8_i64 x1).length)⟩,⟨(ok_slices_Clone_70 k x1 _ e0)⟩] (by kernel_rfl)
end Go.Ws

namespace Go.Ws
open Go.Proofs
set_option linter.unusedSimpArgs false
set_option linter.unusedVariables false
set_option maxRecDepth 1000000
set_option maxHeartbeats 4000000
noncomputable def X31:Ctx:=⟨Try.f31,[],true⟩
noncomputable def L31_0:Code:=at_ Try.f31 [1,0,1,4,5]
def S31_0 (x1:Ty16) (x2:Int) (v31001_1:Int):St:=⟨mkT 20 [(1,(.int .u8 x2)),(7,(.sl 2 (List.map e_u8_i64 x1))),(8,(.int .i64 (nI x1.length))),(9,(.int .i64 v31001_1))],[]⟩
def E31_0_0:St:=⟨mkT 20 [],[]⟩
def O31_0 (x1:Ty16) (x2:Int) (y:(Sum (Unit) (Int))):GX:=match y with
 | .inl y=>.st (.exit 0) (E31_0_0)
 | .inr y=>.fin (.int .i64 y) []
theorem ok_ledger_Get_l0 (x1:Ty16) (x2:Int) (y:(Sum (Unit) (Int))):∀(k:Nat) (v31001_1:Int),ledger_Get_l0 k x1 x2 v31001_1=some y→LT Try.prog X31 L31_0 (S31_0 x1 x2 v31001_1) (O31_0 x1 x2 y)
 | 0,v31001_1,h=>by cases h
 | k+1,v31001_1,h=>by
  rw[ledger_Get_l0] at h
  by_cases cL0:ltI v31001_1 (nI x1.length)=true
  · rw[if_pos cL0] at h
    by_cases cL1:inI v31001_1 x1.length=true
    · rw[if_pos cL1] at h
      obtain⟨v31000_1,eL2,h⟩:=bsm h
      by_cases cL3:eqI v31000_1.1 x2=true
      · rw[if_pos cL3] at h
        obtain rfl:=osi h
        show LT _ _ _ _ (.fin (.int .i64 v31000_1.2) [])
        exact LT.done mixed (hs:=⟨[],[],false,[],[]⟩) (es:=none) [dt,.n x1.length,.row [(.int .u8 v31000_1.1),(.int .i64 v31000_1.2)],dt] [⟨cL3⟩,⟨(cells_map (e:=e_u8_i64) eL2 2 0 2 (by decide))⟩,⟨cL1⟩,⟨(len_map e_u8_i64 x1)⟩,⟨cL0⟩] (by kernel_rfl) (fun s h=>by cases h)
      rw[if_neg cL3] at h;replace cL3:=eqf cL3
      exact LT.next mixed (hs:=⟨[(1,[]),(7,[]),(8,[]),(9,[])],[],false,[],[]⟩) (es:=none) [dt,.n x1.length,.row [(.int .u8 v31000_1.1),(.int .i64 v31000_1.2)],df] [⟨cL3⟩,⟨(cells_map (e:=e_u8_i64) eL2 2 0 2 (by decide))⟩,⟨cL1⟩,⟨(len_map e_u8_i64 x1)⟩,⟨cL0⟩] (by kernel_rfl) (ok_ledger_Get_l0 x1 x2 y k (iadd .i64 v31001_1 1) h)
    rw[if_neg cL1] at h;replace cL1:=eqf cL1
    cases h
  rw[if_neg cL0] at h;replace cL0:=eqf cL0
  obtain rfl:=osi h
  show LT _ _ _ _ (.st (.exit 0) (E31_0_0))
  exact LT.done mixed (hs:=⟨[],[],false,[],[]⟩) (es:=(some ⟨[],[],false,[],[]⟩)) [df] [⟨cL0⟩] (by kernel_rfl) (fun s h=>by cases h)
theorem ok_ledger_Get (k:Nat) (x1:Ty16) (x2:Int) (r:Int) (h:ledger_Get k x1 x2=some r):Tri Try.prog 31 [(.sl 2 (List.map e_u8_i64 x1)),(.int .u8 x2)] [] (.int .i64 r) []:=by
 unfold ledger_Get at h
 obtain⟨x3,e0,h⟩:=bsm h
 cases x3 with
 | inl x4 =>
  simp only[Sum.elim_inl] at h
  obtain rfl:=osi h
  exact Tri.of (x:=X31) mixed facts31 [.n x1.length,.norm 2 ⟨[(1,[]),(7,[]),(8,[]),(9,[])],[],false,[],[]⟩,.out (.st .normal (E31_0_0))] [⟨(LT.block (ok_ledger_Get_l0 x1 x2 _ k 0 e0))⟩,⟨(len_map e_u8_i64 x1)⟩] (by kernel_rfl)
 | inr x4 =>
  simp only[Sum.elim_inr] at h
  obtain rfl:=osi h
  exact Tri.of (x:=X31) mixed facts31 [.n x1.length,.norm 2 ⟨[(1,[]),(7,[]),(8,[]),(9,[])],[],false,[],[]⟩,.out (.fin (.int .i64 x4) [])] [⟨(LT.blockFin (id:=0) (ok_ledger_Get_l0 x1 x2 _ k 0 e0))⟩,⟨(len_map e_u8_i64 x1)⟩] (by kernel_rfl)
end Go.Ws

namespace Go.Ws
open Go.Proofs
set_option linter.unusedSimpArgs false
set_option linter.unusedVariables false
set_option maxRecDepth 1000000
set_option maxHeartbeats 4000000
noncomputable def X29_1001:Ctx:=⟨Try.f29,[],false⟩
theorem ok_slices_Clone_29_1001 (k:Nat) (x1:Ty16) (r:Unit) (h:slices_Clone_29_1001 k x1=some r):Tri Try.prog 29 [(.inl 2 (List.map e_u8_i64 x1))] [] (.ref 2 0 0 0 x1.length .virt) [(.arr 2 (List.map e_u8_i64 x1) 0 0 false)]:=by
 unfold slices_Clone_29_1001 at h
 by_cases c0:roomI (x1.length*16)=true
 · rw[if_pos c0] at h
   obtain rfl:=osi h
   exact Tri.of (x:=X29_1001) mixed facts29 [df,.n x1.length,.norm 0 ⟨[(2,[])],[⟨.tmp 2,[],some 2⟩],false,[],[]⟩,.n x1.length,.rows (List.map e_u8_i64 x1)] [⟨(take_all e_u8_i64 (l:=x1) (n:=x1.length) rfl)⟩,⟨(rfl:x1.length=x1.length)⟩,⟨(zle x1.length)⟩,⟨c0⟩,⟨(len_map e_u8_i64 x1)⟩,⟨rF⟩] (by kernel_rfl)
 rw[if_neg c0] at h;replace c0:=eqf c0
 cases h
end Go.Ws

namespace Go.Ws
open Go.Proofs
set_option linter.unusedSimpArgs false
set_option linter.unusedVariables false
set_option maxRecDepth 1000000
set_option maxHeartbeats 4000000
noncomputable def X29_1002:Ctx:=⟨Try.f29,[],false⟩
theorem ok_slices_Clone_29_1002:Tri Try.prog 29 [.nils] [] (.ref 2 0 0 0 0 .virt) [(.arr 2 (List.map e_u8_i64 []) 0 0 false)]:=by
 obtain⟨r,h⟩:∃r,slices_Clone_29_1002=r:=⟨_,rfl⟩
 try rw[h]
 unfold slices_Clone_29_1002 at h
 obtain rfl:=h
 exact Tri.of (x:=X29_1002) mixed facts29 [dt,.norm 0 ⟨[(2,[])],[⟨.tmp 2,[],some 2⟩],false,[],[]⟩,.n 0,.rows (List.map e_u8_i64 [])] [⟨(take_all e_u8_i64 (l:=[]) (n:=0) rfl)⟩,⟨(rfl:0=0)⟩,⟨(zle 0)⟩,⟨rT⟩] (by kernel_rfl)
end Go.Ws

namespace Go.Ws
open Go.Proofs
set_option linter.unusedSimpArgs false
set_option linter.unusedVariables false
set_option maxRecDepth 1000000
set_option maxHeartbeats 4000000
theorem ok_slices_Clone_29 (k:Nat) (x1:Ty16) (r:Unit) (h:slices_Clone_29 k x1=some r):Tri Try.prog 29 [(.sl 2 (List.map e_u8_i64 x1))] [] (.ref 2 0 0 0 x1.length .virt) [(.arr 2 (List.map e_u8_i64 x1) 0 0 false)]:=by
 refine Tri.slOf (ok_slices_Clone_29_1001 k x1 r h) fun h0=>?_
 have hx:x1=[]:=by simpa using h0
 subst hx
 exact ok_slices_Clone_29_1002
end Go.Ws

namespace Go.Ws
open Go.Proofs
set_option linter.unusedSimpArgs false
set_option linter.unusedVariables false
set_option maxRecDepth 1000000
set_option maxHeartbeats 4000000
noncomputable def X68:Ctx:=⟨Try.f68,[],false⟩
theorem ok_part_Part_own (k:Nat) (x1:Int) (x2:Ty16) (x3:Bool) (x4:Int) (r:Unit) (h:part_Part_own k x1 x2 x3 x4=some r):Tri Try.prog 68 [(.agg [(.int .i64 x1),(.sl 2 (List.map e_u8_i64 x2)),(.bool x3),(.int .i64 x4)])] [] (.agg [(.int .i64 x1),(.ref 2 0 0 0 x2.length .virt),(.bool x3),(.int .i64 x4)]) [(.arr 2 (List.map e_u8_i64 x2) 0 0 false)]:=by
 unfold part_Part_own at h
 obtain⟨x5,e0,h⟩:=bsm h
 obtain rfl:=osi h
 exact Tri.of (x:=X68) mixed facts68 [.call ⟨true,[]⟩ (.ref 2 0 0 0 x2.length .virt) [(.arr 2 (List.map e_u8_i64 x2) 0 0 false)],.norm 0 ⟨[(2,[])],[⟨.tmp 2,[],none⟩,⟨.cell 0 1,[],none⟩],false,[],[]⟩] [⟨(ok_slices_Clone_29 k x2 _ e0)⟩] (by kernel_rfl)
end Go.Ws

namespace Go.Ws
open Go.Proofs
set_option linter.unusedSimpArgs false
set_option linter.unusedVariables false
set_option maxRecDepth 1000000
set_option maxHeartbeats 4000000
noncomputable def X43:Ctx:=⟨Try.f43,[],true⟩
theorem ok_part_wide (x1:Int) (x2:Int):Tri Try.prog 43 [(.agg [(.int .u8 x1),(.int .i64 x2)])] [] (.bool (part_wide x1 x2)) []:=by
 obtain⟨r,h⟩:∃r,part_wide x1 x2=r:=⟨_,rfl⟩
 try rw[h]
 unfold part_wide at h
 obtain rfl:=h
 exact Tri.of (x:=X43) mixed facts43 [] [] (by kernel_rfl)
end Go.Ws

namespace Go.Ws
open Go.Proofs
set_option linter.unusedSimpArgs false
set_option linter.unusedVariables false
set_option maxRecDepth 1000000
set_option maxHeartbeats 4000000
noncomputable def X60_1:Ctx:=⟨Try.f60,[],true⟩
noncomputable def L60_1_0:Code:=at_ Try.f60 [1,0,1,4,5]
def S60_1_0 (x1:Ty16) (v160001_1:Int):St:=⟨mkT 19 [(0,(.sl 2 (List.map e_u8_i64 x1))),(1,(.fn 43 [])),(7,(.int .i64 (nI x1.length))),(8,(.int .i64 v160001_1))],[]⟩
def E60_1_0_0:St:=⟨mkT 19 [],[]⟩
def O60_1_0 (x1:Ty16) (y:(Sum (Unit) (Int))):GX:=match y with
 | .inl y=>.st (.exit 0) (E60_1_0_0)
 | .inr y=>.fin (.int .i64 y) []
theorem ok_slices_IndexFunc_60_1_l0 (x1:Ty16) (y:(Sum (Unit) (Int))):∀(k:Nat) (v160001_1:Int),slices_IndexFunc_60_1_l0 k x1 v160001_1=some y→LT Try.prog X60_1 L60_1_0 (S60_1_0 x1 v160001_1) (O60_1_0 x1 y)
 | 0,v160001_1,h=>by cases h
 | k+1,v160001_1,h=>by
  rw[slices_IndexFunc_60_1_l0] at h
  by_cases cL0:ltI v160001_1 (nI x1.length)=true
  · rw[if_pos cL0] at h
    by_cases cL1:inI v160001_1 x1.length=true
    · rw[if_pos cL1] at h
      obtain⟨v160000_1,eL2,h⟩:=bsm h
      by_cases cL3:(part_wide v160000_1.1 v160000_1.2)=true
      · rw[if_pos cL3] at h
        obtain rfl:=osi h
        show LT _ _ _ _ (.fin (.int .i64 v160001_1) [])
        exact LT.done mixed (hs:=⟨[],[],false,[],[]⟩) (es:=none) [dt,.n x1.length,.row [(.int .u8 v160000_1.1),(.int .i64 v160000_1.2)],.call ⟨true,[]⟩ (.bool (part_wide v160000_1.1 v160000_1.2)) [],dt] [⟨cL3⟩,⟨(ok_part_wide v160000_1.1 v160000_1.2)⟩,⟨(cells_map (e:=e_u8_i64) eL2 2 0 2 (by decide))⟩,⟨cL1⟩,⟨(len_map e_u8_i64 x1)⟩,⟨cL0⟩] (by kernel_rfl) (fun s h=>by cases h)
      rw[if_neg cL3] at h;replace cL3:=eqf cL3
      exact LT.next mixed (hs:=⟨[(0,[]),(1,[]),(7,[]),(8,[])],[],false,[],[]⟩) (es:=none) [dt,.n x1.length,.row [(.int .u8 v160000_1.1),(.int .i64 v160000_1.2)],.call ⟨true,[]⟩ (.bool (part_wide v160000_1.1 v160000_1.2)) [],df] [⟨cL3⟩,⟨(ok_part_wide v160000_1.1 v160000_1.2)⟩,⟨(cells_map (e:=e_u8_i64) eL2 2 0 2 (by decide))⟩,⟨cL1⟩,⟨(len_map e_u8_i64 x1)⟩,⟨cL0⟩] (by kernel_rfl) (ok_slices_IndexFunc_60_1_l0 x1 y k (iadd .i64 v160001_1 1) h)
    rw[if_neg cL1] at h;replace cL1:=eqf cL1
    cases h
  rw[if_neg cL0] at h;replace cL0:=eqf cL0
  obtain rfl:=osi h
  show LT _ _ _ _ (.st (.exit 0) (E60_1_0_0))
  exact LT.done mixed (hs:=⟨[],[],false,[],[]⟩) (es:=(some ⟨[],[],false,[],[]⟩)) [df] [⟨cL0⟩] (by kernel_rfl) (fun s h=>by cases h)
theorem ok_slices_IndexFunc_60_1 (k:Nat) (x1:Ty16) (r:Int) (h:slices_IndexFunc_60_1 k x1=some r):Tri Try.prog 60 [(.sl 2 (List.map e_u8_i64 x1)),(.fn 43 [])] [] (.int .i64 r) []:=by
 unfold slices_IndexFunc_60_1 at h
 obtain⟨x2,e0,h⟩:=bsm h
 cases x2 with
 | inl x3 =>
  simp only[Sum.elim_inl] at h
  obtain rfl:=osi h
  exact Tri.of (x:=X60_1) mixed facts60 [.n x1.length,.norm 2 ⟨[(0,[]),(1,[]),(7,[]),(8,[])],[],false,[],[]⟩,.out (.st .normal (E60_1_0_0))] [⟨(LT.block (ok_slices_IndexFunc_60_1_l0 x1 _ k 0 e0))⟩,⟨(len_map e_u8_i64 x1)⟩] (by kernel_rfl)
 | inr x3 =>
  simp only[Sum.elim_inr] at h
  obtain rfl:=osi h
  exact Tri.of (x:=X60_1) mixed facts60 [.n x1.length,.norm 2 ⟨[(0,[]),(1,[]),(7,[]),(8,[])],[],false,[],[]⟩,.out (.fin (.int .i64 x3) [])] [⟨(LT.blockFin (id:=0) (ok_slices_IndexFunc_60_1_l0 x1 _ k 0 e0))⟩,⟨(len_map e_u8_i64 x1)⟩] (by kernel_rfl)
end Go.Ws

namespace Go.Ws
open Go.Proofs
set_option linter.unusedSimpArgs false
set_option linter.unusedVariables false
set_option maxRecDepth 1000000
set_option maxHeartbeats 4000000
noncomputable def X42_1:Ctx:=⟨Try.f42,[],true⟩
theorem ok_slices_ContainsFunc_1 (k:Nat) (x1:Ty16) (r:Bool) (h:slices_ContainsFunc_1 k x1=some r):Tri Try.prog 42 [(.sl 2 (List.map e_u8_i64 x1)),(.fn 43 [])] [] (.bool r) []:=by
 unfold slices_ContainsFunc_1 at h
 obtain⟨x2,e0,h⟩:=bsm h
 obtain rfl:=osi h
 exact Tri.of (x:=X42_1) mixed facts42 [.call ⟨true,[]⟩ (.int .i64 x2) []] [⟨(ok_slices_IndexFunc_60_1 k x1 _ e0)⟩] (by kernel_rfl)
end Go.Ws

namespace Go.Ws
open Go.Proofs
set_option linter.unusedSimpArgs false
set_option linter.unusedVariables false
set_option maxRecDepth 1000000
set_option maxHeartbeats 4000000
noncomputable def X33:Ctx:=⟨Try.f33,[],true⟩
theorem ok_part_Right (k:Nat) (x1:Int) (x2:Ty16) (x3:Bool) (x4:Int) (r:Bool) (h:part_Right k x1 x2 x3 x4=some r):Tri Try.prog 33 [(.agg [(.int .i64 x1),(.sl 2 (List.map e_u8_i64 x2)),(.bool x3),(.int .i64 x4)])] [] (.bool r) []:=by
 unfold part_Right at h
 by_cases c0:ltI x1 0=true
 · rw[if_pos c0] at h
   obtain rfl:=osi h
   exact Tri.of (x:=X33) mixed facts33 [dt,dt,dt,dt,dt,dt,dt,dt,dt,dt,dt,dt,dt,dt] [⟨rT⟩,⟨rT⟩,⟨rT⟩,⟨rT⟩,⟨rT⟩,⟨rT⟩,⟨rT⟩,⟨rT⟩,⟨rT⟩,⟨rT⟩,⟨c0⟩,⟨c0⟩,⟨c0⟩,⟨c0⟩] (by kernel_rfl)
 rw[if_neg c0] at h;replace c0:=eqf c0
 by_cases c1:ltI 3 x1=true
 · rw[if_pos c1] at h
   obtain rfl:=osi h
   exact Tri.of (x:=X33) mixed facts33 [df,df,df,df,dt,dt,dt,dt,dt,dt,dt,dt,dt,dt] [⟨rT⟩,⟨rT⟩,⟨rT⟩,⟨rT⟩,⟨rT⟩,⟨c1⟩,⟨c1⟩,⟨c1⟩,⟨c1⟩,⟨c1⟩,⟨c0⟩,⟨c0⟩,⟨c0⟩,⟨c0⟩] (by kernel_rfl)
 rw[if_neg c1] at h;replace c1:=eqf c1
 by_cases c2:ltI 50 (nI x2.length)=true
 · rw[if_pos c2] at h
   obtain rfl:=osi h
   exact Tri.of (x:=X33) mixed facts33 [df,df,df,df,df,df,df,.n x2.length,df,df,dt,dt,dt,dt,dt] [⟨rT⟩,⟨c2⟩,⟨c2⟩,⟨c2⟩,⟨c2⟩,⟨c1⟩,⟨c1⟩,⟨(len_map e_u8_i64 x2)⟩,⟨c1⟩,⟨c1⟩,⟨c1⟩,⟨c0⟩,⟨c0⟩,⟨c0⟩,⟨c0⟩] (by kernel_rfl)
 rw[if_neg c2] at h;replace c2:=eqf c2
 obtain⟨x5,e3,h⟩:=bsm h
 by_cases c4:x5=true
 · rw[if_pos c4] at h
   obtain rfl:=osi h
   exact Tri.of (x:=X33) mixed facts33 [df,df,df,df,df,df,df,.n x2.length,df,df,df,df,df,.call ⟨true,[]⟩ (.bool x5) [],df,dt] [⟨c4⟩,⟨c2⟩,⟨(ok_slices_ContainsFunc_1 k x2 _ e3)⟩,⟨c2⟩,⟨c2⟩,⟨c2⟩,⟨c1⟩,⟨c1⟩,⟨(len_map e_u8_i64 x2)⟩,⟨c1⟩,⟨c1⟩,⟨c1⟩,⟨c0⟩,⟨c0⟩,⟨c0⟩,⟨c0⟩] (by kernel_rfl)
 rw[if_neg c4] at h;replace c4:=eqf c4
 by_cases c5:eqI x4 1=true
 · rw[if_pos c5] at h
   by_cases c6:eqI x1 3=true
   · rw[if_pos c6] at h
     obtain rfl:=osi h
     exact Tri.of (x:=X33) mixed facts33 [df,df,df,df,df,df,df,.n x2.length,df,df,df,df,df,.call ⟨true,[]⟩ (.bool x5) [],df,df,dt,dt,dt,dt,dt] [⟨c6⟩,⟨c5⟩,⟨c5⟩,⟨c5⟩,⟨c5⟩,⟨c4⟩,⟨c2⟩,⟨(ok_slices_ContainsFunc_1 k x2 _ e3)⟩,⟨c2⟩,⟨c2⟩,⟨c2⟩,⟨c1⟩,⟨c1⟩,⟨(len_map e_u8_i64 x2)⟩,⟨c1⟩,⟨c1⟩,⟨c1⟩,⟨c0⟩,⟨c0⟩,⟨c0⟩,⟨c0⟩] (by kernel_rfl)
   rw[if_neg c6] at h;replace c6:=eqf c6
   by_cases c7:eqI x4 0=true
   · rw[if_pos c7] at h
     by_cases c8:x3=true
     · rw[if_pos c8] at h
       obtain rfl:=osi h
       exact Tri.of (x:=X33) mixed facts33 [df,df,df,df,df,df,df,.n x2.length,df,df,df,df,df,.call ⟨true,[]⟩ (.bool x5) [],df,df,dt,dt,dt,dt,df,dt,dt,dt,dt,df,df,df,dt,df,dt] [⟨c7⟩,⟨(nF c8)⟩,⟨c7⟩,⟨(nF c8)⟩,⟨(nF c8)⟩,⟨(nF c8)⟩,⟨c7⟩,⟨c7⟩,⟨c7⟩,⟨c7⟩,⟨c6⟩,⟨c5⟩,⟨c5⟩,⟨c5⟩,⟨c5⟩,⟨c4⟩,⟨c2⟩,⟨(ok_slices_ContainsFunc_1 k x2 _ e3)⟩,⟨c2⟩,⟨c2⟩,⟨c2⟩,⟨c1⟩,⟨c1⟩,⟨(len_map e_u8_i64 x2)⟩,⟨c1⟩,⟨c1⟩,⟨c1⟩,⟨c0⟩,⟨c0⟩,⟨c0⟩,⟨c0⟩] (by kernel_rfl)
     rw[if_neg c8] at h;replace c8:=eqf c8
     obtain rfl:=osi h
     exact Tri.of (x:=X33) mixed facts33 [df,df,df,df,df,df,df,.n x2.length,df,df,df,df,df,.call ⟨true,[]⟩ (.bool x5) [],df,df,dt,dt,dt,dt,df,dt,dt,dt,dt,dt,dt,dt,dt,dt,dt] [⟨c7⟩,⟨(nT c8)⟩,⟨c7⟩,⟨(nT c8)⟩,⟨(nT c8)⟩,⟨(nT c8)⟩,⟨c7⟩,⟨c7⟩,⟨c7⟩,⟨c7⟩,⟨c6⟩,⟨c5⟩,⟨c5⟩,⟨c5⟩,⟨c5⟩,⟨c4⟩,⟨c2⟩,⟨(ok_slices_ContainsFunc_1 k x2 _ e3)⟩,⟨c2⟩,⟨c2⟩,⟨c2⟩,⟨c1⟩,⟨c1⟩,⟨(len_map e_u8_i64 x2)⟩,⟨c1⟩,⟨c1⟩,⟨c1⟩,⟨c0⟩,⟨c0⟩,⟨c0⟩,⟨c0⟩] (by kernel_rfl)
   rw[if_neg c7] at h;replace c7:=eqf c7
   obtain rfl:=osi h
   exact Tri.of (x:=X33) mixed facts33 [df,df,df,df,df,df,df,.n x2.length,df,df,df,df,df,.call ⟨true,[]⟩ (.bool x5) [],df,df,dt,dt,dt,dt,df,df,df,df,df,df,df] [⟨c7⟩,⟨c7⟩,⟨c7⟩,⟨c7⟩,⟨c7⟩,⟨c7⟩,⟨c6⟩,⟨c5⟩,⟨c5⟩,⟨c5⟩,⟨c5⟩,⟨c4⟩,⟨c2⟩,⟨(ok_slices_ContainsFunc_1 k x2 _ e3)⟩,⟨c2⟩,⟨c2⟩,⟨c2⟩,⟨c1⟩,⟨c1⟩,⟨(len_map e_u8_i64 x2)⟩,⟨c1⟩,⟨c1⟩,⟨c1⟩,⟨c0⟩,⟨c0⟩,⟨c0⟩,⟨c0⟩] (by kernel_rfl)
 rw[if_neg c5] at h;replace c5:=eqf c5
 by_cases c6:eqI x1 3=true
 · rw[if_pos c6] at h
   obtain rfl:=osi h
   exact Tri.of (x:=X33) mixed facts33 [df,df,df,df,df,df,df,.n x2.length,df,df,df,df,df,.call ⟨true,[]⟩ (.bool x5) [],df,df,df,df,df,df,dt] [⟨c6⟩,⟨c5⟩,⟨c5⟩,⟨c5⟩,⟨c5⟩,⟨c4⟩,⟨c2⟩,⟨(ok_slices_ContainsFunc_1 k x2 _ e3)⟩,⟨c2⟩,⟨c2⟩,⟨c2⟩,⟨c1⟩,⟨c1⟩,⟨(len_map e_u8_i64 x2)⟩,⟨c1⟩,⟨c1⟩,⟨c1⟩,⟨c0⟩,⟨c0⟩,⟨c0⟩,⟨c0⟩] (by kernel_rfl)
 rw[if_neg c6] at h;replace c6:=eqf c6
 by_cases c7:eqI x4 0=true
 · rw[if_pos c7] at h
   by_cases c8:x3=true
   · rw[if_pos c8] at h
     obtain rfl:=osi h
     exact Tri.of (x:=X33) mixed facts33 [df,df,df,df,df,df,df,.n x2.length,df,df,df,df,df,.call ⟨true,[]⟩ (.bool x5) [],df,df,df,df,df,df,df,dt,dt,dt,dt,df,df,df,dt,df,dt] [⟨c7⟩,⟨(nF c8)⟩,⟨c7⟩,⟨(nF c8)⟩,⟨(nF c8)⟩,⟨(nF c8)⟩,⟨c7⟩,⟨c7⟩,⟨c7⟩,⟨c7⟩,⟨c6⟩,⟨c5⟩,⟨c5⟩,⟨c5⟩,⟨c5⟩,⟨c4⟩,⟨c2⟩,⟨(ok_slices_ContainsFunc_1 k x2 _ e3)⟩,⟨c2⟩,⟨c2⟩,⟨c2⟩,⟨c1⟩,⟨c1⟩,⟨(len_map e_u8_i64 x2)⟩,⟨c1⟩,⟨c1⟩,⟨c1⟩,⟨c0⟩,⟨c0⟩,⟨c0⟩,⟨c0⟩] (by kernel_rfl)
   rw[if_neg c8] at h;replace c8:=eqf c8
   obtain rfl:=osi h
   exact Tri.of (x:=X33) mixed facts33 [df,df,df,df,df,df,df,.n x2.length,df,df,df,df,df,.call ⟨true,[]⟩ (.bool x5) [],df,df,df,df,df,df,df,dt,dt,dt,dt,dt,dt,dt,dt,dt,dt] [⟨c7⟩,⟨(nT c8)⟩,⟨c7⟩,⟨(nT c8)⟩,⟨(nT c8)⟩,⟨(nT c8)⟩,⟨c7⟩,⟨c7⟩,⟨c7⟩,⟨c7⟩,⟨c6⟩,⟨c5⟩,⟨c5⟩,⟨c5⟩,⟨c5⟩,⟨c4⟩,⟨c2⟩,⟨(ok_slices_ContainsFunc_1 k x2 _ e3)⟩,⟨c2⟩,⟨c2⟩,⟨c2⟩,⟨c1⟩,⟨c1⟩,⟨(len_map e_u8_i64 x2)⟩,⟨c1⟩,⟨c1⟩,⟨c1⟩,⟨c0⟩,⟨c0⟩,⟨c0⟩,⟨c0⟩] (by kernel_rfl)
 rw[if_neg c7] at h;replace c7:=eqf c7
 obtain rfl:=osi h
 exact Tri.of (x:=X33) mixed facts33 [df,df,df,df,df,df,df,.n x2.length,df,df,df,df,df,.call ⟨true,[]⟩ (.bool x5) [],df,df,df,df,df,df,df,df,df,df,df,df,df] [⟨c7⟩,⟨c7⟩,⟨c7⟩,⟨c7⟩,⟨c7⟩,⟨c7⟩,⟨c6⟩,⟨c5⟩,⟨c5⟩,⟨c5⟩,⟨c5⟩,⟨c4⟩,⟨c2⟩,⟨(ok_slices_ContainsFunc_1 k x2 _ e3)⟩,⟨c2⟩,⟨c2⟩,⟨c2⟩,⟨c1⟩,⟨c1⟩,⟨(len_map e_u8_i64 x2)⟩,⟨c1⟩,⟨c1⟩,⟨c1⟩,⟨c0⟩,⟨c0⟩,⟨c0⟩,⟨c0⟩] (by kernel_rfl)
end Go.Ws

namespace Go.Ws
open Go.Proofs
set_option linter.unusedSimpArgs false
set_option linter.unusedVariables false
set_option maxRecDepth 1000000
set_option maxHeartbeats 4000000
noncomputable def X47:Ctx:=⟨Try.f47,[],true⟩
def A47_0 (x1:Int) (x2:Ty16) (x3:Bool) (x4:Int):Ans:=.call ⟨true,[]⟩ (.agg [(.int .i64 x1),(.ref 2 0 0 0 x2.length .virt),(.bool x3),(.int .i64 x4)]) [(.arr 2 (List.map e_u8_i64 x2) 0 0 false)]
def A47_1 (x5:Int) (x6:Int):Ans:=.call ⟨true,[]⟩ (.bool (part_wide x5 x6)) []
theorem ok_part_Add (k:Nat) (x1:Int) (x2:Ty16) (x3:Bool) (x4:Int) (x5:Int) (x6:Int) (r:Int × Ty16 × Bool × Int × Int) (h:part_Add k x1 x2 x3 x4 x5 x6=some r):Tri Try.prog 47 [(.agg [(.int .i64 x1),(.sl 2 (List.map e_u8_i64 x2)),(.bool x3),(.int .i64 x4)]),(.agg [(.int .u8 x5),(.int .i64 x6)])] [] (.tup [(.agg [(.int .i64 r.1),(.sl 2 (List.map e_u8_i64 r.2.1)),(.bool r.2.2.1),(.int .i64 r.2.2.2.1)]),(.int .i64 r.2.2.2.2)]) []:=by
 unfold part_Add at h
 obtain⟨x7,e0,h⟩:=bsm h
 obtain⟨x8,e1,h⟩:=bsm h
 by_cases c2:x8=true
 · rw[if_pos c2] at h
   by_cases c3:(part_wide x5 x6)=true
   · rw[if_pos c3] at h
     obtain rfl:=osi h
     exact Tri.of (x:=X47) mixed facts47 [(A47_0 x1 x2 x3 x4),.call ⟨true,[]⟩ (.bool x8) [],.rows (List.map e_u8_i64 x2),df,df,(A47_1 x5 x6),df,dt,.rows (List.map e_u8_i64 x2)] [⟨(part_all e_u8_i64 (l:=x2) (n:=x2.length) rfl)⟩,⟨(le_map e_u8_i64 (Nat.le_refl x2.length):0+x2.length≤(List.map e_u8_i64 x2).length)⟩,⟨c3⟩,⟨(nF c2)⟩,⟨(ok_part_wide x5 x6)⟩,⟨(nF c2)⟩,⟨(nF c2)⟩,⟨(ok_part_Right k x1 x2 x3 x4 _ e1)⟩,⟨(part_all e_u8_i64 (l:=x2) (n:=x2.length) rfl)⟩,⟨(le_map e_u8_i64 (Nat.le_refl x2.length):0+x2.length≤(List.map e_u8_i64 x2).length)⟩,⟨(ok_part_Part_own k x1 x2 x3 x4 _ e0)⟩] (by kernel_rfl)
   rw[if_neg c3] at h;replace c3:=eqf c3
   by_cases c4:eqI x1 0=true
   · rw[if_pos c4] at h
     by_cases c5:ltI (nI x2.length) 50=true
     · rw[if_pos c5] at h
       by_cases c6:roomI (((x2++[(x5,x6)]).length)*16)=true
       · rw[if_pos c6] at h
         obtain rfl:=osi h
         exact Tri.of (x:=X47) mixed facts47 [(A47_0 x1 x2 x3 x4),.call ⟨true,[]⟩ (.bool x8) [],.rows (List.map e_u8_i64 x2),df,df,(A47_1 x5 x6),df,df,df,df,.rows (List.map e_u8_i64 [(x5,x6)]),.n ((x2++[(x5,x6)]).length),.n x2.length,dt,.rows (List.map e_u8_i64 (x2++[(x5,x6)])),.rows (List.map e_u8_i64 (x2++[(x5,x6)]))] [⟨(part_all e_u8_i64 (l:=(x2++[(x5,x6)])) (n:=((x2++[(x5,x6)]).length)) rfl)⟩,⟨(le_map e_u8_i64 (Nat.le_refl ((x2++[(x5,x6)]).length)):0+(x2++[(x5,x6)]).length≤(List.map e_u8_i64 (x2++[(x5,x6)])).length)⟩,⟨(app_map e_u8_i64 x2 [(x5,x6)])⟩,⟨(eqN_self x2.length)⟩,⟨(len_map e_u8_i64 x2)⟩,⟨c6⟩,⟨(by simp only[wl,List.length_map,List.map_nil,List.map_cons]<;>omega:x2.length+(List.map e_u8_i64 [(x5,x6)]).length=(x2++[(x5,x6)]).length)⟩,⟨(part_all e_u8_i64 (l:=[(x5,x6)]) (n:=1) rfl)⟩,⟨(le_map e_u8_i64 (Nat.le_refl 1):0+1≤(List.map e_u8_i64 [(x5,x6)]).length)⟩,⟨(nF c5)⟩,⟨(nF c4)⟩,⟨c3⟩,⟨(nF c2)⟩,⟨(ok_part_wide x5 x6)⟩,⟨(nF c2)⟩,⟨(nF c2)⟩,⟨(ok_part_Right k x1 x2 x3 x4 _ e1)⟩,⟨(part_all e_u8_i64 (l:=x2) (n:=x2.length) rfl)⟩,⟨(le_map e_u8_i64 (Nat.le_refl x2.length):0+x2.length≤(List.map e_u8_i64 x2).length)⟩,⟨(ok_part_Part_own k x1 x2 x3 x4 _ e0)⟩] (by kernel_rfl)
       rw[if_neg c6] at h;replace c6:=eqf c6
       cases h
     rw[if_neg c5] at h;replace c5:=eqf c5
     obtain rfl:=osi h
     exact Tri.of (x:=X47) mixed facts47 [(A47_0 x1 x2 x3 x4),.call ⟨true,[]⟩ (.bool x8) [],.rows (List.map e_u8_i64 x2),df,df,(A47_1 x5 x6),df,df,df,dt,.rows (List.map e_u8_i64 x2)] [⟨(part_all e_u8_i64 (l:=x2) (n:=x2.length) rfl)⟩,⟨(le_map e_u8_i64 (Nat.le_refl x2.length):0+x2.length≤(List.map e_u8_i64 x2).length)⟩,⟨(nT c5)⟩,⟨(nF c4)⟩,⟨c3⟩,⟨(nF c2)⟩,⟨(ok_part_wide x5 x6)⟩,⟨(nF c2)⟩,⟨(nF c2)⟩,⟨(ok_part_Right k x1 x2 x3 x4 _ e1)⟩,⟨(part_all e_u8_i64 (l:=x2) (n:=x2.length) rfl)⟩,⟨(le_map e_u8_i64 (Nat.le_refl x2.length):0+x2.length≤(List.map e_u8_i64 x2).length)⟩,⟨(ok_part_Part_own k x1 x2 x3 x4 _ e0)⟩] (by kernel_rfl)
   rw[if_neg c4] at h;replace c4:=eqf c4
   obtain rfl:=osi h
   exact Tri.of (x:=X47) mixed facts47 [(A47_0 x1 x2 x3 x4),.call ⟨true,[]⟩ (.bool x8) [],.rows (List.map e_u8_i64 x2),df,df,(A47_1 x5 x6),df,df,dt,.rows (List.map e_u8_i64 x2)] [⟨(part_all e_u8_i64 (l:=x2) (n:=x2.length) rfl)⟩,⟨(le_map e_u8_i64 (Nat.le_refl x2.length):0+x2.length≤(List.map e_u8_i64 x2).length)⟩,⟨(nT c4)⟩,⟨c3⟩,⟨(nF c2)⟩,⟨(ok_part_wide x5 x6)⟩,⟨(nF c2)⟩,⟨(nF c2)⟩,⟨(ok_part_Right k x1 x2 x3 x4 _ e1)⟩,⟨(part_all e_u8_i64 (l:=x2) (n:=x2.length) rfl)⟩,⟨(le_map e_u8_i64 (Nat.le_refl x2.length):0+x2.length≤(List.map e_u8_i64 x2).length)⟩,⟨(ok_part_Part_own k x1 x2 x3 x4 _ e0)⟩] (by kernel_rfl)
 rw[if_neg c2] at h;replace c2:=eqf c2
 obtain rfl:=osi h
 exact Tri.of (x:=X47) mixed facts47 [(A47_0 x1 x2 x3 x4),.call ⟨true,[]⟩ (.bool x8) [],.rows (List.map e_u8_i64 x2),dt,dt,dt,dt,.rows (List.map e_u8_i64 x2)] [⟨(part_all e_u8_i64 (l:=x2) (n:=x2.length) rfl)⟩,⟨(le_map e_u8_i64 (Nat.le_refl x2.length):0+x2.length≤(List.map e_u8_i64 x2).length)⟩,⟨rT⟩,⟨(nT c2)⟩,⟨(nT c2)⟩,⟨(nT c2)⟩,⟨(ok_part_Right k x1 x2 x3 x4 _ e1)⟩,⟨(part_all e_u8_i64 (l:=x2) (n:=x2.length) rfl)⟩,⟨(le_map e_u8_i64 (Nat.le_refl x2.length):0+x2.length≤(List.map e_u8_i64 x2).length)⟩,⟨(ok_part_Part_own k x1 x2 x3 x4 _ e0)⟩] (by kernel_rfl)
end Go.Ws

namespace Go.Ws
open Go.Proofs
set_option linter.unusedSimpArgs false
set_option linter.unusedVariables false
set_option maxRecDepth 1000000
set_option maxHeartbeats 4000000
noncomputable def X68_1:Ctx:=⟨Try.f68,[],true⟩
theorem ok_part_Part_own_1 (k:Nat) (x1:Int) (x2:Ty16) (x3:Bool) (x4:Int) (r:Int × Ty16 × Bool × Int) (h:part_Part_own_1 k x1 x2 x3 x4=some r):Tri Try.prog 68 [(.agg [(.int .i64 x1),(.sl 2 (List.map e_u8_i64 x2)),(.bool x3),(.int .i64 x4)])] [] (.agg [(.int .i64 r.1),(.sl 2 (List.map e_u8_i64 r.2.1)),(.bool r.2.2.1),(.int .i64 r.2.2.2)]) []:=by
 unfold part_Part_own_1 at h
 obtain⟨x5,e0,h⟩:=bsm h
 obtain rfl:=osi h
 exact Tri.of (x:=X68_1) mixed facts68 [.call ⟨true,[]⟩ (.ref 2 0 0 0 x2.length .virt) [(.arr 2 (List.map e_u8_i64 x2) 0 0 false)],.rows (List.map e_u8_i64 x2)] [⟨(part_all e_u8_i64 (l:=x2) (n:=x2.length) rfl)⟩,⟨(le_map e_u8_i64 (Nat.le_refl x2.length):0+x2.length≤(List.map e_u8_i64 x2).length)⟩,⟨(ok_slices_Clone_29 k x2 _ e0)⟩] (by kernel_rfl)
end Go.Ws

namespace Go.Ws
open Go.Proofs
set_option linter.unusedSimpArgs false
set_option linter.unusedVariables false
set_option maxRecDepth 1000000
set_option maxHeartbeats 4000000
noncomputable def X48:Ctx:=⟨Try.f48,[],true⟩
def A48_0 (x6:Int × Ty16 × Bool × Int):Ans:=.call ⟨true,[]⟩ (.agg [(.int .i64 x6.1),(.sl 2 (List.map e_u8_i64 x6.2.1)),(.bool x6.2.2.1),(.int .i64 x6.2.2.2)]) []
theorem ok_part_Vote (k:Nat) (x1:Int) (x2:Ty16) (x3:Bool) (x4:Int) (x5:Bool) (r:Int × Ty16 × Bool × Int × Int) (h:part_Vote k x1 x2 x3 x4 x5=some r):Tri Try.prog 48 [(.agg [(.int .i64 x1),(.sl 2 (List.map e_u8_i64 x2)),(.bool x3),(.int .i64 x4)]),(.bool x5)] [] (.tup [(.agg [(.int .i64 r.1),(.sl 2 (List.map e_u8_i64 r.2.1)),(.bool r.2.2.1),(.int .i64 r.2.2.2.1)]),(.int .i64 r.2.2.2.2)]) []:=by
 unfold part_Vote at h
 obtain⟨x6,e0,h⟩:=bsm h
 obtain⟨x7,e1,h⟩:=bsm h
 by_cases c2:x7=true
 · rw[if_pos c2] at h
   by_cases c3:eqI x6.1 0=true
   · rw[if_pos c3] at h
     by_cases c4:x5=true
     · rw[if_pos c4] at h
       obtain rfl:=osi h
       exact Tri.of (x:=X48) mixed facts48 [(A48_0 x6),.call ⟨true,[]⟩ (.bool x7) [],df,df,dt] [⟨c4⟩,⟨(nF c3)⟩,⟨(nF c2)⟩,⟨(ok_part_Right k x6.1 x6.2.1 x6.2.2.1 x6.2.2.2 _ e1)⟩,⟨(ok_part_Part_own_1 k x1 x2 x3 x4 _ e0)⟩] (by kernel_rfl)
     rw[if_neg c4] at h;replace c4:=eqf c4
     obtain rfl:=osi h
     exact Tri.of (x:=X48) mixed facts48 [(A48_0 x6),.call ⟨true,[]⟩ (.bool x7) [],df,df,df] [⟨c4⟩,⟨(nF c3)⟩,⟨(nF c2)⟩,⟨(ok_part_Right k x6.1 x6.2.1 x6.2.2.1 x6.2.2.2 _ e1)⟩,⟨(ok_part_Part_own_1 k x1 x2 x3 x4 _ e0)⟩] (by kernel_rfl)
   rw[if_neg c3] at h;replace c3:=eqf c3
   obtain rfl:=osi h
   exact Tri.of (x:=X48) mixed facts48 [(A48_0 x6),.call ⟨true,[]⟩ (.bool x7) [],df,dt] [⟨(nT c3)⟩,⟨(nF c2)⟩,⟨(ok_part_Right k x6.1 x6.2.1 x6.2.2.1 x6.2.2.2 _ e1)⟩,⟨(ok_part_Part_own_1 k x1 x2 x3 x4 _ e0)⟩] (by kernel_rfl)
 rw[if_neg c2] at h;replace c2:=eqf c2
 obtain rfl:=osi h
 exact Tri.of (x:=X48) mixed facts48 [(A48_0 x6),.call ⟨true,[]⟩ (.bool x7) [],dt] [⟨(nT c2)⟩,⟨(ok_part_Right k x6.1 x6.2.1 x6.2.2.1 x6.2.2.2 _ e1)⟩,⟨(ok_part_Part_own_1 k x1 x2 x3 x4 _ e0)⟩] (by kernel_rfl)
end Go.Ws

namespace Go.Ws
open Go.Proofs
set_option linter.unusedSimpArgs false
set_option linter.unusedVariables false
set_option maxRecDepth 1000000
set_option maxHeartbeats 4000000
noncomputable def X49:Ctx:=⟨Try.f49,[],true⟩
def A49_0 (x5:Int × Ty16 × Bool × Int):Ans:=.call ⟨true,[]⟩ (.agg [(.int .i64 x5.1),(.sl 2 (List.map e_u8_i64 x5.2.1)),(.bool x5.2.2.1),(.int .i64 x5.2.2.2)]) []
def A49_1:Ans:=.norm 0 ⟨[(2,[]),(3,[(0,2)]),(4,[])],[⟨.tmp 2,[],none⟩],false,[],[]⟩
theorem ok_part_Local (k:Nat) (x1:Int) (x2:Ty16) (x3:Bool) (x4:Int) (r:Int × Ty16 × Bool × Int × Ty16 × Int) (h:part_Local k x1 x2 x3 x4=some r):Tri Try.prog 49 [(.agg [(.int .i64 x1),(.sl 2 (List.map e_u8_i64 x2)),(.bool x3),(.int .i64 x4)])] [] (.tup [(.agg [(.int .i64 r.1),(.sl 2 (List.map e_u8_i64 r.2.1)),(.bool r.2.2.1),(.int .i64 r.2.2.2.1)]),(.sl 2 (List.map e_u8_i64 r.2.2.2.2.1)),(.int .i64 r.2.2.2.2.2)]) []:=by
 unfold part_Local at h
 obtain⟨x5,e0,h⟩:=bsm h
 obtain⟨x6,e1,h⟩:=bsm h
 by_cases c2:x6=true
 · rw[if_pos c2] at h
   by_cases c3:eqI x5.1 1=true
   · rw[if_pos c3] at h
     by_cases c4:x5.2.2.1=true
     · rw[if_pos c4] at h
       obtain rfl:=osi h
       exact Tri.of (x:=X49) mixed facts49 [(A49_0 x5),.call ⟨true,[]⟩ (.bool x6) [],df,df,dt,A49_1] [⟨c4⟩,⟨(nF c3)⟩,⟨(nF c2)⟩,⟨(ok_part_Right k x5.1 x5.2.1 x5.2.2.1 x5.2.2.2 _ e1)⟩,⟨(ok_part_Part_own_1 k x1 x2 x3 x4 _ e0)⟩] (by kernel_rfl)
     rw[if_neg c4] at h;replace c4:=eqf c4
     obtain⟨x7,e5,h⟩:=bsm h
     obtain rfl:=osi h
     exact Tri.of (x:=X49) mixed facts49 [(A49_0 x5),.call ⟨true,[]⟩ (.bool x6) [],df,df,df,.call ⟨true,[]⟩ (.ref 2 0 0 0 x5.2.1.length .virt) [(.arr 2 (List.map e_u8_i64 x5.2.1) 0 0 false)],.rows (List.map e_u8_i64 x5.2.1)] [⟨(part_all e_u8_i64 (l:=x5.2.1) (n:=x5.2.1.length) rfl)⟩,⟨(le_map e_u8_i64 (Nat.le_refl x5.2.1.length):0+x5.2.1.length≤(List.map e_u8_i64 x5.2.1).length)⟩,⟨(ok_slices_Clone_29 k x5.2.1 _ e5)⟩,⟨c4⟩,⟨(nF c3)⟩,⟨(nF c2)⟩,⟨(ok_part_Right k x5.1 x5.2.1 x5.2.2.1 x5.2.2.2 _ e1)⟩,⟨(ok_part_Part_own_1 k x1 x2 x3 x4 _ e0)⟩] (by kernel_rfl)
   rw[if_neg c3] at h;replace c3:=eqf c3
   obtain rfl:=osi h
   exact Tri.of (x:=X49) mixed facts49 [(A49_0 x5),.call ⟨true,[]⟩ (.bool x6) [],df,dt,A49_1] [⟨(nT c3)⟩,⟨(nF c2)⟩,⟨(ok_part_Right k x5.1 x5.2.1 x5.2.2.1 x5.2.2.2 _ e1)⟩,⟨(ok_part_Part_own_1 k x1 x2 x3 x4 _ e0)⟩] (by kernel_rfl)
 rw[if_neg c2] at h;replace c2:=eqf c2
 obtain rfl:=osi h
 exact Tri.of (x:=X49) mixed facts49 [(A49_0 x5),.call ⟨true,[]⟩ (.bool x6) [],dt,A49_1] [⟨(nT c2)⟩,⟨(ok_part_Right k x5.1 x5.2.1 x5.2.2.1 x5.2.2.2 _ e1)⟩,⟨(ok_part_Part_own_1 k x1 x2 x3 x4 _ e0)⟩] (by kernel_rfl)
end Go.Ws

namespace Go.Ws
open Go.Proofs
set_option linter.unusedSimpArgs false
set_option linter.unusedVariables false
set_option maxRecDepth 1000000
set_option maxHeartbeats 4000000
theorem ok_part_opposites (k:Nat) (x1:Ty16) (r:Ty16) (h:part_opposites k x1=some r):Tri Try.prog 35 [(.sl 2 (List.map e_u8_i64 x1))] [] (.ref 2 0 0 0 r.length .virt) [(.arr 2 (List.map e_u8_i64 r) 0 0 false)]:=opp_tri h
end Go.Ws

namespace Go.Ws
open Go.Proofs
set_option linter.unusedSimpArgs false
set_option linter.unusedVariables false
set_option maxRecDepth 1000000
set_option maxHeartbeats 4000000
noncomputable def X50:Ctx:=⟨Try.f50,[],true⟩
def A50_0 (x6:Int × Ty16 × Bool × Int):Ans:=.call ⟨true,[]⟩ (.agg [(.int .i64 x6.1),(.sl 2 (List.map e_u8_i64 x6.2.1)),(.bool x6.2.2.1),(.int .i64 x6.2.2.2)]) []
def A50_1:Ans:=.norm 0 ⟨[(4,[]),(5,[(0,2)]),(6,[])],[⟨.tmp 4,[],none⟩],false,[],[]⟩
theorem ok_part_Decide (k:Nat) (x1:Int) (x2:Ty16) (x3:Bool) (x4:Int) (x5:Int) (r:Int × Ty16 × Bool × Int × Ty16 × Int) (h:part_Decide k x1 x2 x3 x4 x5=some r):Tri Try.prog 50 [(.agg [(.int .i64 x1),(.sl 2 (List.map e_u8_i64 x2)),(.bool x3),(.int .i64 x4)]),(.int .i64 x5)] [] (.tup [(.agg [(.int .i64 r.1),(.sl 2 (List.map e_u8_i64 r.2.1)),(.bool r.2.2.1),(.int .i64 r.2.2.2.1)]),(.sl 2 (List.map e_u8_i64 r.2.2.2.2.1)),(.int .i64 r.2.2.2.2.2)]) []:=by
 unfold part_Decide at h
 obtain⟨x6,e0,h⟩:=bsm h
 obtain⟨x7,e1,h⟩:=bsm h
 by_cases c2:x7=true
 · rw[if_pos c2] at h
   by_cases c3:eqI x5 1=true
   · rw[if_pos c3] at h
     by_cases c4:eqI x6.2.2.2 x5=true
     · rw[if_pos c4] at h
       obtain rfl:=osi h
       exact Tri.of (x:=X50) mixed facts50 [(A50_0 x6),.call ⟨true,[]⟩ (.bool x7) [],df,df,df,df,df,df,df,df,df,dt,A50_1] [⟨c4⟩,⟨rF⟩,⟨(nF c2)⟩,⟨(nF c3)⟩,⟨(nF c2)⟩,⟨(nF c3)⟩,⟨(nF c3)⟩,⟨(nF c2)⟩,⟨(nF c2)⟩,⟨(nF c2)⟩,⟨(ok_part_Right k x6.1 x6.2.1 x6.2.2.1 x6.2.2.2 _ e1)⟩,⟨(ok_part_Part_own_1 k x1 x2 x3 x4 _ e0)⟩] (by kernel_rfl)
     rw[if_neg c4] at h;replace c4:=eqf c4
     by_cases c5:eqI x6.1 3=true
     · rw[if_pos c5] at h
       obtain rfl:=osi h
       exact Tri.of (x:=X50) mixed facts50 [(A50_0 x6),.call ⟨true,[]⟩ (.bool x7) [],df,df,df,df,df,df,df,df,df,df,dt,dt,dt,dt,dt,dt,A50_1] [⟨rT⟩,⟨c5⟩,⟨c5⟩,⟨c5⟩,⟨c5⟩,⟨c5⟩,⟨c4⟩,⟨rF⟩,⟨(nF c2)⟩,⟨(nF c3)⟩,⟨(nF c2)⟩,⟨(nF c3)⟩,⟨(nF c3)⟩,⟨(nF c2)⟩,⟨(nF c2)⟩,⟨(nF c2)⟩,⟨(ok_part_Right k x6.1 x6.2.1 x6.2.2.1 x6.2.2.2 _ e1)⟩,⟨(ok_part_Part_own_1 k x1 x2 x3 x4 _ e0)⟩] (by kernel_rfl)
     rw[if_neg c5] at h;replace c5:=eqf c5
     by_cases c6:eqI x6.1 1=true
     · rw[if_pos c6] at h
       by_cases c7:eqB (eqI x5 1) x6.2.2.1=true
       · rw[if_pos c7] at h
         obtain rfl:=osi h
         exact Tri.of (x:=X50) mixed facts50 [(A50_0 x6),.call ⟨true,[]⟩ (.bool x7) [],df,df,df,df,df,df,df,df,df,df,df,df,df,dt,dt,dt,df,dt,df,df,dt,A50_1] [⟨c7⟩,⟨(nF c6)⟩,⟨c5⟩,⟨c3⟩,⟨c5⟩,⟨c3⟩,⟨c3⟩,⟨c3⟩,⟨c5⟩,⟨c5⟩,⟨c5⟩,⟨c4⟩,⟨rF⟩,⟨(nF c2)⟩,⟨(nF c3)⟩,⟨(nF c2)⟩,⟨(nF c3)⟩,⟨(nF c3)⟩,⟨(nF c2)⟩,⟨(nF c2)⟩,⟨(nF c2)⟩,⟨(ok_part_Right k x6.1 x6.2.1 x6.2.2.1 x6.2.2.2 _ e1)⟩,⟨(ok_part_Part_own_1 k x1 x2 x3 x4 _ e0)⟩] (by kernel_rfl)
       rw[if_neg c7] at h;replace c7:=eqf c7
       by_cases c8:x6.2.2.1=true
       · rw[if_pos c8] at h
         obtain⟨x8,e9,h⟩:=bsm h
         obtain rfl:=osi h
         exact Tri.of (x:=X50) mixed facts50 [(A50_0 x6),.call ⟨true,[]⟩ (.bool x7) [],df,df,df,df,df,df,df,df,df,df,df,df,df,dt,dt,dt,df,dt,df,df,df,dt,.call ⟨true,[]⟩ (.ref 2 0 0 0 x8.length .virt) [(.arr 2 (List.map e_u8_i64 x8) 0 0 false)],.rows (List.map e_u8_i64 x8)] [⟨(part_all e_u8_i64 (l:=x8) (n:=x8.length) rfl)⟩,⟨(le_map e_u8_i64 (Nat.le_refl x8.length):0+x8.length≤(List.map e_u8_i64 x8).length)⟩,⟨(ok_part_opposites k x6.2.1 _ e9)⟩,⟨c8⟩,⟨c7⟩,⟨(nF c6)⟩,⟨c5⟩,⟨c3⟩,⟨c5⟩,⟨c3⟩,⟨c3⟩,⟨c3⟩,⟨c5⟩,⟨c5⟩,⟨c5⟩,⟨c4⟩,⟨rF⟩,⟨(nF c2)⟩,⟨(nF c3)⟩,⟨(nF c2)⟩,⟨(nF c3)⟩,⟨(nF c3)⟩,⟨(nF c2)⟩,⟨(nF c2)⟩,⟨(nF c2)⟩,⟨(ok_part_Right k x6.1 x6.2.1 x6.2.2.1 x6.2.2.2 _ e1)⟩,⟨(ok_part_Part_own_1 k x1 x2 x3 x4 _ e0)⟩] (by kernel_rfl)
       rw[if_neg c8] at h;replace c8:=eqf c8
       obtain⟨x8,e9,h⟩:=bsm h
       obtain rfl:=osi h
       exact Tri.of (x:=X50) mixed facts50 [(A50_0 x6),.call ⟨true,[]⟩ (.bool x7) [],df,df,df,df,df,df,df,df,df,df,df,df,df,dt,dt,dt,df,dt,df,df,df,df,.call ⟨true,[]⟩ (.ref 2 0 0 0 x6.2.1.length .virt) [(.arr 2 (List.map e_u8_i64 x6.2.1) 0 0 false)],.rows (List.map e_u8_i64 x6.2.1)] [⟨(part_all e_u8_i64 (l:=x6.2.1) (n:=x6.2.1.length) rfl)⟩,⟨(le_map e_u8_i64 (Nat.le_refl x6.2.1.length):0+x6.2.1.length≤(List.map e_u8_i64 x6.2.1).length)⟩,⟨(ok_slices_Clone_29 k x6.2.1 _ e9)⟩,⟨c8⟩,⟨c7⟩,⟨(nF c6)⟩,⟨c5⟩,⟨c3⟩,⟨c5⟩,⟨c3⟩,⟨c3⟩,⟨c3⟩,⟨c5⟩,⟨c5⟩,⟨c5⟩,⟨c4⟩,⟨rF⟩,⟨(nF c2)⟩,⟨(nF c3)⟩,⟨(nF c2)⟩,⟨(nF c3)⟩,⟨(nF c3)⟩,⟨(nF c2)⟩,⟨(nF c2)⟩,⟨(nF c2)⟩,⟨(ok_part_Right k x6.1 x6.2.1 x6.2.2.1 x6.2.2.2 _ e1)⟩,⟨(ok_part_Part_own_1 k x1 x2 x3 x4 _ e0)⟩] (by kernel_rfl)
     rw[if_neg c6] at h;replace c6:=eqf c6
     obtain rfl:=osi h
     exact Tri.of (x:=X50) mixed facts50 [(A50_0 x6),.call ⟨true,[]⟩ (.bool x7) [],df,df,df,df,df,df,df,df,df,df,df,df,df,dt,dt,dt,df,dt,df,dt,A50_1] [⟨(nT c6)⟩,⟨c5⟩,⟨c3⟩,⟨c5⟩,⟨c3⟩,⟨c3⟩,⟨c3⟩,⟨c5⟩,⟨c5⟩,⟨c5⟩,⟨c4⟩,⟨rF⟩,⟨(nF c2)⟩,⟨(nF c3)⟩,⟨(nF c2)⟩,⟨(nF c3)⟩,⟨(nF c3)⟩,⟨(nF c2)⟩,⟨(nF c2)⟩,⟨(nF c2)⟩,⟨(ok_part_Right k x6.1 x6.2.1 x6.2.2.1 x6.2.2.2 _ e1)⟩,⟨(ok_part_Part_own_1 k x1 x2 x3 x4 _ e0)⟩] (by kernel_rfl)
   rw[if_neg c3] at h;replace c3:=eqf c3
   by_cases c4:eqI x5 2=true
   · rw[if_pos c4] at h
     by_cases c5:eqI x6.2.2.2 x5=true
     · rw[if_pos c5] at h
       obtain rfl:=osi h
       exact Tri.of (x:=X50) mixed facts50 [(A50_0 x6),.call ⟨true,[]⟩ (.bool x7) [],df,df,df,dt,dt,df,dt,df,df,dt,A50_1] [⟨c5⟩,⟨(nF c4)⟩,⟨(nF c2)⟩,⟨(nT c3)⟩,⟨(nF c2)⟩,⟨(nT c3)⟩,⟨(nT c3)⟩,⟨(nF c2)⟩,⟨(nF c2)⟩,⟨(nF c2)⟩,⟨(ok_part_Right k x6.1 x6.2.1 x6.2.2.1 x6.2.2.2 _ e1)⟩,⟨(ok_part_Part_own_1 k x1 x2 x3 x4 _ e0)⟩] (by kernel_rfl)
     rw[if_neg c5] at h;replace c5:=eqf c5
     by_cases c6:eqI x6.1 3=true
     · rw[if_pos c6] at h
       obtain rfl:=osi h
       exact Tri.of (x:=X50) mixed facts50 [(A50_0 x6),.call ⟨true,[]⟩ (.bool x7) [],df,df,df,dt,dt,df,dt,df,df,df,dt,dt,dt,dt,dt,dt,A50_1] [⟨rT⟩,⟨c6⟩,⟨c6⟩,⟨c6⟩,⟨c6⟩,⟨c6⟩,⟨c5⟩,⟨(nF c4)⟩,⟨(nF c2)⟩,⟨(nT c3)⟩,⟨(nF c2)⟩,⟨(nT c3)⟩,⟨(nT c3)⟩,⟨(nF c2)⟩,⟨(nF c2)⟩,⟨(nF c2)⟩,⟨(ok_part_Right k x6.1 x6.2.1 x6.2.2.1 x6.2.2.2 _ e1)⟩,⟨(ok_part_Part_own_1 k x1 x2 x3 x4 _ e0)⟩] (by kernel_rfl)
     rw[if_neg c6] at h;replace c6:=eqf c6
     by_cases c7:eqB (eqI x5 1) x6.2.2.1=true
     · rw[if_pos c7] at h
       obtain rfl:=osi h
       exact Tri.of (x:=X50) mixed facts50 [(A50_0 x6),.call ⟨true,[]⟩ (.bool x7) [],df,df,df,dt,dt,df,dt,df,df,df,df,df,df,df,df,df,df,df,df,df,dt,A50_1] [⟨c7⟩,⟨rF⟩,⟨c6⟩,⟨c3⟩,⟨c6⟩,⟨c3⟩,⟨c3⟩,⟨c3⟩,⟨c6⟩,⟨c6⟩,⟨c6⟩,⟨c5⟩,⟨(nF c4)⟩,⟨(nF c2)⟩,⟨(nT c3)⟩,⟨(nF c2)⟩,⟨(nT c3)⟩,⟨(nT c3)⟩,⟨(nF c2)⟩,⟨(nF c2)⟩,⟨(nF c2)⟩,⟨(ok_part_Right k x6.1 x6.2.1 x6.2.2.1 x6.2.2.2 _ e1)⟩,⟨(ok_part_Part_own_1 k x1 x2 x3 x4 _ e0)⟩] (by kernel_rfl)
     rw[if_neg c7] at h;replace c7:=eqf c7
     by_cases c8:x6.2.2.1=true
     · rw[if_pos c8] at h
       obtain⟨x8,e9,h⟩:=bsm h
       obtain rfl:=osi h
       exact Tri.of (x:=X50) mixed facts50 [(A50_0 x6),.call ⟨true,[]⟩ (.bool x7) [],df,df,df,dt,dt,df,dt,df,df,df,df,df,df,df,df,df,df,df,df,df,df,dt,.call ⟨true,[]⟩ (.ref 2 0 0 0 x8.length .virt) [(.arr 2 (List.map e_u8_i64 x8) 0 0 false)],.rows (List.map e_u8_i64 x8)] [⟨(part_all e_u8_i64 (l:=x8) (n:=x8.length) rfl)⟩,⟨(le_map e_u8_i64 (Nat.le_refl x8.length):0+x8.length≤(List.map e_u8_i64 x8).length)⟩,⟨(ok_part_opposites k x6.2.1 _ e9)⟩,⟨c8⟩,⟨c7⟩,⟨rF⟩,⟨c6⟩,⟨c3⟩,⟨c6⟩,⟨c3⟩,⟨c3⟩,⟨c3⟩,⟨c6⟩,⟨c6⟩,⟨c6⟩,⟨c5⟩,⟨(nF c4)⟩,⟨(nF c2)⟩,⟨(nT c3)⟩,⟨(nF c2)⟩,⟨(nT c3)⟩,⟨(nT c3)⟩,⟨(nF c2)⟩,⟨(nF c2)⟩,⟨(nF c2)⟩,⟨(ok_part_Right k x6.1 x6.2.1 x6.2.2.1 x6.2.2.2 _ e1)⟩,⟨(ok_part_Part_own_1 k x1 x2 x3 x4 _ e0)⟩] (by kernel_rfl)
     rw[if_neg c8] at h;replace c8:=eqf c8
     obtain⟨x8,e9,h⟩:=bsm h
     obtain rfl:=osi h
     exact Tri.of (x:=X50) mixed facts50 [(A50_0 x6),.call ⟨true,[]⟩ (.bool x7) [],df,df,df,dt,dt,df,dt,df,df,df,df,df,df,df,df,df,df,df,df,df,df,df,.call ⟨true,[]⟩ (.ref 2 0 0 0 x6.2.1.length .virt) [(.arr 2 (List.map e_u8_i64 x6.2.1) 0 0 false)],.rows (List.map e_u8_i64 x6.2.1)] [⟨(part_all e_u8_i64 (l:=x6.2.1) (n:=x6.2.1.length) rfl)⟩,⟨(le_map e_u8_i64 (Nat.le_refl x6.2.1.length):0+x6.2.1.length≤(List.map e_u8_i64 x6.2.1).length)⟩,⟨(ok_slices_Clone_29 k x6.2.1 _ e9)⟩,⟨c8⟩,⟨c7⟩,⟨rF⟩,⟨c6⟩,⟨c3⟩,⟨c6⟩,⟨c3⟩,⟨c3⟩,⟨c3⟩,⟨c6⟩,⟨c6⟩,⟨c6⟩,⟨c5⟩,⟨(nF c4)⟩,⟨(nF c2)⟩,⟨(nT c3)⟩,⟨(nF c2)⟩,⟨(nT c3)⟩,⟨(nT c3)⟩,⟨(nF c2)⟩,⟨(nF c2)⟩,⟨(nF c2)⟩,⟨(ok_part_Right k x6.1 x6.2.1 x6.2.2.1 x6.2.2.2 _ e1)⟩,⟨(ok_part_Part_own_1 k x1 x2 x3 x4 _ e0)⟩] (by kernel_rfl)
   rw[if_neg c4] at h;replace c4:=eqf c4
   obtain rfl:=osi h
   exact Tri.of (x:=X50) mixed facts50 [(A50_0 x6),.call ⟨true,[]⟩ (.bool x7) [],df,df,df,dt,dt,df,dt,df,dt,A50_1] [⟨(nT c4)⟩,⟨(nF c2)⟩,⟨(nT c3)⟩,⟨(nF c2)⟩,⟨(nT c3)⟩,⟨(nT c3)⟩,⟨(nF c2)⟩,⟨(nF c2)⟩,⟨(nF c2)⟩,⟨(ok_part_Right k x6.1 x6.2.1 x6.2.2.1 x6.2.2.2 _ e1)⟩,⟨(ok_part_Part_own_1 k x1 x2 x3 x4 _ e0)⟩] (by kernel_rfl)
 rw[if_neg c2] at h;replace c2:=eqf c2
 obtain rfl:=osi h
 exact Tri.of (x:=X50) mixed facts50 [(A50_0 x6),.call ⟨true,[]⟩ (.bool x7) [],dt,dt,dt,dt,dt,dt,A50_1] [⟨rT⟩,⟨(nT c2)⟩,⟨(nT c2)⟩,⟨(nT c2)⟩,⟨(nT c2)⟩,⟨(nT c2)⟩,⟨(ok_part_Right k x6.1 x6.2.1 x6.2.2.1 x6.2.2.2 _ e1)⟩,⟨(ok_part_Part_own_1 k x1 x2 x3 x4 _ e0)⟩] (by kernel_rfl)
end Go.Ws

namespace Go.Ws
open Go.Proofs
set_option linter.unusedSimpArgs false
set_option linter.unusedVariables false
set_option maxRecDepth 1000000
set_option maxHeartbeats 4000000
noncomputable def X13:Ctx:=⟨Try.f13,[],false⟩
theorem ok_site_New:Tri Try.prog 13 [] [] (.hp 0 0) [(.row [.nils,.nils,(.mp 1),.nils]),(.map (encM .i64 (fun y=>AV.agg (e_i64_Lu8i64E_b_i64 y)) ([]:Ty6)) ([]:Ty6).length)]:=by
 obtain⟨r,h⟩:∃r,site_New=r:=⟨_,rfl⟩
 try rw[h]
 unfold site_New at h
 obtain rfl:=h
 exact Tri.of (x:=X13) mixed facts13 [.norm 0 ⟨[(0,[])],[⟨.tmp 0,[],none⟩,⟨.cell 0 2,[],none⟩],false,[],[]⟩] [] (by kernel_rfl)
end Go.Ws

namespace Go.Ws
open Go.Proofs
set_option linter.unusedSimpArgs false
set_option linter.unusedVariables false
set_option maxRecDepth 1000000
set_option maxHeartbeats 4000000
noncomputable def X26_3 (x1:Ty16) (x2:Ty12) (x3:Ty6) (x4:Ty11):Ctx:=⟨Try.f26,[(.row [(.sl 2 (List.map e_u8_i64 x1)),(.sl 3 (List.map e_u8_i64_b x2)),(.mp 1),(.ref 4 2 0 0 x4.length .virt)]),(.map (encM .i64 (fun y=>AV.agg (e_i64_Lu8i64E_b_i64 y)) x3) x3.length),(.arr 4 (List.map e_i64_i64_u8_i64 x4) 0 0 true)],false⟩
theorem ok_site_Site_good_3 (x1:Ty16) (x2:Ty12) (x3:Ty6) (x4:Ty11):Tri Try.prog 26 [(.hp 0 0)] [(.row [(.sl 2 (List.map e_u8_i64 x1)),(.sl 3 (List.map e_u8_i64_b x2)),(.mp 1),(.ref 4 2 0 0 x4.length .virt)]),(.map (encM .i64 (fun y=>AV.agg (e_i64_Lu8i64E_b_i64 y)) x3) x3.length),(.arr 4 (List.map e_i64_i64_u8_i64 x4) 0 0 true)] (.bool (!false)) [(.row [(.sl 2 (List.map e_u8_i64 x1)),(.sl 3 (List.map e_u8_i64_b x2)),(.mp 1),(.ref 4 2 0 0 x4.length .virt)]),(.map (encM .i64 (fun y=>AV.agg (e_i64_Lu8i64E_b_i64 y)) x3) x3.length),(.arr 4 (List.map e_i64_i64_u8_i64 x4) 0 0 true)]:=by
 obtain⟨r,h⟩:∃r,site_Site_good_3 x1 x2 x3 x4=r:=⟨_,rfl⟩
 try rw[h]
 unfold site_Site_good_3 at h
 obtain rfl:=h
 exact Tri.of (x:=(X26_3 x1 x2 x3 x4)) mixed facts26 [dt,dt,dt,dt,dt,dt,.norm 0 ⟨[(2,[])],[],false,[],[]⟩] [⟨(nT rfl)⟩,⟨(nT rfl)⟩,⟨(nT rfl)⟩,⟨(nT rfl)⟩,⟨(nT rfl)⟩,⟨(nT rfl)⟩] (by kernel_rfl)
end Go.Ws

namespace Go.Ws
open Go.Proofs
set_option linter.unusedSimpArgs false
set_option linter.unusedVariables false
set_option maxRecDepth 1000000
set_option maxHeartbeats 4000000
noncomputable def X37_3 (x9:Ty16) (x10:Ty12) (x11:Ty6) (x12:Ty11):Ctx:=⟨Try.f37,[(.row [(.sl 2 (List.map e_u8_i64 x9)),(.sl 3 (List.map e_u8_i64_b x10)),(.mp 1),(.ref 4 2 0 0 x12.length .virt)]),(.map (encM .i64 (fun y=>AV.agg (e_i64_Lu8i64E_b_i64 y)) x11) x11.length),(.arr 4 (List.map e_i64_i64_u8_i64 x12) 0 0 true)],false⟩
noncomputable def L37_3_0:Code:=at_ Try.f37 [1,1,1,1,1,1,1,0,1,4,5]
def S37_3_0 (x2:Ty16) (x5:Int) (x6:Int) (x7:Int) (x8:Int) (x9:Ty16) (x11:Ty6) (x12:Ty11) (x13:Ty12 × Int) (v337001_1:Int) (v337001_2:Int):St:=⟨mkT 92 [(5,(.hp 3 0)),(10,(.int .i64 v337001_1)),(75,(.sl 2 (List.map e_u8_i64 x2))),(76,(.int .i64 (nI x2.length))),(77,(.int .i64 v337001_2))],[(.row [(.sl 2 (List.map e_u8_i64 x9)),(.sl 3 (List.map e_u8_i64_b x13.1)),(.mp 1),(.ref 4 2 0 0 x12.length .virt)]),(.map (encM .i64 (fun y=>AV.agg (e_i64_Lu8i64E_b_i64 y)) x11) x11.length),(.arr 4 (List.map e_i64_i64_u8_i64 x12) 0 0 true),(.row [(.int .i64 x5),(.int .i64 x6),(.int .u8 x7),(.int .i64 x8)])]⟩
def E37_3_0_0 (x9:Ty16) (x11:Ty6) (x12:Ty11) (x13:Ty12 × Int) (v337002_1:Int):St:=⟨mkT 92 [(10,(.int .i64 v337002_1))],[(.row [(.sl 2 (List.map e_u8_i64 x9)),(.sl 3 (List.map e_u8_i64_b x13.1)),(.mp 1),(.ref 4 2 0 0 x12.length .virt)]),(.map (encM .i64 (fun y=>AV.agg (e_i64_Lu8i64E_b_i64 y)) x11) x11.length),(.arr 4 (List.map e_i64_i64_u8_i64 x12) 0 0 true)]⟩
def O37_3_0 (x2:Ty16) (x5:Int) (x6:Int) (x7:Int) (x8:Int) (x9:Ty16) (x10:Ty12) (x11:Ty6) (x12:Ty11) (x13:Ty12 × Int) (y:(Int)):GX:=.st (.exit 0) (E37_3_0_0 x9 x11 x12 x13 y)
def A37_3_0 (x13:Ty12 × Int):Ans:=.call ⟨true,[]⟩ (.tup [(.sl 3 (List.map e_u8_i64_b x13.1)),(.int .i64 x13.2)]) []
def A37_3_1 (x14:Int × Ty16 × Bool × Int × Int):Ans:=.call ⟨true,[]⟩ (.tup [(.agg [(.int .i64 x14.1),(.sl 2 (List.map e_u8_i64 x14.2.1)),(.bool x14.2.2.1),(.int .i64 x14.2.2.2.1)]),(.int .i64 x14.2.2.2.2)]) []
def A37_3_2:Ans:=.norm 0 ⟨[(6,[]),(7,[])],[],false,[],[]⟩
theorem ok_site_Site_access_3_l0 (x2:Ty16) (x5:Int) (x6:Int) (x7:Int) (x8:Int) (x9:Ty16) (x10:Ty12) (x11:Ty6) (x12:Ty11) (x13:Ty12 × Int) (y:(Int)):∀(k:Nat) (v337001_1:Int) (v337001_2:Int),site_Site_access_3_l0 k x2 x5 x6 x7 x8 x9 x10 x11 x12 x13 v337001_1 v337001_2=some y→LT Try.prog (X37_3 x9 x10 x11 x12) L37_3_0 (S37_3_0 x2 x5 x6 x7 x8 x9 x11 x12 x13 v337001_1 v337001_2) (O37_3_0 x2 x5 x6 x7 x8 x9 x10 x11 x12 x13 y)
 | 0,v337001_1,v337001_2,h=>by cases h
 | k+1,v337001_1,v337001_2,h=>by
  rw[site_Site_access_3_l0] at h
  by_cases cL0:ltI v337001_2 (nI x2.length)=true
  · rw[if_pos cL0] at h
    by_cases cL1:inI v337001_2 x2.length=true
    · rw[if_pos cL1] at h
      obtain⟨v337000_1,eL2,h⟩:=bsm h
      by_cases cL3:eqI v337000_1.1 x7=true
      · rw[if_pos cL3] at h
        exact LT.next mixed (hs:=⟨[(5,[]),(10,[]),(75,[]),(76,[]),(77,[])],[⟨.tmp 5,[],none⟩],false,[],[]⟩) (es:=none) [dt,.n x2.length,.row [(.int .u8 v337000_1.1),(.int .i64 v337000_1.2)],dt] [⟨cL3⟩,⟨(cells_map (e:=e_u8_i64) eL2 2 0 2 (by decide))⟩,⟨cL1⟩,⟨(len_map e_u8_i64 x2)⟩,⟨cL0⟩] (by kernel_rfl) (ok_site_Site_access_3_l0 x2 x5 x6 x7 x8 x9 x10 x11 x12 x13 y k (iadd .i64 v337001_1 v337000_1.2) (iadd .i64 v337001_2 1) h)
      rw[if_neg cL3] at h;replace cL3:=eqf cL3
      exact LT.next mixed (hs:=⟨[(5,[]),(10,[]),(75,[]),(76,[]),(77,[])],[⟨.tmp 5,[],none⟩],false,[],[]⟩) (es:=none) [dt,.n x2.length,.row [(.int .u8 v337000_1.1),(.int .i64 v337000_1.2)],df] [⟨cL3⟩,⟨(cells_map (e:=e_u8_i64) eL2 2 0 2 (by decide))⟩,⟨cL1⟩,⟨(len_map e_u8_i64 x2)⟩,⟨cL0⟩] (by kernel_rfl) (ok_site_Site_access_3_l0 x2 x5 x6 x7 x8 x9 x10 x11 x12 x13 y k v337001_1 (iadd .i64 v337001_2 1) h)
    rw[if_neg cL1] at h;replace cL1:=eqf cL1
    cases h
  rw[if_neg cL0] at h;replace cL0:=eqf cL0
  obtain rfl:=osi h
  show LT _ _ _ _ (.st (.exit 0) (E37_3_0_0 x9 x11 x12 x13 v337001_1))
  exact LT.done mixed (hs:=⟨[],[],false,[],[]⟩) (es:=(some ⟨[(10,[])],[],false,[],[]⟩)) [df] [⟨cL0⟩] (by kernel_rfl) (fun s h=>by cases h)
theorem ok_site_Site_access_3 (k:Nat) (x1:Int) (x2:Ty16) (x3:Bool) (x4:Int) (x5:Int) (x6:Int) (x7:Int) (x8:Int) (x9:Ty16) (x10:Ty12) (x11:Ty6) (x12:Ty11) (r:Ty12 × Ty6 × Int × Int) (h:site_Site_access_3 k x1 x2 x3 x4 x5 x6 x7 x8 x9 x10 x11 x12=some r):Tri Try.prog 37 [(.hp 0 0),(.agg [(.int .i64 x1),(.sl 2 (List.map e_u8_i64 x2)),(.bool x3),(.int .i64 x4)]),(.agg [(.int .i64 x5),(.int .i64 x6),(.int .u8 x7),(.int .i64 x8)])] [(.row [(.sl 2 (List.map e_u8_i64 x9)),(.sl 3 (List.map e_u8_i64_b x10)),(.mp 1),(.ref 4 2 0 0 x12.length .virt)]),(.map (encM .i64 (fun y=>AV.agg (e_i64_Lu8i64E_b_i64 y)) x11) x11.length),(.arr 4 (List.map e_i64_i64_u8_i64 x12) 0 0 true)] (.tup [(.int .i64 r.2.2.2),(.int .i64 r.2.2.1)]) [(.row [(.sl 2 (List.map e_u8_i64 x9)),(.sl 3 (List.map e_u8_i64_b r.1)),(.mp 1),(.ref 4 2 0 0 x12.length .virt)]),(.map (encM .i64 (fun y=>AV.agg (e_i64_Lu8i64E_b_i64 y)) r.2.1) r.2.1.length),(.arr 4 (List.map e_i64_i64_u8_i64 x12) 0 0 true)]:=by
 unfold site_Site_access_3 at h
 by_cases c0:eqI x1 0=true
 · rw[if_pos c0] at h
   obtain⟨x13,e1,h⟩:=bsm h
   by_cases c2:eqI x13.2 0=true
   · rw[if_pos c2] at h
     by_cases c3:eqI x5 3=true
     · rw[if_pos c3] at h
       obtain⟨x14,e4,h⟩:=bsm h
       by_cases c5:eqI x14.2.2.2.2 0=true
       · rw[if_pos c5] at h
         by_cases c6:mHas x11 x6=true
         · rw[if_pos c6] at h
           obtain⟨x15,e7,h⟩:=bsm h
           obtain rfl:=osi h
           exact Tri.of (x:=(X37_3 x9 x10 x11 x12)) mixed facts37 [df,(A37_3_0 x13),df,dt,(A37_3_1 x14),df,.opt (some (.agg [(.int .i64 x15.1),(.sl 2 (List.map e_u8_i64 x15.2.1)),(.bool x15.2.2.1),(.int .i64 x15.2.2.2)])),.n (mIx x11 x6),.ents (encM .i64 (fun y=>AV.agg (e_i64_Lu8i64E_b_i64 y)) x11) x11.length,.ents (encM .i64 (fun y=>AV.agg (e_i64_Lu8i64E_b_i64 y)) (mPut x11 x6 (x14.1,x14.2.1,x14.2.2.1,x14.2.2.2.1))) (mPut x11 x6 (x14.1,x14.2.1,x14.2.2.1,x14.2.2.2.1)).length,A37_3_2] [⟨(sb_some .i64 (fun y=>AV.agg (e_i64_Lu8i64E_b_i64 y)) e7 (x14.1,x14.2.1,x14.2.2.1,x14.2.2.2.1))⟩,⟨(ent_some .i64 (fun y=>AV.agg (e_i64_Lu8i64E_b_i64 y)) e7 (.agg [(.int .i64 0),(.sl 2 (List.map e_u8_i64 [])),(.bool false),(.int .i64 0)]))⟩,⟨(idx_enc .i64 (fun y=>AV.agg (e_i64_Lu8i64E_b_i64 y)) x11 x6)⟩,⟨(look_some .i64 (fun y=>AV.agg (e_i64_Lu8i64E_b_i64 y)) e7)⟩,⟨(nF c5)⟩,⟨(ok_part_Add k x1 x2 x3 x4 x7 x8 _ e4)⟩,⟨c3⟩,⟨(nF c2)⟩,⟨(ok_lock_Take k x10 x6 x7 (eqI x5 3) _ e1)⟩,⟨(nF c0)⟩] (by kernel_rfl)
         rw[if_neg c6] at h;replace c6:=eqf c6
         obtain rfl:=osi h
         exact Tri.of (x:=(X37_3 x9 x10 x11 x12)) mixed facts37 [df,(A37_3_0 x13),df,dt,(A37_3_1 x14),df,.opt none,.n (mIx x11 x6),.ents (encM .i64 (fun y=>AV.agg (e_i64_Lu8i64E_b_i64 y)) (mPut x11 x6 (0,[],false,0))) (mPut x11 x6 (0,[],false,0)).length,.ents (encM .i64 (fun y=>AV.agg (e_i64_Lu8i64E_b_i64 y)) (mPut x11 x6 (x14.1,x14.2.1,x14.2.2.1,x14.2.2.2.1))) (mPut x11 x6 (x14.1,x14.2.1,x14.2.2.1,x14.2.2.2.1)).length,A37_3_2] [⟨(sb_none .i64 (fun y=>AV.agg (e_i64_Lu8i64E_b_i64 y)) (l:=x11) (q:=x6) (0,[],false,0) (x14.1,x14.2.1,x14.2.2.1,x14.2.2.2.1))⟩,⟨(ent_none .i64 (fun y=>AV.agg (e_i64_Lu8i64E_b_i64 y)) c6 (0,[],false,0))⟩,⟨(idx_enc .i64 (fun y=>AV.agg (e_i64_Lu8i64E_b_i64 y)) x11 x6)⟩,⟨(look_none .i64 (fun y=>AV.agg (e_i64_Lu8i64E_b_i64 y)) c6)⟩,⟨(nF c5)⟩,⟨(ok_part_Add k x1 x2 x3 x4 x7 x8 _ e4)⟩,⟨c3⟩,⟨(nF c2)⟩,⟨(ok_lock_Take k x10 x6 x7 (eqI x5 3) _ e1)⟩,⟨(nF c0)⟩] (by kernel_rfl)
       rw[if_neg c5] at h;replace c5:=eqf c5
       obtain rfl:=osi h
       exact Tri.of (x:=(X37_3 x9 x10 x11 x12)) mixed facts37 [df,(A37_3_0 x13),df,dt,(A37_3_1 x14),dt,A37_3_2] [⟨(nT c5)⟩,⟨(ok_part_Add k x1 x2 x3 x4 x7 x8 _ e4)⟩,⟨c3⟩,⟨(nF c2)⟩,⟨(ok_lock_Take k x10 x6 x7 (eqI x5 3) _ e1)⟩,⟨(nF c0)⟩] (by kernel_rfl)
     rw[if_neg c3] at h;replace c3:=eqf c3
     obtain⟨x14,e4,h⟩:=bsm h
     obtain⟨x16,e5,h⟩:=bsm h
     obtain rfl:=osi h
     exact Tri.of (x:=(X37_3 x9 x10 x11 x12)) mixed facts37 [df,(A37_3_0 x13),df,df,.call ⟨true,[]⟩ (.int .i64 x14) [],.n x2.length,.norm 2 ⟨[(5,[]),(10,[]),(75,[]),(76,[]),(77,[])],[⟨.tmp 5,[],none⟩],false,[],[]⟩,.out (.st .normal (E37_3_0_0 x9 x11 x12 x13 x16)),A37_3_2] [⟨(LT.block (ok_site_Site_access_3_l0 x2 x5 x6 x7 x8 x9 x10 x11 x12 x13 _ k x14 0 e5))⟩,⟨(len_map e_u8_i64 x2)⟩,⟨(ok_ledger_Get k x9 x7 _ e4)⟩,⟨c3⟩,⟨(nF c2)⟩,⟨(ok_lock_Take k x10 x6 x7 (eqI x5 3) _ e1)⟩,⟨(nF c0)⟩] (by kernel_rfl)
   rw[if_neg c2] at h;replace c2:=eqf c2
   obtain rfl:=osi h
   exact Tri.of (x:=(X37_3 x9 x10 x11 x12)) mixed facts37 [df,(A37_3_0 x13),dt,A37_3_2] [⟨(nT c2)⟩,⟨(ok_lock_Take k x10 x6 x7 (eqI x5 3) _ e1)⟩,⟨(nF c0)⟩] (by kernel_rfl)
 rw[if_neg c0] at h;replace c0:=eqf c0
 obtain rfl:=osi h
 exact Tri.of (x:=(X37_3 x9 x10 x11 x12)) mixed facts37 [dt,A37_3_2] [⟨(nT c0)⟩] (by kernel_rfl)
end Go.Ws

namespace Go.Ws
open Go.Proofs
set_option linter.unusedSimpArgs false
set_option linter.unusedVariables false
set_option maxRecDepth 1000000
set_option maxHeartbeats 4000000
noncomputable def X38_3 (x9:Ty16) (x10:Ty12) (x11:Ty6) (x12:Ty11):Ctx:=⟨Try.f38,[(.row [(.sl 2 (List.map e_u8_i64 x9)),(.sl 3 (List.map e_u8_i64_b x10)),(.mp 1),(.ref 4 2 0 0 x12.length .virt)]),(.map (encM .i64 (fun y=>AV.agg (e_i64_Lu8i64E_b_i64 y)) x11) x11.length),(.arr 4 (List.map e_i64_i64_u8_i64 x12) 0 0 true)],false⟩
def A38_3_0 (x13:Int × Ty16 × Bool × Int × Int):Ans:=.call ⟨true,[]⟩ (.tup [(.agg [(.int .i64 x13.1),(.sl 2 (List.map e_u8_i64 x13.2.1)),(.bool x13.2.2.1),(.int .i64 x13.2.2.2.1)]),(.int .i64 x13.2.2.2.2)]) []
def A38_3_1 (x15:Ty12):Ans:=.call ⟨true,[]⟩ (.sl 3 (List.map e_u8_i64_b x15)) []
def A38_3_2 (x13:Int × Ty16 × Bool × Int × Ty16 × Int):Ans:=.call ⟨true,[]⟩ (.tup [(.agg [(.int .i64 x13.1),(.sl 2 (List.map e_u8_i64 x13.2.1)),(.bool x13.2.2.1),(.int .i64 x13.2.2.2.1)]),(.sl 2 (List.map e_u8_i64 x13.2.2.2.2.1)),(.int .i64 x13.2.2.2.2.2)]) []
def A38_3_3 (x6:Int) (x11:Ty6) (x13:Int × Ty16 × Bool × Int × Ty16 × Int):Ans:=.ents (encM .i64 (fun y=>AV.agg (e_i64_Lu8i64E_b_i64 y)) (mPut x11 x6 (x13.1,x13.2.1,x13.2.2.1,x13.2.2.2.1))) (mPut x11 x6 (x13.1,x13.2.1,x13.2.2.1,x13.2.2.2.1)).length
def A38_3_4 (x14:Ty16 × Int):Ans:=.call ⟨true,[]⟩ (.tup [(.sl 2 (List.map e_u8_i64 x14.1)),(.int .i64 x14.2)]) []
theorem ok_site_Site_end_3 (k:Nat) (x1:Int) (x2:Ty16) (x3:Bool) (x4:Int) (x5:Int) (x6:Int) (x7:Int) (x8:Int) (x9:Ty16) (x10:Ty12) (x11:Ty6) (x12:Ty11) (r:Ty16 × Ty12 × Ty6 × Int) (h:site_Site_end_3 k x1 x2 x3 x4 x5 x6 x7 x8 x9 x10 x11 x12=some r):Tri Try.prog 38 [(.hp 0 0),(.agg [(.int .i64 x1),(.sl 2 (List.map e_u8_i64 x2)),(.bool x3),(.int .i64 x4)]),(.agg [(.int .i64 x5),(.int .i64 x6),(.int .u8 x7),(.int .i64 x8)])] [(.row [(.sl 2 (List.map e_u8_i64 x9)),(.sl 3 (List.map e_u8_i64_b x10)),(.mp 1),(.ref 4 2 0 0 x12.length .virt)]),(.map (encM .i64 (fun y=>AV.agg (e_i64_Lu8i64E_b_i64 y)) x11) x11.length),(.arr 4 (List.map e_i64_i64_u8_i64 x12) 0 0 true)] (.int .i64 r.2.2.2) [(.row [(.sl 2 (List.map e_u8_i64 r.1)),(.sl 3 (List.map e_u8_i64_b r.2.1)),(.mp 1),(.ref 4 2 0 0 x12.length .virt)]),(.map (encM .i64 (fun y=>AV.agg (e_i64_Lu8i64E_b_i64 y)) r.2.2.1) r.2.2.1.length),(.arr 4 (List.map e_i64_i64_u8_i64 x12) 0 0 true)]:=by
 unfold site_Site_end_3 at h
 by_cases c0:eqI x5 4=true
 · rw[if_pos c0] at h
   obtain⟨x13,e1,h⟩:=bsm h
   by_cases c2:eqI x13.2.2.2.2 0=true
   · rw[if_pos c2] at h
     obtain⟨x14,e3,h⟩:=bsm h
     by_cases c4:eqI x13.1 2=true
     · rw[if_pos c4] at h
       obtain⟨x15,e5,h⟩:=bsm h
       obtain rfl:=osi h
       exact Tri.of (x:=(X38_3 x9 x10 x11 x12)) mixed facts38 [dt,(A38_3_0 x13),df,.ents (encM .i64 (fun y=>AV.agg (e_i64_Lu8i64E_b_i64 y)) (mPut x11 x6 (x13.1,x13.2.1,x13.2.2.1,x13.2.2.2.1))) (mPut x11 x6 (x13.1,x13.2.1,x13.2.2.1,x13.2.2.2.1)).length,.call ⟨true,[[],[(0,2)]]⟩ (.tup [(.sl 2 (List.map e_u8_i64 x14.1)),(.int .i64 x14.2)]) [],df,df,df,df,dt,(A38_3_1 x15),.norm 0 ⟨[(6,[])],[],false,[],[]⟩] [⟨(ok_lock_Free k x10 x6 _ e5)⟩,⟨c4⟩,⟨(nF c0)⟩,⟨(nF c0)⟩,⟨(nF c0)⟩,⟨(nF c0)⟩,⟨(ok_ledger_Put k x9 [] _ e3)⟩,⟨(put_enc .i64 (fun y=>AV.agg (e_i64_Lu8i64E_b_i64 y)) x11 x6 (x13.1,x13.2.1,x13.2.2.1,x13.2.2.2.1))⟩,⟨(nF c2)⟩,⟨(ok_part_Vote k x1 x2 x3 x4 (!eqI x8 0) _ e1)⟩,⟨c0⟩] (by kernel_rfl)
     rw[if_neg c4] at h;replace c4:=eqf c4
     obtain rfl:=osi h
     exact Tri.of (x:=(X38_3 x9 x10 x11 x12)) mixed facts38 [dt,(A38_3_0 x13),df,.ents (encM .i64 (fun y=>AV.agg (e_i64_Lu8i64E_b_i64 y)) (mPut x11 x6 (x13.1,x13.2.1,x13.2.2.1,x13.2.2.2.1))) (mPut x11 x6 (x13.1,x13.2.1,x13.2.2.1,x13.2.2.2.1)).length,.call ⟨true,[[],[(0,2)]]⟩ (.tup [(.sl 2 (List.map e_u8_i64 x14.1)),(.int .i64 x14.2)]) [],df,df,df,df,df,.norm 0 ⟨[(6,[])],[],false,[],[]⟩] [⟨c4⟩,⟨(nF c0)⟩,⟨(nF c0)⟩,⟨(nF c0)⟩,⟨(nF c0)⟩,⟨(ok_ledger_Put k x9 [] _ e3)⟩,⟨(put_enc .i64 (fun y=>AV.agg (e_i64_Lu8i64E_b_i64 y)) x11 x6 (x13.1,x13.2.1,x13.2.2.1,x13.2.2.2.1))⟩,⟨(nF c2)⟩,⟨(ok_part_Vote k x1 x2 x3 x4 (!eqI x8 0) _ e1)⟩,⟨c0⟩] (by kernel_rfl)
   rw[if_neg c2] at h;replace c2:=eqf c2
   obtain rfl:=osi h
   exact Tri.of (x:=(X38_3 x9 x10 x11 x12)) mixed facts38 [dt,(A38_3_0 x13),dt,.norm 0 ⟨[(6,[])],[],false,[],[]⟩] [⟨(nT c2)⟩,⟨(ok_part_Vote k x1 x2 x3 x4 (!eqI x8 0) _ e1)⟩,⟨c0⟩] (by kernel_rfl)
 rw[if_neg c0] at h;replace c0:=eqf c0
 by_cases c1:eqI x5 5=true
 · rw[if_pos c1] at h
   obtain⟨x13,e2,h⟩:=bsm h
   by_cases c3:eqI x13.2.2.2.2.2 0=true
   · rw[if_pos c3] at h
     obtain⟨x14,e4,h⟩:=bsm h
     obtain⟨x15,e5,h⟩:=bsm h
     obtain rfl:=osi h
     exact Tri.of (x:=(X38_3 x9 x10 x11 x12)) mixed facts38 [df,dt,(A38_3_2 x13),df,(A38_3_3 x6 x11 x13),(A38_3_4 x14),dt,dt,dt,dt,dt,(A38_3_1 x15),.norm 0 ⟨[(6,[])],[],false,[],[]⟩] [⟨(ok_lock_Free k x10 x6 _ e5)⟩,⟨rT⟩,⟨(nT c0)⟩,⟨(nT c0)⟩,⟨(nT c0)⟩,⟨(nT c0)⟩,⟨(ok_ledger_Put k x9 x13.2.2.2.2.1 _ e4)⟩,⟨(put_enc .i64 (fun y=>AV.agg (e_i64_Lu8i64E_b_i64 y)) x11 x6 (x13.1,x13.2.1,x13.2.2.1,x13.2.2.2.1))⟩,⟨(nF c3)⟩,⟨(ok_part_Local k x1 x2 x3 x4 _ e2)⟩,⟨c1⟩,⟨c0⟩] (by kernel_rfl)
   rw[if_neg c3] at h;replace c3:=eqf c3
   obtain rfl:=osi h
   exact Tri.of (x:=(X38_3 x9 x10 x11 x12)) mixed facts38 [df,dt,(A38_3_2 x13),dt,.norm 0 ⟨[(6,[])],[],false,[],[]⟩] [⟨(nT c3)⟩,⟨(ok_part_Local k x1 x2 x3 x4 _ e2)⟩,⟨c1⟩,⟨c0⟩] (by kernel_rfl)
 rw[if_neg c1] at h;replace c1:=eqf c1
 by_cases c2:eqI x8 1=true
 · rw[if_pos c2] at h
   obtain⟨x13,e3,h⟩:=bsm h
   by_cases c4:eqI x13.2.2.2.2.2 0=true
   · rw[if_pos c4] at h
     obtain⟨x14,e5,h⟩:=bsm h
     obtain⟨x15,e6,h⟩:=bsm h
     obtain rfl:=osi h
     exact Tri.of (x:=(X38_3 x9 x10 x11 x12)) mixed facts38 [df,df,dt,dt,dt,dt,dt,(A38_3_2 x13),df,(A38_3_3 x6 x11 x13),(A38_3_4 x14),dt,dt,dt,dt,dt,(A38_3_1 x15),.norm 0 ⟨[(6,[])],[],false,[],[]⟩] [⟨(ok_lock_Free k x10 x6 _ e6)⟩,⟨rT⟩,⟨(nT c0)⟩,⟨(nT c0)⟩,⟨(nT c0)⟩,⟨(nT c0)⟩,⟨(ok_ledger_Put k x9 x13.2.2.2.2.1 _ e5)⟩,⟨(put_enc .i64 (fun y=>AV.agg (e_i64_Lu8i64E_b_i64 y)) x11 x6 (x13.1,x13.2.1,x13.2.2.1,x13.2.2.2.1))⟩,⟨(nF c4)⟩,⟨(ok_part_Decide k x1 x2 x3 x4 x8 _ e3)⟩,⟨rT⟩,⟨c2⟩,⟨c2⟩,⟨c2⟩,⟨c2⟩,⟨c1⟩,⟨c0⟩] (by kernel_rfl)
   rw[if_neg c4] at h;replace c4:=eqf c4
   obtain rfl:=osi h
   exact Tri.of (x:=(X38_3 x9 x10 x11 x12)) mixed facts38 [df,df,dt,dt,dt,dt,dt,(A38_3_2 x13),dt,.norm 0 ⟨[(6,[])],[],false,[],[]⟩] [⟨(nT c4)⟩,⟨(ok_part_Decide k x1 x2 x3 x4 x8 _ e3)⟩,⟨rT⟩,⟨c2⟩,⟨c2⟩,⟨c2⟩,⟨c2⟩,⟨c1⟩,⟨c0⟩] (by kernel_rfl)
 rw[if_neg c2] at h;replace c2:=eqf c2
 by_cases c3:eqI x8 2=true
 · rw[if_pos c3] at h
   obtain⟨x13,e4,h⟩:=bsm h
   by_cases c5:eqI x13.2.2.2.2.2 0=true
   · rw[if_pos c5] at h
     obtain⟨x14,e6,h⟩:=bsm h
     obtain⟨x15,e7,h⟩:=bsm h
     obtain rfl:=osi h
     exact Tri.of (x:=(X38_3 x9 x10 x11 x12)) mixed facts38 [df,df,df,df,df,df,dt,(A38_3_2 x13),df,(A38_3_3 x6 x11 x13),(A38_3_4 x14),dt,dt,dt,dt,dt,(A38_3_1 x15),.norm 0 ⟨[(6,[])],[],false,[],[]⟩] [⟨(ok_lock_Free k x10 x6 _ e7)⟩,⟨rT⟩,⟨(nT c0)⟩,⟨(nT c0)⟩,⟨(nT c0)⟩,⟨(nT c0)⟩,⟨(ok_ledger_Put k x9 x13.2.2.2.2.1 _ e6)⟩,⟨(put_enc .i64 (fun y=>AV.agg (e_i64_Lu8i64E_b_i64 y)) x11 x6 (x13.1,x13.2.1,x13.2.2.1,x13.2.2.2.1))⟩,⟨(nF c5)⟩,⟨(ok_part_Decide k x1 x2 x3 x4 x8 _ e4)⟩,⟨c3⟩,⟨c2⟩,⟨c2⟩,⟨c2⟩,⟨c2⟩,⟨c1⟩,⟨c0⟩] (by kernel_rfl)
   rw[if_neg c5] at h;replace c5:=eqf c5
   obtain rfl:=osi h
   exact Tri.of (x:=(X38_3 x9 x10 x11 x12)) mixed facts38 [df,df,df,df,df,df,dt,(A38_3_2 x13),dt,.norm 0 ⟨[(6,[])],[],false,[],[]⟩] [⟨(nT c5)⟩,⟨(ok_part_Decide k x1 x2 x3 x4 x8 _ e4)⟩,⟨c3⟩,⟨c2⟩,⟨c2⟩,⟨c2⟩,⟨c2⟩,⟨c1⟩,⟨c0⟩] (by kernel_rfl)
 rw[if_neg c3] at h;replace c3:=eqf c3
 obtain rfl:=osi h
 exact Tri.of (x:=(X38_3 x9 x10 x11 x12)) mixed facts38 [df,df,df,df,df,df,df,dt,.norm 0 ⟨[(6,[])],[],false,[],[]⟩] [⟨(nT (rfl:eqI 2 0=false))⟩,⟨c3⟩,⟨c2⟩,⟨c2⟩,⟨c2⟩,⟨c2⟩,⟨c1⟩,⟨c0⟩] (by kernel_rfl)
end Go.Ws

namespace Go.Ws
open Go.Proofs
set_option linter.unusedSimpArgs false
set_option linter.unusedVariables false
set_option maxRecDepth 1000000
set_option maxHeartbeats 4000000
noncomputable def X27_3 (x9:Ty16) (x10:Ty12) (x11:Ty6) (x12:Ty11):Ctx:=⟨Try.f27,[(.row [(.sl 2 (List.map e_u8_i64 x9)),(.sl 3 (List.map e_u8_i64_b x10)),(.mp 1),(.ref 4 2 0 0 x12.length .virt)]),(.map (encM .i64 (fun y=>AV.agg (e_i64_Lu8i64E_b_i64 y)) x11) x11.length),(.arr 4 (List.map e_i64_i64_u8_i64 x12) 0 0 true)],false⟩
def A27_3_0:Ans:=.norm 0 ⟨[(6,[]),(7,[])],[],false,[],[]⟩
def A27_3_1 (x9:Ty16) (x12:Ty11) (x13:Ty12 × Ty6 × Int × Int):Ans:=.call ⟨true,[]⟩ (.tup [(.int .i64 x13.2.2.2),(.int .i64 x13.2.2.1)]) [(.row [(.sl 2 (List.map e_u8_i64 x9)),(.sl 3 (List.map e_u8_i64_b x13.1)),(.mp 1),(.ref 4 2 0 0 x12.length .virt)]),(.map (encM .i64 (fun y=>AV.agg (e_i64_Lu8i64E_b_i64 y)) x13.2.1) x13.2.1.length),(.arr 4 (List.map e_i64_i64_u8_i64 x12) 0 0 true)]
theorem ok_site_Site_step_3 (k:Nat) (x1:Int) (x2:Ty16) (x3:Bool) (x4:Int) (x5:Int) (x6:Int) (x7:Int) (x8:Int) (x9:Ty16) (x10:Ty12) (x11:Ty6) (x12:Ty11) (r:Int × Int × Ty12 × Ty6 × Ty16) (h:site_Site_step_3 k x1 x2 x3 x4 x5 x6 x7 x8 x9 x10 x11 x12=some r):Tri Try.prog 27 [(.hp 0 0),(.agg [(.int .i64 x1),(.sl 2 (List.map e_u8_i64 x2)),(.bool x3),(.int .i64 x4)]),(.agg [(.int .i64 x5),(.int .i64 x6),(.int .u8 x7),(.int .i64 x8)])] [(.row [(.sl 2 (List.map e_u8_i64 x9)),(.sl 3 (List.map e_u8_i64_b x10)),(.mp 1),(.ref 4 2 0 0 x12.length .virt)]),(.map (encM .i64 (fun y=>AV.agg (e_i64_Lu8i64E_b_i64 y)) x11) x11.length),(.arr 4 (List.map e_i64_i64_u8_i64 x12) 0 0 true)] (.tup [(.int .i64 r.1),(.int .i64 r.2.1)]) [(.row [(.sl 2 (List.map e_u8_i64 r.2.2.2.2)),(.sl 3 (List.map e_u8_i64_b r.2.2.1)),(.mp 1),(.ref 4 2 0 0 x12.length .virt)]),(.map (encM .i64 (fun y=>AV.agg (e_i64_Lu8i64E_b_i64 y)) r.2.2.2.1) r.2.2.2.1.length),(.arr 4 (List.map e_i64_i64_u8_i64 x12) 0 0 true)]:=by
 unfold site_Site_step_3 at h
 by_cases c0:eqI x5 1=true
 · rw[if_pos c0] at h
   obtain rfl:=osi h
   exact Tri.of (x:=(X27_3 x9 x10 x11 x12)) mixed facts27 [dt,.ents (encM .i64 (fun y=>AV.agg (e_i64_Lu8i64E_b_i64 y)) (mPut x11 x6 (x1,x2,x3,x4))) (mPut x11 x6 (x1,x2,x3,x4)).length,A27_3_0] [⟨(put_enc .i64 (fun y=>AV.agg (e_i64_Lu8i64E_b_i64 y)) x11 x6 (x1,x2,x3,x4))⟩,⟨c0⟩] (by kernel_rfl)
 rw[if_neg c0] at h;replace c0:=eqf c0
 by_cases c1:eqI x5 2=true
 · rw[if_pos c1] at h
   obtain⟨x13,e2,h⟩:=bsm h
   obtain rfl:=osi h
   exact Tri.of (x:=(X27_3 x9 x10 x11 x12)) mixed facts27 [df,dt,dt,(A27_3_1 x9 x12 x13),A27_3_0] [⟨(ok_site_Site_access_3 k x1 x2 x3 x4 x5 x6 x7 x8 x9 x10 x11 x12 _ e2)⟩,⟨c1⟩,⟨c1⟩,⟨c0⟩] (by kernel_rfl)
 rw[if_neg c1] at h;replace c1:=eqf c1
 by_cases c2:eqI x5 3=true
 · rw[if_pos c2] at h
   obtain⟨x13,e3,h⟩:=bsm h
   obtain rfl:=osi h
   exact Tri.of (x:=(X27_3 x9 x10 x11 x12)) mixed facts27 [df,df,dt,(A27_3_1 x9 x12 x13),A27_3_0] [⟨(ok_site_Site_access_3 k x1 x2 x3 x4 x5 x6 x7 x8 x9 x10 x11 x12 _ e3)⟩,⟨c2⟩,⟨c1⟩,⟨c0⟩] (by kernel_rfl)
 rw[if_neg c2] at h;replace c2:=eqf c2
 obtain⟨x13,e3,h⟩:=bsm h
 obtain rfl:=osi h
 exact Tri.of (x:=(X27_3 x9 x10 x11 x12)) mixed facts27 [df,df,df,.call ⟨true,[]⟩ (.int .i64 x13.2.2.2) [(.row [(.sl 2 (List.map e_u8_i64 x13.1)),(.sl 3 (List.map e_u8_i64_b x13.2.1)),(.mp 1),(.ref 4 2 0 0 x12.length .virt)]),(.map (encM .i64 (fun y=>AV.agg (e_i64_Lu8i64E_b_i64 y)) x13.2.2.1) x13.2.2.1.length),(.arr 4 (List.map e_i64_i64_u8_i64 x12) 0 0 true)],A27_3_0] [⟨(ok_site_Site_end_3 k x1 x2 x3 x4 x5 x6 x7 x8 x9 x10 x11 x12 _ e3)⟩,⟨c2⟩,⟨c1⟩,⟨c0⟩] (by kernel_rfl)
end Go.Ws

namespace Go.Ws
open Go.Proofs
set_option linter.unusedSimpArgs false
set_option linter.unusedVariables false
set_option maxRecDepth 1000000
set_option maxHeartbeats 4000000
noncomputable def X14_3 (x5:Ty16) (x6:Ty12) (x7:Ty6) (x8:Ty11):Ctx:=⟨Try.f14,[(.row [(.sl 2 (List.map e_u8_i64 x5)),(.sl 3 (List.map e_u8_i64_b x6)),(.mp 1),(.ref 4 2 0 0 x8.length .virt)]),(.map (encM .i64 (fun y=>AV.agg (e_i64_Lu8i64E_b_i64 y)) x7) x7.length),(.arr 4 (List.map e_i64_i64_u8_i64 x8) 0 0 true)],false⟩
def A14_3_0 (x5:Ty16) (x6:Ty12) (x7:Ty6) (x8:Ty11):Ans:=.call ⟨true,[]⟩ (.bool (!false)) [(.row [(.sl 2 (List.map e_u8_i64 x5)),(.sl 3 (List.map e_u8_i64_b x6)),(.mp 1),(.ref 4 2 0 0 x8.length .virt)]),(.map (encM .i64 (fun y=>AV.agg (e_i64_Lu8i64E_b_i64 y)) x7) x7.length),(.arr 4 (List.map e_i64_i64_u8_i64 x8) 0 0 true)]
def A14_3_1:Ans:=.norm 0 ⟨[(4,[]),(5,[])],[],false,[],[none,none,some 1]⟩
def A14_3_2 (x9:Int × Ty16 × Bool × Int):Ans:=.opt (some (.agg [(.int .i64 x9.1),(.sl 2 (List.map e_u8_i64 x9.2.1)),(.bool x9.2.2.1),(.int .i64 x9.2.2.2)]))
def A14_3_3 (x8:Ty11) (x10:Int × Int × Ty12 × Ty6 × Ty16):Ans:=.call ⟨true,[]⟩ (.tup [(.int .i64 x10.1),(.int .i64 x10.2.1)]) [(.row [(.sl 2 (List.map e_u8_i64 x10.2.2.2.2)),(.sl 3 (List.map e_u8_i64_b x10.2.2.1)),(.mp 1),(.ref 4 2 0 0 x8.length .virt)]),(.map (encM .i64 (fun y=>AV.agg (e_i64_Lu8i64E_b_i64 y)) x10.2.2.2.1) x10.2.2.2.1.length),(.arr 4 (List.map e_i64_i64_u8_i64 x8) 0 0 true)]
def A14_3_4 (x8:Ty11) (x9:Int × Int × Ty12 × Ty6 × Ty16):Ans:=.call ⟨true,[]⟩ (.tup [(.int .i64 x9.1),(.int .i64 x9.2.1)]) [(.row [(.sl 2 (List.map e_u8_i64 x9.2.2.2.2)),(.sl 3 (List.map e_u8_i64_b x9.2.2.1)),(.mp 1),(.ref 4 2 0 0 x8.length .virt)]),(.map (encM .i64 (fun y=>AV.agg (e_i64_Lu8i64E_b_i64 y)) x9.2.2.2.1) x9.2.2.2.1.length),(.arr 4 (List.map e_i64_i64_u8_i64 x8) 0 0 true)]
theorem ok_site_Site_Do_3 (k:Nat) (x1:Int) (x2:Int) (x3:Int) (x4:Int) (x5:Ty16) (x6:Ty12) (x7:Ty6) (x8:Ty11) (r:Int × Int × Ty16 × Ty12 × Ty6 × Ty11) (h:site_Site_Do_3 k x1 x2 x3 x4 x5 x6 x7 x8=some r):Tri Try.prog 14 [(.hp 0 0),(.agg [(.int .i64 x1),(.int .i64 x2),(.int .u8 x3),(.int .i64 x4)])] [(.row [(.sl 2 (List.map e_u8_i64 x5)),(.sl 3 (List.map e_u8_i64_b x6)),(.mp 1),(.ref 4 2 0 0 x8.length .virt)]),(.map (encM .i64 (fun y=>AV.agg (e_i64_Lu8i64E_b_i64 y)) x7) x7.length),(.arr 4 (List.map e_i64_i64_u8_i64 x8) 0 0 true)] (.tup [(.int .i64 r.2.1),(.int .i64 r.1)]) [(.row [(.sl 2 (List.map e_u8_i64 r.2.2.1)),(.sl 3 (List.map e_u8_i64_b r.2.2.2.1)),(.mp 1),(.ref 4 2 1 0 r.2.2.2.2.2.length .virt)]),(.map (encM .i64 (fun y=>AV.agg (e_i64_Lu8i64E_b_i64 y)) r.2.2.2.2.1) r.2.2.2.2.1.length),(.arr 4 (List.map e_i64_i64_u8_i64 r.2.2.2.2.2) 1 1 true)]:=by
 unfold site_Site_Do_3 at h
 by_cases c0:ltI x1 1=true
 · rw[if_pos c0] at h
   obtain rfl:=osi h
   exact Tri.of (x:=(X14_3 x5 x6 x7 x8)) mixed facts14 [(A14_3_0 x5 x6 x7 x8),df,dt,dt,dt,dt,dt,dt,dt,dt,dt,dt,dt,dt,dt,A14_3_1] [⟨rT⟩,⟨rT⟩,⟨rT⟩,⟨rT⟩,⟨rT⟩,⟨rT⟩,⟨rT⟩,⟨rT⟩,⟨rT⟩,⟨c0⟩,⟨c0⟩,⟨c0⟩,⟨c0⟩,⟨(nF (nT rfl))⟩,⟨(ok_site_Site_good_3 x5 x6 x7 x8)⟩] (by kernel_rfl)
 rw[if_neg c0] at h;replace c0:=eqf c0
 by_cases c1:ltI 6 x1=true
 · rw[if_pos c1] at h
   obtain rfl:=osi h
   exact Tri.of (x:=(X14_3 x5 x6 x7 x8)) mixed facts14 [(A14_3_0 x5 x6 x7 x8),df,df,df,df,df,dt,dt,dt,dt,dt,dt,dt,dt,dt,A14_3_1] [⟨rT⟩,⟨rT⟩,⟨rT⟩,⟨rT⟩,⟨rT⟩,⟨c1⟩,⟨c1⟩,⟨c1⟩,⟨c1⟩,⟨c0⟩,⟨c0⟩,⟨c0⟩,⟨c0⟩,⟨(nF (nT rfl))⟩,⟨(ok_site_Site_good_3 x5 x6 x7 x8)⟩] (by kernel_rfl)
 rw[if_neg c1] at h;replace c1:=eqf c1
 by_cases c2:ltI x2 0=true
 · rw[if_pos c2] at h
   obtain rfl:=osi h
   exact Tri.of (x:=(X14_3 x5 x6 x7 x8)) mixed facts14 [(A14_3_0 x5 x6 x7 x8),df,df,df,df,df,df,df,df,df,dt,dt,dt,dt,dt,A14_3_1] [⟨rT⟩,⟨c2⟩,⟨c2⟩,⟨c2⟩,⟨c2⟩,⟨c1⟩,⟨c1⟩,⟨c1⟩,⟨c1⟩,⟨c0⟩,⟨c0⟩,⟨c0⟩,⟨c0⟩,⟨(nF (nT rfl))⟩,⟨(ok_site_Site_good_3 x5 x6 x7 x8)⟩] (by kernel_rfl)
 rw[if_neg c2] at h;replace c2:=eqf c2
 by_cases c3:ltI x2 1000=true
 · rw[if_pos c3] at h
   by_cases c4:mHas x7 x2=true
   · rw[if_pos c4] at h
     obtain⟨x9,e5,h⟩:=bsm h
     by_cases c6:eqB true (eqI x1 1)=true
     · rw[if_pos c6] at h
       obtain rfl:=osi h
       exact Tri.of (x:=(X14_3 x5 x6 x7 x8)) mixed facts14 [(A14_3_0 x5 x6 x7 x8),df,df,df,df,df,df,df,df,df,df,df,df,df,df,(A14_3_2 x9),dt,dt,A14_3_1] [⟨rT⟩,⟨c6⟩,⟨(look_some .i64 (fun y=>AV.agg (e_i64_Lu8i64E_b_i64 y)) e5)⟩,⟨(nF c3)⟩,⟨c2⟩,⟨c2⟩,⟨c2⟩,⟨c2⟩,⟨c1⟩,⟨c1⟩,⟨c1⟩,⟨c1⟩,⟨c0⟩,⟨c0⟩,⟨c0⟩,⟨c0⟩,⟨(nF (nT rfl))⟩,⟨(ok_site_Site_good_3 x5 x6 x7 x8)⟩] (by kernel_rfl)
     rw[if_neg c6] at h;replace c6:=eqf c6
     obtain⟨x10,e7,h⟩:=bsm h
     by_cases c8:eqI x10.2.1 0=true
     · rw[if_pos c8] at h
       by_cases c9:roomI (((x8++[(x1,x2,x3,x4)]).length)*32)=true
       · rw[if_pos c9] at h
         obtain rfl:=osi h
         exact Tri.of (x:=(X14_3 x5 x6 x7 x8)) mixed facts14 [(A14_3_0 x5 x6 x7 x8),df,df,df,df,df,df,df,df,df,df,df,df,df,df,(A14_3_2 x9),df,(A14_3_3 x8 x10),df,.rows (List.map e_i64_i64_u8_i64 [(x1,x2,x3,x4)]),.n ((x8++[(x1,x2,x3,x4)]).length),.n x8.length,dt,.rows (List.map e_i64_i64_u8_i64 (x8++[(x1,x2,x3,x4)])),A14_3_1] [⟨(app_map e_i64_i64_u8_i64 x8 [(x1,x2,x3,x4)])⟩,⟨(eqN_self x8.length)⟩,⟨(len_map e_i64_i64_u8_i64 x8)⟩,⟨c9⟩,⟨(by simp only[wl,List.length_map,List.map_nil,List.map_cons]<;>omega:x8.length+(List.map e_i64_i64_u8_i64 [(x1,x2,x3,x4)]).length=(x8++[(x1,x2,x3,x4)]).length)⟩,⟨(part_all e_i64_i64_u8_i64 (l:=[(x1,x2,x3,x4)]) (n:=1) rfl)⟩,⟨(le_map e_i64_i64_u8_i64 (Nat.le_refl 1):0+1≤(List.map e_i64_i64_u8_i64 [(x1,x2,x3,x4)]).length)⟩,⟨(nF c8)⟩,⟨(ok_site_Site_step_3 k x9.1 x9.2.1 x9.2.2.1 x9.2.2.2 x1 x2 x3 x4 x5 x6 x7 x8 _ e7)⟩,⟨c6⟩,⟨(look_some .i64 (fun y=>AV.agg (e_i64_Lu8i64E_b_i64 y)) e5)⟩,⟨(nF c3)⟩,⟨c2⟩,⟨c2⟩,⟨c2⟩,⟨c2⟩,⟨c1⟩,⟨c1⟩,⟨c1⟩,⟨c1⟩,⟨c0⟩,⟨c0⟩,⟨c0⟩,⟨c0⟩,⟨(nF (nT rfl))⟩,⟨(ok_site_Site_good_3 x5 x6 x7 x8)⟩] (by kernel_rfl)
       rw[if_neg c9] at h;replace c9:=eqf c9
       cases h
     rw[if_neg c8] at h;replace c8:=eqf c8
     obtain rfl:=osi h
     exact Tri.of (x:=(X14_3 x5 x6 x7 x8)) mixed facts14 [(A14_3_0 x5 x6 x7 x8),df,df,df,df,df,df,df,df,df,df,df,df,df,df,(A14_3_2 x9),df,(A14_3_3 x8 x10),dt,A14_3_1] [⟨(nT c8)⟩,⟨(ok_site_Site_step_3 k x9.1 x9.2.1 x9.2.2.1 x9.2.2.2 x1 x2 x3 x4 x5 x6 x7 x8 _ e7)⟩,⟨c6⟩,⟨(look_some .i64 (fun y=>AV.agg (e_i64_Lu8i64E_b_i64 y)) e5)⟩,⟨(nF c3)⟩,⟨c2⟩,⟨c2⟩,⟨c2⟩,⟨c2⟩,⟨c1⟩,⟨c1⟩,⟨c1⟩,⟨c1⟩,⟨c0⟩,⟨c0⟩,⟨c0⟩,⟨c0⟩,⟨(nF (nT rfl))⟩,⟨(ok_site_Site_good_3 x5 x6 x7 x8)⟩] (by kernel_rfl)
   rw[if_neg c4] at h;replace c4:=eqf c4
   by_cases c5:eqB false (eqI x1 1)=true
   · rw[if_pos c5] at h
     obtain rfl:=osi h
     exact Tri.of (x:=(X14_3 x5 x6 x7 x8)) mixed facts14 [(A14_3_0 x5 x6 x7 x8),df,df,df,df,df,df,df,df,df,df,df,df,df,df,.opt none,dt,df,A14_3_1] [⟨rF⟩,⟨c5⟩,⟨(look_none .i64 (fun y=>AV.agg (e_i64_Lu8i64E_b_i64 y)) c4)⟩,⟨(nF c3)⟩,⟨c2⟩,⟨c2⟩,⟨c2⟩,⟨c2⟩,⟨c1⟩,⟨c1⟩,⟨c1⟩,⟨c1⟩,⟨c0⟩,⟨c0⟩,⟨c0⟩,⟨c0⟩,⟨(nF (nT rfl))⟩,⟨(ok_site_Site_good_3 x5 x6 x7 x8)⟩] (by kernel_rfl)
   rw[if_neg c5] at h;replace c5:=eqf c5
   obtain⟨x9,e6,h⟩:=bsm h
   by_cases c7:eqI x9.2.1 0=true
   · rw[if_pos c7] at h
     by_cases c8:roomI (((x8++[(x1,x2,x3,x4)]).length)*32)=true
     · rw[if_pos c8] at h
       obtain rfl:=osi h
       exact Tri.of (x:=(X14_3 x5 x6 x7 x8)) mixed facts14 [(A14_3_0 x5 x6 x7 x8),df,df,df,df,df,df,df,df,df,df,df,df,df,df,.opt none,df,(A14_3_4 x8 x9),df,.rows (List.map e_i64_i64_u8_i64 [(x1,x2,x3,x4)]),.n ((x8++[(x1,x2,x3,x4)]).length),.n x8.length,dt,.rows (List.map e_i64_i64_u8_i64 (x8++[(x1,x2,x3,x4)])),A14_3_1] [⟨(app_map e_i64_i64_u8_i64 x8 [(x1,x2,x3,x4)])⟩,⟨(eqN_self x8.length)⟩,⟨(len_map e_i64_i64_u8_i64 x8)⟩,⟨c8⟩,⟨(by simp only[wl,List.length_map,List.map_nil,List.map_cons]<;>omega:x8.length+(List.map e_i64_i64_u8_i64 [(x1,x2,x3,x4)]).length=(x8++[(x1,x2,x3,x4)]).length)⟩,⟨(part_all e_i64_i64_u8_i64 (l:=[(x1,x2,x3,x4)]) (n:=1) rfl)⟩,⟨(le_map e_i64_i64_u8_i64 (Nat.le_refl 1):0+1≤(List.map e_i64_i64_u8_i64 [(x1,x2,x3,x4)]).length)⟩,⟨(nF c7)⟩,⟨(ok_site_Site_step_3 k 0 [] false 0 x1 x2 x3 x4 x5 x6 x7 x8 _ e6)⟩,⟨c5⟩,⟨(look_none .i64 (fun y=>AV.agg (e_i64_Lu8i64E_b_i64 y)) c4)⟩,⟨(nF c3)⟩,⟨c2⟩,⟨c2⟩,⟨c2⟩,⟨c2⟩,⟨c1⟩,⟨c1⟩,⟨c1⟩,⟨c1⟩,⟨c0⟩,⟨c0⟩,⟨c0⟩,⟨c0⟩,⟨(nF (nT rfl))⟩,⟨(ok_site_Site_good_3 x5 x6 x7 x8)⟩] (by kernel_rfl)
     rw[if_neg c8] at h;replace c8:=eqf c8
     cases h
   rw[if_neg c7] at h;replace c7:=eqf c7
   obtain rfl:=osi h
   exact Tri.of (x:=(X14_3 x5 x6 x7 x8)) mixed facts14 [(A14_3_0 x5 x6 x7 x8),df,df,df,df,df,df,df,df,df,df,df,df,df,df,.opt none,df,(A14_3_4 x8 x9),dt,A14_3_1] [⟨(nT c7)⟩,⟨(ok_site_Site_step_3 k 0 [] false 0 x1 x2 x3 x4 x5 x6 x7 x8 _ e6)⟩,⟨c5⟩,⟨(look_none .i64 (fun y=>AV.agg (e_i64_Lu8i64E_b_i64 y)) c4)⟩,⟨(nF c3)⟩,⟨c2⟩,⟨c2⟩,⟨c2⟩,⟨c2⟩,⟨c1⟩,⟨c1⟩,⟨c1⟩,⟨c1⟩,⟨c0⟩,⟨c0⟩,⟨c0⟩,⟨c0⟩,⟨(nF (nT rfl))⟩,⟨(ok_site_Site_good_3 x5 x6 x7 x8)⟩] (by kernel_rfl)
 rw[if_neg c3] at h;replace c3:=eqf c3
 obtain rfl:=osi h
 exact Tri.of (x:=(X14_3 x5 x6 x7 x8)) mixed facts14 [(A14_3_0 x5 x6 x7 x8),df,df,df,df,df,df,df,df,df,df,df,df,df,dt,A14_3_1] [⟨(nT c3)⟩,⟨c2⟩,⟨c2⟩,⟨c2⟩,⟨c2⟩,⟨c1⟩,⟨c1⟩,⟨c1⟩,⟨c1⟩,⟨c0⟩,⟨c0⟩,⟨c0⟩,⟨c0⟩,⟨(nF (nT rfl))⟩,⟨(ok_site_Site_good_3 x5 x6 x7 x8)⟩] (by kernel_rfl)
end Go.Ws

namespace Go.Ws
open Go.Proofs
set_option linter.unusedSimpArgs false
set_option linter.unusedVariables false
set_option maxRecDepth 1000000
set_option maxHeartbeats 4000000
noncomputable def X16 (x2:Ty16) (x3:Ty12) (x4:Ty6) (x5:Ty11):Ctx:=⟨Try.f16,[(.row [(.sl 2 (List.map e_u8_i64 x2)),(.sl 3 (List.map e_u8_i64_b x3)),(.mp 1),(.ref 4 2 0 0 x5.length .virt)]),(.map (encM .i64 (fun y=>AV.agg (e_i64_Lu8i64E_b_i64 y)) x4) x4.length),(.arr 4 (List.map e_i64_i64_u8_i64 x5) 0 0 true)],false⟩
def A16_0 (x2:Ty16) (x3:Ty12) (x4:Ty6) (x5:Ty11):Ans:=.call ⟨true,[]⟩ (.bool (!false)) [(.row [(.sl 2 (List.map e_u8_i64 x2)),(.sl 3 (List.map e_u8_i64_b x3)),(.mp 1),(.ref 4 2 0 0 x5.length .virt)]),(.map (encM .i64 (fun y=>AV.agg (e_i64_Lu8i64E_b_i64 y)) x4) x4.length),(.arr 4 (List.map e_i64_i64_u8_i64 x5) 0 0 true)]
def A16_1:Ans:=.norm 0 ⟨[(4,[]),(5,[])],[⟨.tmp 4,[],none⟩,⟨.cell 3 1,[],none⟩],false,[],[]⟩
theorem ok_site_Site_Part (k:Nat) (x1:Int) (x2:Ty16) (x3:Ty12) (x4:Ty6) (x5:Ty11) (r:Int × Bool × Int × Ty16 × Bool) (h:site_Site_Part k x1 x2 x3 x4 x5=some r):Tri Try.prog 16 [(.hp 0 0),(.int .i64 x1)] [(.row [(.sl 2 (List.map e_u8_i64 x2)),(.sl 3 (List.map e_u8_i64_b x3)),(.mp 1),(.ref 4 2 0 0 x5.length .virt)]),(.map (encM .i64 (fun y=>AV.agg (e_i64_Lu8i64E_b_i64 y)) x4) x4.length),(.arr 4 (List.map e_i64_i64_u8_i64 x5) 0 0 true)] (.tup [(.agg [(.int .i64 r.1),(.ref 2 3 0 0 r.2.2.2.1.length .virt),(.bool r.2.1),(.int .i64 r.2.2.1)]),(.bool r.2.2.2.2)]) [(.row [(.sl 2 (List.map e_u8_i64 x2)),(.sl 3 (List.map e_u8_i64_b x3)),(.mp 1),(.ref 4 2 0 0 x5.length .virt)]),(.map (encM .i64 (fun y=>AV.agg (e_i64_Lu8i64E_b_i64 y)) x4) x4.length),(.arr 4 (List.map e_i64_i64_u8_i64 x5) 0 0 true),(.arr 2 (List.map e_u8_i64 r.2.2.2.1) 0 0 false)]:=by
 unfold site_Site_Part at h
 by_cases c0:mHas x4 x1=true
 · rw[if_pos c0] at h
   obtain⟨x6,e1,h⟩:=bsm h
   obtain⟨x7,e2,h⟩:=bsm h
   obtain rfl:=osi h
   exact Tri.of (x:=(X16 x2 x3 x4 x5)) mixed facts16 [(A16_0 x2 x3 x4 x5),df,.opt (some (.agg [(.int .i64 x6.1),(.sl 2 (List.map e_u8_i64 x6.2.1)),(.bool x6.2.2.1),(.int .i64 x6.2.2.2)])),.call ⟨true,[]⟩ (.ref 2 0 0 0 x6.2.1.length .virt) [(.arr 2 (List.map e_u8_i64 x6.2.1) 0 0 false)],A16_1] [⟨(ok_slices_Clone_29 k x6.2.1 _ e2)⟩,⟨(look_some .i64 (fun y=>AV.agg (e_i64_Lu8i64E_b_i64 y)) e1)⟩,⟨(nF (nT rfl))⟩,⟨(ok_site_Site_good_3 x2 x3 x4 x5)⟩] (by kernel_rfl)
 rw[if_neg c0] at h;replace c0:=eqf c0
 obtain⟨x6,e1,h⟩:=bsm h
 obtain rfl:=osi h
 exact Tri.of (x:=(X16 x2 x3 x4 x5)) mixed facts16 [(A16_0 x2 x3 x4 x5),df,.opt none,.call ⟨true,[]⟩ (.ref 2 0 0 0 0 .virt) [(.arr 2 (List.map e_u8_i64 []) 0 0 false)],A16_1] [⟨(ok_slices_Clone_29 k [] _ e1)⟩,⟨(look_none .i64 (fun y=>AV.agg (e_i64_Lu8i64E_b_i64 y)) c0)⟩,⟨(nF (nT rfl))⟩,⟨(ok_site_Site_good_3 x2 x3 x4 x5)⟩] (by kernel_rfl)
end Go.Ws

namespace Go.Ws
open Go.Proofs
set_option linter.unusedSimpArgs false
set_option linter.unusedVariables false
set_option maxRecDepth 1000000
set_option maxHeartbeats 4000000
noncomputable def X20 (x2:Ty16) (x3:Ty12) (x4:Ty6) (x5:Ty11):Ctx:=⟨Try.f20,[(.row [(.sl 2 (List.map e_u8_i64 x2)),(.sl 3 (List.map e_u8_i64_b x3)),(.mp 1),(.ref 4 2 0 0 x5.length .virt)]),(.map (encM .i64 (fun y=>AV.agg (e_i64_Lu8i64E_b_i64 y)) x4) x4.length),(.arr 4 (List.map e_i64_i64_u8_i64 x5) 0 0 true)],false⟩
theorem ok_site_Site_Get (k:Nat) (x1:Int) (x2:Ty16) (x3:Ty12) (x4:Ty6) (x5:Ty11) (r:Int) (h:site_Site_Get k x1 x2 x3 x4 x5=some r):Tri Try.prog 20 [(.hp 0 0),(.int .u8 x1)] [(.row [(.sl 2 (List.map e_u8_i64 x2)),(.sl 3 (List.map e_u8_i64_b x3)),(.mp 1),(.ref 4 2 0 0 x5.length .virt)]),(.map (encM .i64 (fun y=>AV.agg (e_i64_Lu8i64E_b_i64 y)) x4) x4.length),(.arr 4 (List.map e_i64_i64_u8_i64 x5) 0 0 true)] (.int .i64 r) [(.row [(.sl 2 (List.map e_u8_i64 x2)),(.sl 3 (List.map e_u8_i64_b x3)),(.mp 1),(.ref 4 2 0 0 x5.length .virt)]),(.map (encM .i64 (fun y=>AV.agg (e_i64_Lu8i64E_b_i64 y)) x4) x4.length),(.arr 4 (List.map e_i64_i64_u8_i64 x5) 0 0 true)]:=by
 unfold site_Site_Get at h
 obtain⟨x6,e0,h⟩:=bsm h
 obtain rfl:=osi h
 exact Tri.of (x:=(X20 x2 x3 x4 x5)) mixed facts20 [.call ⟨true,[]⟩ (.bool (!false)) [(.row [(.sl 2 (List.map e_u8_i64 x2)),(.sl 3 (List.map e_u8_i64_b x3)),(.mp 1),(.ref 4 2 0 0 x5.length .virt)]),(.map (encM .i64 (fun y=>AV.agg (e_i64_Lu8i64E_b_i64 y)) x4) x4.length),(.arr 4 (List.map e_i64_i64_u8_i64 x5) 0 0 true)],df,.call ⟨true,[]⟩ (.int .i64 x6) [],.norm 0 ⟨[(4,[])],[],false,[],[]⟩] [⟨(ok_ledger_Get k x2 x1 _ e0)⟩,⟨(nF (nT rfl))⟩,⟨(ok_site_Site_good_3 x2 x3 x4 x5)⟩] (by kernel_rfl)
end Go.Ws

namespace Go.Ws
open Go.Proofs
set_option linter.unusedSimpArgs false
set_option linter.unusedVariables false
set_option maxRecDepth 1000000
set_option maxHeartbeats 4000000
noncomputable def X32_1001:Ctx:=⟨Try.f32,[],false⟩
theorem ok_slices_Clone_32_1001 (k:Nat) (x1:Ty11) (r:Unit) (h:slices_Clone_32_1001 k x1=some r):Tri Try.prog 32 [(.inl 4 (List.map e_i64_i64_u8_i64 x1))] [] (.ref 4 0 0 0 x1.length .virt) [(.arr 4 (List.map e_i64_i64_u8_i64 x1) 0 0 false)]:=by
 unfold slices_Clone_32_1001 at h
 by_cases c0:roomI (x1.length*32)=true
 · rw[if_pos c0] at h
   obtain rfl:=osi h
   exact Tri.of (x:=X32_1001) mixed facts32 [df,.n x1.length,.norm 0 ⟨[(2,[])],[⟨.tmp 2,[],some 4⟩],false,[],[]⟩,.n x1.length,.rows (List.map e_i64_i64_u8_i64 x1)] [⟨(take_all e_i64_i64_u8_i64 (l:=x1) (n:=x1.length) rfl)⟩,⟨(rfl:x1.length=x1.length)⟩,⟨(zle x1.length)⟩,⟨c0⟩,⟨(len_map e_i64_i64_u8_i64 x1)⟩,⟨rF⟩] (by kernel_rfl)
 rw[if_neg c0] at h;replace c0:=eqf c0
 cases h
end Go.Ws

namespace Go.Ws
open Go.Proofs
set_option linter.unusedSimpArgs false
set_option linter.unusedVariables false
set_option maxRecDepth 1000000
set_option maxHeartbeats 4000000
noncomputable def X32_1002:Ctx:=⟨Try.f32,[],false⟩
theorem ok_slices_Clone_32_1002:Tri Try.prog 32 [.nils] [] (.ref 4 0 0 0 0 .virt) [(.arr 4 (List.map e_i64_i64_u8_i64 []) 0 0 false)]:=by
 obtain⟨r,h⟩:∃r,slices_Clone_32_1002=r:=⟨_,rfl⟩
 try rw[h]
 unfold slices_Clone_32_1002 at h
 obtain rfl:=h
 exact Tri.of (x:=X32_1002) mixed facts32 [dt,.norm 0 ⟨[(2,[])],[⟨.tmp 2,[],some 4⟩],false,[],[]⟩,.n 0,.rows (List.map e_i64_i64_u8_i64 [])] [⟨(take_all e_i64_i64_u8_i64 (l:=[]) (n:=0) rfl)⟩,⟨(rfl:0=0)⟩,⟨(zle 0)⟩,⟨rT⟩] (by kernel_rfl)
end Go.Ws

namespace Go.Ws
open Go.Proofs
set_option linter.unusedSimpArgs false
set_option linter.unusedVariables false
set_option maxRecDepth 1000000
set_option maxHeartbeats 4000000
theorem ok_slices_Clone_32 (k:Nat) (x1:Ty11) (r:Unit) (h:slices_Clone_32 k x1=some r):Tri Try.prog 32 [(.sl 4 (List.map e_i64_i64_u8_i64 x1))] [] (.ref 4 0 0 0 x1.length .virt) [(.arr 4 (List.map e_i64_i64_u8_i64 x1) 0 0 false)]:=by
 refine Tri.slOf (ok_slices_Clone_32_1001 k x1 r h) fun h0=>?_
 have hx:x1=[]:=by simpa using h0
 subst hx
 exact ok_slices_Clone_32_1002
end Go.Ws

namespace Go.Ws
open Go.Proofs
set_option linter.unusedSimpArgs false
set_option linter.unusedVariables false
set_option maxRecDepth 1000000
set_option maxHeartbeats 4000000
noncomputable def X21 (x1:Ty16) (x2:Ty12) (x3:Ty6) (x4:Ty11):Ctx:=⟨Try.f21,[(.row [(.sl 2 (List.map e_u8_i64 x1)),(.sl 3 (List.map e_u8_i64_b x2)),(.mp 1),(.ref 4 2 0 0 x4.length .virt)]),(.map (encM .i64 (fun y=>AV.agg (e_i64_Lu8i64E_b_i64 y)) x3) x3.length),(.arr 4 (List.map e_i64_i64_u8_i64 x4) 0 0 true)],false⟩
theorem ok_site_Site_Log (k:Nat) (x1:Ty16) (x2:Ty12) (x3:Ty6) (x4:Ty11) (r:Unit) (h:site_Site_Log k x1 x2 x3 x4=some r):Tri Try.prog 21 [(.hp 0 0)] [(.row [(.sl 2 (List.map e_u8_i64 x1)),(.sl 3 (List.map e_u8_i64_b x2)),(.mp 1),(.ref 4 2 0 0 x4.length .virt)]),(.map (encM .i64 (fun y=>AV.agg (e_i64_Lu8i64E_b_i64 y)) x3) x3.length),(.arr 4 (List.map e_i64_i64_u8_i64 x4) 0 0 true)] (.ref 4 3 0 0 x4.length .virt) [(.row [(.sl 2 (List.map e_u8_i64 x1)),(.sl 3 (List.map e_u8_i64_b x2)),(.mp 1),(.ref 4 2 0 0 x4.length .virt)]),(.map (encM .i64 (fun y=>AV.agg (e_i64_Lu8i64E_b_i64 y)) x3) x3.length),(.arr 4 (List.map e_i64_i64_u8_i64 x4) 0 0 true),(.arr 4 (List.map e_i64_i64_u8_i64 x4) 0 0 false)]:=by
 unfold site_Site_Log at h
 obtain⟨x5,e0,h⟩:=bsm h
 obtain rfl:=osi h
 exact Tri.of (x:=(X21 x1 x2 x3 x4)) mixed facts21 [.call ⟨true,[]⟩ (.bool (!false)) [(.row [(.sl 2 (List.map e_u8_i64 x1)),(.sl 3 (List.map e_u8_i64_b x2)),(.mp 1),(.ref 4 2 0 0 x4.length .virt)]),(.map (encM .i64 (fun y=>AV.agg (e_i64_Lu8i64E_b_i64 y)) x3) x3.length),(.arr 4 (List.map e_i64_i64_u8_i64 x4) 0 0 true)],df,.call ⟨true,[]⟩ (.ref 4 0 0 0 x4.length .virt) [(.arr 4 (List.map e_i64_i64_u8_i64 x4) 0 0 false)],.rows (List.map e_i64_i64_u8_i64 x4),.norm 0 ⟨[(2,[])],[⟨.tmp 2,[],none⟩],false,[],[]⟩] [⟨(ok_slices_Clone_32 k x4 _ e0)⟩,⟨(part_all e_i64_i64_u8_i64 (l:=x4) (n:=x4.length) rfl)⟩,⟨(le_map e_i64_i64_u8_i64 (Nat.le_refl x4.length):0+x4.length≤(List.map e_i64_i64_u8_i64 x4).length)⟩,⟨(nF (nT rfl))⟩,⟨(ok_site_Site_good_3 x1 x2 x3 x4)⟩] (by kernel_rfl)
end Go.Ws

namespace Go.Ws
open Go.Proofs
set_option linter.unusedSimpArgs false
set_option linter.unusedVariables false
set_option maxRecDepth 1000000
set_option maxHeartbeats 4000000
noncomputable def X12:Ctx:=⟨Try.f12,[],true⟩
noncomputable def L12_0:Code:=at_ Try.f12 [1,1,1,0,1,4,5]
def S12_0 (v12001_1:Int) (v12001_2:Ty16) (v12001_3:Ty12) (v12001_4:Ty6) (v12001_5:Ty11):St:=⟨mkT 73 [(1,(.hp 0 0)),(27,(.ref 6 1 0 0 8 .full)),(28,(.int .i64 8)),(29,(.int .i64 v12001_1))],[(.row [(.sl 2 (List.map e_u8_i64 v12001_2)),(.sl 3 (List.map e_u8_i64_b v12001_3)),(.mp 2),(.ref 4 3 0 0 v12001_5.length .virt)]),(.arr 6 (List.map e_i64_i64_u8_i64_i64_i64 [(1,1,0,0,0,0),(3,1,3,5,0,0),(1,2,0,0,0,0),(2,2,3,0,0,9),(4,1,0,1,0,0),(5,1,0,0,0,0),(2,2,3,0,5,0),(6,1,0,2,0,0)]) 0 0 true),(.map (encM .i64 (fun y=>AV.agg (e_i64_Lu8i64E_b_i64 y)) v12001_4) v12001_4.length),(.arr 4 (List.map e_i64_i64_u8_i64 v12001_5) 0 0 true)]⟩
def E12_0_0 (v12002_1:Ty16) (v12002_2:Ty12) (v12002_3:Ty6) (v12002_4:Ty11):St:=⟨mkT 73 [(1,(.hp 0 0))],[(.row [(.sl 2 (List.map e_u8_i64 v12002_1)),(.sl 3 (List.map e_u8_i64_b v12002_2)),(.mp 1),(.ref 4 2 0 0 v12002_4.length .virt)]),(.map (encM .i64 (fun y=>AV.agg (e_i64_Lu8i64E_b_i64 y)) v12002_3) v12002_3.length),(.arr 4 (List.map e_i64_i64_u8_i64 v12002_4) 0 0 true)]⟩
def O12_0 (y:(Sum (Ty16 × Ty12 × Ty6 × Ty11) (Bool))):GX:=match y with
 | .inl y=>.st (.exit 0) (E12_0_0 y.1 y.2.1 y.2.2.1 y.2.2.2)
 | .inr y=>.fin (.bool y) []
def A12_0 (v12000_1:Int × Int × Int × Int × Int × Int):Ans:=.row [(.int .i64 v12000_1.1),(.int .i64 v12000_1.2.1),(.int .u8 v12000_1.2.2.1),(.int .i64 v12000_1.2.2.2.1),(.int .i64 v12000_1.2.2.2.2.1),(.int .i64 v12000_1.2.2.2.2.2)]
def A12_1 (v12000_2:Int × Int × Ty16 × Ty12 × Ty6 × Ty11):Ans:=.call ⟨true,[]⟩ (.tup [(.int .i64 v12000_2.2.1),(.int .i64 v12000_2.1)]) [(.row [(.sl 2 (List.map e_u8_i64 v12000_2.2.2.1)),(.sl 3 (List.map e_u8_i64_b v12000_2.2.2.2.1)),(.mp 1),(.ref 4 2 1 0 v12000_2.2.2.2.2.2.length .virt)]),(.map (encM .i64 (fun y=>AV.agg (e_i64_Lu8i64E_b_i64 y)) v12000_2.2.2.2.2.1) v12000_2.2.2.2.2.1.length),(.arr 4 (List.map e_i64_i64_u8_i64 v12000_2.2.2.2.2.2) 1 1 true)]
def A12_2:Ans:=.call ⟨true,[]⟩ (.hp 0 0) [(.row [.nils,.nils,(.mp 1),.nils]),(.map (encM .i64 (fun y=>AV.agg (e_i64_Lu8i64E_b_i64 y)) ([]:Ty6)) ([]:Ty6).length)]
def A12_3:Ans:=.norm 2 ⟨[(1,[]),(27,[]),(28,[]),(29,[])],[⟨.tmp 1,[(0,2),(1,3)],none⟩,⟨.tmp 27,[],none⟩,⟨.cell 0 2,[],none⟩,⟨.cell 0 3,[],some 4⟩],true,[],[]⟩
def A12_4 (x2:Ty16 × Ty12 × Ty6 × Ty11) (x3:Int × Bool × Int × Ty16 × Bool):Ans:=.call ⟨true,[]⟩ (.tup [(.agg [(.int .i64 x3.1),(.ref 2 3 0 0 x3.2.2.2.1.length .virt),(.bool x3.2.1),(.int .i64 x3.2.2.1)]),(.bool x3.2.2.2.2)]) [(.row [(.sl 2 (List.map e_u8_i64 x2.1)),(.sl 3 (List.map e_u8_i64_b x2.2.1)),(.mp 1),(.ref 4 2 0 0 x2.2.2.2.length .virt)]),(.map (encM .i64 (fun y=>AV.agg (e_i64_Lu8i64E_b_i64 y)) x2.2.2.1) x2.2.2.1.length),(.arr 4 (List.map e_i64_i64_u8_i64 x2.2.2.2) 0 0 true),(.arr 2 (List.map e_u8_i64 x3.2.2.2.1) 0 0 false)]
def A12_5 (x2:Ty16 × Ty12 × Ty6 × Ty11) (x4:Int):Ans:=.call ⟨true,[]⟩ (.int .i64 x4) [(.row [(.sl 2 (List.map e_u8_i64 x2.1)),(.sl 3 (List.map e_u8_i64_b x2.2.1)),(.mp 1),(.ref 4 2 0 0 x2.2.2.2.length .virt)]),(.map (encM .i64 (fun y=>AV.agg (e_i64_Lu8i64E_b_i64 y)) x2.2.2.1) x2.2.2.1.length),(.arr 4 (List.map e_i64_i64_u8_i64 x2.2.2.2) 0 0 true)]
theorem ok_law10_alive_l0 (y:(Sum (Ty16 × Ty12 × Ty6 × Ty11) (Bool))):∀(k:Nat) (v12001_1:Int) (v12001_2:Ty16) (v12001_3:Ty12) (v12001_4:Ty6) (v12001_5:Ty11),law10_alive_l0 k v12001_1 v12001_2 v12001_3 v12001_4 v12001_5=some y→LT Try.prog X12 L12_0 (S12_0 v12001_1 v12001_2 v12001_3 v12001_4 v12001_5) (O12_0 y)
 | 0,v12001_1,v12001_2,v12001_3,v12001_4,v12001_5,h=>by cases h
 | k+1,v12001_1,v12001_2,v12001_3,v12001_4,v12001_5,h=>by
  rw[law10_alive_l0] at h
  by_cases cL0:ltI v12001_1 8=true
  · rw[if_pos cL0] at h
    by_cases cL1:inI v12001_1 8=true
    · rw[if_pos cL1] at h
      obtain⟨v12000_1,eL2,h⟩:=bsm h
      obtain⟨v12000_2,eL3,h⟩:=bsm h
      by_cases cL4:eqI v12000_2.2.1 v12000_1.2.2.2.2.1=true
      · rw[if_pos cL4] at h
        by_cases cL5:eqI v12000_2.1 v12000_1.2.2.2.2.2=true
        · rw[if_pos cL5] at h
          exact LT.next mixed (hs:=⟨[(1,[]),(27,[]),(28,[]),(29,[])],[⟨.tmp 1,[],none⟩,⟨.tmp 27,[],none⟩,⟨.cell 0 2,[],none⟩,⟨.cell 0 3,[],some 4⟩],true,[],[]⟩) (es:=none) [dt,(A12_0 v12000_1),(A12_1 v12000_2),df,df,df,df,df,df,.n v12000_2.2.2.2.2.2.length,.rows (List.map e_i64_i64_u8_i64 v12000_2.2.2.2.2.2)] [⟨(rfl:(List.map e_i64_i64_u8_i64 v12000_2.2.2.2.2.2)=(List.map e_i64_i64_u8_i64 v12000_2.2.2.2.2.2))⟩,⟨(rfl:v12000_2.2.2.2.2.2.length=v12000_2.2.2.2.2.2.length)⟩,⟨(zle v12000_2.2.2.2.2.2.length)⟩,⟨(nF cL5)⟩,⟨(nF cL4)⟩,⟨(nF cL4)⟩,⟨(nF cL4)⟩,⟨(nF cL4)⟩,⟨(nF cL4)⟩,⟨(ok_site_Site_Do_3 k v12000_1.1 v12000_1.2.1 v12000_1.2.2.1 v12000_1.2.2.2.1 v12001_2 v12001_3 v12001_4 v12001_5 _ eL3)⟩,⟨(cells_map (e:=e_i64_i64_u8_i64_i64_i64) eL2 6 0 6 (by decide))⟩,⟨cL1⟩,⟨cL0⟩] (by kernel_rfl) (ok_law10_alive_l0 y k (iadd .i64 v12001_1 1) v12000_2.2.2.1 v12000_2.2.2.2.1 v12000_2.2.2.2.2.1 v12000_2.2.2.2.2.2 h)
        rw[if_neg cL5] at h;replace cL5:=eqf cL5
        obtain rfl:=osi h
        show LT _ _ _ _ (.fin (.bool false) [])
        exact LT.done mixed (hs:=⟨[],[],false,[],[]⟩) (es:=none) [dt,(A12_0 v12000_1),(A12_1 v12000_2),df,df,df,df,df,dt] [⟨(nT cL5)⟩,⟨(nF cL4)⟩,⟨(nF cL4)⟩,⟨(nF cL4)⟩,⟨(nF cL4)⟩,⟨(nF cL4)⟩,⟨(ok_site_Site_Do_3 k v12000_1.1 v12000_1.2.1 v12000_1.2.2.1 v12000_1.2.2.2.1 v12001_2 v12001_3 v12001_4 v12001_5 _ eL3)⟩,⟨(cells_map (e:=e_i64_i64_u8_i64_i64_i64) eL2 6 0 6 (by decide))⟩,⟨cL1⟩,⟨cL0⟩] (by kernel_rfl) (fun s h=>by cases h)
      rw[if_neg cL4] at h;replace cL4:=eqf cL4
      obtain rfl:=osi h
      show LT _ _ _ _ (.fin (.bool false) [])
      exact LT.done mixed (hs:=⟨[],[],false,[],[]⟩) (es:=none) [dt,(A12_0 v12000_1),(A12_1 v12000_2),dt,dt,dt,dt,dt,dt] [⟨rT⟩,⟨(nT cL4)⟩,⟨(nT cL4)⟩,⟨(nT cL4)⟩,⟨(nT cL4)⟩,⟨(nT cL4)⟩,⟨(ok_site_Site_Do_3 k v12000_1.1 v12000_1.2.1 v12000_1.2.2.1 v12000_1.2.2.2.1 v12001_2 v12001_3 v12001_4 v12001_5 _ eL3)⟩,⟨(cells_map (e:=e_i64_i64_u8_i64_i64_i64) eL2 6 0 6 (by decide))⟩,⟨cL1⟩,⟨cL0⟩] (by kernel_rfl) (fun s h=>by cases h)
    rw[if_neg cL1] at h;replace cL1:=eqf cL1
    cases h
  rw[if_neg cL0] at h;replace cL0:=eqf cL0
  obtain rfl:=osi h
  show LT _ _ _ _ (.st (.exit 0) (E12_0_0 v12001_2 v12001_3 v12001_4 v12001_5))
  exact LT.done mixed (hs:=⟨[],[],false,[],[]⟩) (es:=(some ⟨[(1,[])],[⟨.tmp 1,[],none⟩,⟨.cell 0 2,[],none⟩,⟨.cell 0 3,[],none⟩],true,[],[]⟩)) [df] [⟨cL0⟩] (by kernel_rfl) (fun s h=>by cases h)
theorem ok_law10_alive (k:Nat) (r:Bool) (h:law10_alive k=some r):Tri Try.prog 12 [] [] (.bool r) []:=by
 unfold law10_alive at h
 obtain⟨x1,e0,h⟩:=bsm h
 cases x1 with
 | inl x2 =>
  simp only[Sum.elim_inl] at h
  obtain⟨x3,e2,h⟩:=bsm h
  obtain⟨x4,e3,h⟩:=bsm h
  by_cases c4:eqI x4 0=true
  · rw[if_pos c4] at h
    by_cases c5:x3.2.2.2.2=true
    · rw[if_pos c5] at h
      by_cases c6:eqI x3.1 3=true
      · rw[if_pos c6] at h
        obtain⟨x5,e7,h⟩:=bsm h
        obtain rfl:=osi h
        exact Tri.of (x:=X12) mixed facts12 [A12_2,df,A12_3,.n 0,.rows (List.map e_i64_i64_u8_i64 []),.out (.st .normal (E12_0_0 x2.1 x2.2.1 x2.2.2.1 x2.2.2.2)),(A12_4 x2 x3),(A12_5 x2 x4),dt,dt,dt,dt,dt,dt,dt,dt,.call ⟨true,[]⟩ (.ref 4 3 0 0 x2.2.2.2.length .virt) [(.row [(.sl 2 (List.map e_u8_i64 x2.1)),(.sl 3 (List.map e_u8_i64_b x2.2.1)),(.mp 1),(.ref 4 2 0 0 x2.2.2.2.length .virt)]),(.map (encM .i64 (fun y=>AV.agg (e_i64_Lu8i64E_b_i64 y)) x2.2.2.1) x2.2.2.1.length),(.arr 4 (List.map e_i64_i64_u8_i64 x2.2.2.2) 0 0 true),(.arr 4 (List.map e_i64_i64_u8_i64 x2.2.2.2) 0 0 false)],dt,dt,dt] [⟨c6⟩,⟨c6⟩,⟨c6⟩,⟨(ok_site_Site_Log k x2.1 x2.2.1 x2.2.2.1 x2.2.2.2 _ e7)⟩,⟨c6⟩,⟨c6⟩,⟨c5⟩,⟨c5⟩,⟨c5⟩,⟨c5⟩,⟨c4⟩,⟨c4⟩,⟨(ok_site_Site_Get k 3 x2.1 x2.2.1 x2.2.2.1 x2.2.2.2 _ e3)⟩,⟨(ok_site_Site_Part k 1 x2.1 x2.2.1 x2.2.2.1 x2.2.2.2 _ e2)⟩,⟨(LT.block (ok_law10_alive_l0 _ k 0 [] [] ([]:Ty6) [] e0))⟩,⟨(take_all e_i64_i64_u8_i64 (l:=[]) (n:=0) rfl)⟩,⟨(rfl:0=0)⟩,⟨(zle 0)⟩,⟨rF⟩,⟨(ok_site_New)⟩] (by kernel_rfl)
      rw[if_neg c6] at h;replace c6:=eqf c6
      obtain rfl:=osi h
      exact Tri.of (x:=X12) mixed facts12 [A12_2,df,A12_3,.n 0,.rows (List.map e_i64_i64_u8_i64 []),.out (.st .normal (E12_0_0 x2.1 x2.2.1 x2.2.2.1 x2.2.2.2)),(A12_4 x2 x3),(A12_5 x2 x4),dt,dt,dt,dt,dt,dt,df,df,df,df,df] [⟨c6⟩,⟨c6⟩,⟨c6⟩,⟨c6⟩,⟨c6⟩,⟨c5⟩,⟨c5⟩,⟨c5⟩,⟨c5⟩,⟨c4⟩,⟨c4⟩,⟨(ok_site_Site_Get k 3 x2.1 x2.2.1 x2.2.2.1 x2.2.2.2 _ e3)⟩,⟨(ok_site_Site_Part k 1 x2.1 x2.2.1 x2.2.2.1 x2.2.2.2 _ e2)⟩,⟨(LT.block (ok_law10_alive_l0 _ k 0 [] [] ([]:Ty6) [] e0))⟩,⟨(take_all e_i64_i64_u8_i64 (l:=[]) (n:=0) rfl)⟩,⟨(rfl:0=0)⟩,⟨(zle 0)⟩,⟨rF⟩,⟨(ok_site_New)⟩] (by kernel_rfl)
    rw[if_neg c5] at h;replace c5:=eqf c5
    obtain rfl:=osi h
    exact Tri.of (x:=X12) mixed facts12 [A12_2,df,A12_3,.n 0,.rows (List.map e_i64_i64_u8_i64 []),.out (.st .normal (E12_0_0 x2.1 x2.2.1 x2.2.2.1 x2.2.2.2)),(A12_4 x2 x3),(A12_5 x2 x4),dt,dt,df,df,df,df,df,df,df,df,df] [⟨rF⟩,⟨rF⟩,⟨rF⟩,⟨rF⟩,⟨rF⟩,⟨c5⟩,⟨c5⟩,⟨c5⟩,⟨c5⟩,⟨c4⟩,⟨c4⟩,⟨(ok_site_Site_Get k 3 x2.1 x2.2.1 x2.2.2.1 x2.2.2.2 _ e3)⟩,⟨(ok_site_Site_Part k 1 x2.1 x2.2.1 x2.2.2.1 x2.2.2.2 _ e2)⟩,⟨(LT.block (ok_law10_alive_l0 _ k 0 [] [] ([]:Ty6) [] e0))⟩,⟨(take_all e_i64_i64_u8_i64 (l:=[]) (n:=0) rfl)⟩,⟨(rfl:0=0)⟩,⟨(zle 0)⟩,⟨rF⟩,⟨(ok_site_New)⟩] (by kernel_rfl)
  rw[if_neg c4] at h;replace c4:=eqf c4
  obtain rfl:=osi h
  exact Tri.of (x:=X12) mixed facts12 [A12_2,df,A12_3,.n 0,.rows (List.map e_i64_i64_u8_i64 []),.out (.st .normal (E12_0_0 x2.1 x2.2.1 x2.2.2.1 x2.2.2.2)),(A12_4 x2 x3),(A12_5 x2 x4),df,df,df,df,df,df,df,df,df,df,df] [⟨rF⟩,⟨rF⟩,⟨rF⟩,⟨rF⟩,⟨rF⟩,⟨rF⟩,⟨rF⟩,⟨rF⟩,⟨rF⟩,⟨c4⟩,⟨c4⟩,⟨(ok_site_Site_Get k 3 x2.1 x2.2.1 x2.2.2.1 x2.2.2.2 _ e3)⟩,⟨(ok_site_Site_Part k 1 x2.1 x2.2.1 x2.2.2.1 x2.2.2.2 _ e2)⟩,⟨(LT.block (ok_law10_alive_l0 _ k 0 [] [] ([]:Ty6) [] e0))⟩,⟨(take_all e_i64_i64_u8_i64 (l:=[]) (n:=0) rfl)⟩,⟨(rfl:0=0)⟩,⟨(zle 0)⟩,⟨rF⟩,⟨(ok_site_New)⟩] (by kernel_rfl)
 | inr x2 =>
  simp only[Sum.elim_inr] at h
  obtain rfl:=osi h
  exact Tri.of (x:=X12) mixed facts12 [A12_2,df,A12_3,.n 0,.rows (List.map e_i64_i64_u8_i64 []),.out (.fin (.bool x2) [])] [⟨(LT.blockFin (id:=0) (ok_law10_alive_l0 _ k 0 [] [] ([]:Ty6) [] e0))⟩,⟨(take_all e_i64_i64_u8_i64 (l:=[]) (n:=0) rfl)⟩,⟨(rfl:0=0)⟩,⟨(zle 0)⟩,⟨rF⟩,⟨(ok_site_New)⟩] (by kernel_rfl)
end Go.Ws

namespace Go.Ws
open Go.Proofs
set_option linter.unusedSimpArgs false
set_option linter.unusedVariables false
set_option maxRecDepth 1000000
set_option maxHeartbeats 4000000
noncomputable def X19:Ctx:=⟨Try.f19,[],false⟩
noncomputable def L19_0:Code:=at_ Try.f19 [1,1,1,0,1,4,5]
def S19_0 (x1:Ty11) (v19001_1:Int) (v19001_2:Ty16) (v19001_3:Ty12) (v19001_4:Ty6) (v19001_5:Ty11):St:=⟨mkT 25 [(0,(.sl 4 (List.map e_i64_i64_u8_i64 x1))),(3,(.hp 0 0)),(4,(.int .i64 v19001_1))],[(.row [(.sl 2 (List.map e_u8_i64 v19001_2)),(.sl 3 (List.map e_u8_i64_b v19001_3)),(.mp 1),(.ref 4 2 0 0 v19001_5.length .virt)]),(.map (encM .i64 (fun y=>AV.agg (e_i64_Lu8i64E_b_i64 y)) v19001_4) v19001_4.length),(.arr 4 (List.map e_i64_i64_u8_i64 v19001_5) 0 0 true)]⟩
def E19_0_0 (v19002_1:Ty16) (v19002_2:Ty12) (v19002_3:Ty6) (v19002_4:Ty11):St:=⟨mkT 25 [(3,(.hp 0 0))],[(.row [(.sl 2 (List.map e_u8_i64 v19002_1)),(.sl 3 (List.map e_u8_i64_b v19002_2)),(.mp 1),(.ref 4 2 0 0 v19002_4.length .virt)]),(.map (encM .i64 (fun y=>AV.agg (e_i64_Lu8i64E_b_i64 y)) v19002_3) v19002_3.length),(.arr 4 (List.map e_i64_i64_u8_i64 v19002_4) 0 0 true)]⟩
def O19_0 (x1:Ty11) (y:(Ty16 × Ty12 × Ty6 × Ty11)):GX:=.st (.exit 0) (E19_0_0 y.1 y.2.1 y.2.2.1 y.2.2.2)
theorem ok_law10_played_l0 (x1:Ty11) (y:(Ty16 × Ty12 × Ty6 × Ty11)):∀(k:Nat) (v19001_1:Int) (v19001_2:Ty16) (v19001_3:Ty12) (v19001_4:Ty6) (v19001_5:Ty11),law10_played_l0 k x1 v19001_1 v19001_2 v19001_3 v19001_4 v19001_5=some y→LT Try.prog X19 L19_0 (S19_0 x1 v19001_1 v19001_2 v19001_3 v19001_4 v19001_5) (O19_0 x1 y)
 | 0,v19001_1,v19001_2,v19001_3,v19001_4,v19001_5,h=>by cases h
 | k+1,v19001_1,v19001_2,v19001_3,v19001_4,v19001_5,h=>by
  rw[law10_played_l0] at h
  by_cases cL0:ltI v19001_1 (nI x1.length)=true
  · rw[if_pos cL0] at h
    by_cases cL1:ltI v19001_1 120=true
    · rw[if_pos cL1] at h
      by_cases cL2:inI v19001_1 x1.length=true
      · rw[if_pos cL2] at h
        obtain⟨v19000_1,eL3,h⟩:=bsm h
        obtain⟨v19000_2,eL4,h⟩:=bsm h
        exact LT.next mixed (hs:=⟨[(0,[]),(3,[]),(4,[])],[⟨.tmp 3,[],none⟩,⟨.cell 0 2,[],none⟩,⟨.cell 0 3,[],some 4⟩],true,[],[]⟩) (es:=none) [.n x1.length,dt,dt,dt,dt,.n x1.length,.row [(.int .i64 v19000_1.1),(.int .i64 v19000_1.2.1),(.int .u8 v19000_1.2.2.1),(.int .i64 v19000_1.2.2.2)],.call ⟨true,[]⟩ (.tup [(.int .i64 v19000_2.2.1),(.int .i64 v19000_2.1)]) [(.row [(.sl 2 (List.map e_u8_i64 v19000_2.2.2.1)),(.sl 3 (List.map e_u8_i64_b v19000_2.2.2.2.1)),(.mp 1),(.ref 4 2 1 0 v19000_2.2.2.2.2.2.length .virt)]),(.map (encM .i64 (fun y=>AV.agg (e_i64_Lu8i64E_b_i64 y)) v19000_2.2.2.2.2.1) v19000_2.2.2.2.2.1.length),(.arr 4 (List.map e_i64_i64_u8_i64 v19000_2.2.2.2.2.2) 1 1 true)],.n v19000_2.2.2.2.2.2.length,.rows (List.map e_i64_i64_u8_i64 v19000_2.2.2.2.2.2)] [⟨(rfl:(List.map e_i64_i64_u8_i64 v19000_2.2.2.2.2.2)=(List.map e_i64_i64_u8_i64 v19000_2.2.2.2.2.2))⟩,⟨(rfl:v19000_2.2.2.2.2.2.length=v19000_2.2.2.2.2.2.length)⟩,⟨(zle v19000_2.2.2.2.2.2.length)⟩,⟨(ok_site_Site_Do_3 k v19000_1.1 v19000_1.2.1 v19000_1.2.2.1 v19000_1.2.2.2 v19001_2 v19001_3 v19001_4 v19001_5 _ eL4)⟩,⟨(cells_map (e:=e_i64_i64_u8_i64) eL3 4 0 4 (by decide))⟩,⟨cL2⟩,⟨(len_map e_i64_i64_u8_i64 x1)⟩,⟨cL1⟩,⟨cL0⟩,⟨cL0⟩,⟨cL0⟩,⟨(len_map e_i64_i64_u8_i64 x1)⟩] (by kernel_rfl) (ok_law10_played_l0 x1 y k (iadd .i64 v19001_1 1) v19000_2.2.2.1 v19000_2.2.2.2.1 v19000_2.2.2.2.2.1 v19000_2.2.2.2.2.2 h)
      rw[if_neg cL2] at h;replace cL2:=eqf cL2
      cases h
    rw[if_neg cL1] at h;replace cL1:=eqf cL1
    obtain rfl:=osi h
    show LT _ _ _ _ (.st (.exit 0) (E19_0_0 v19001_2 v19001_3 v19001_4 v19001_5))
    exact LT.done mixed (hs:=⟨[],[],false,[],[]⟩) (es:=(some ⟨[(3,[])],[⟨.tmp 3,[],none⟩,⟨.cell 0 2,[],none⟩,⟨.cell 0 3,[],none⟩],true,[],[]⟩)) [.n x1.length,dt,dt,dt,df] [⟨cL1⟩,⟨cL0⟩,⟨cL0⟩,⟨cL0⟩,⟨(len_map e_i64_i64_u8_i64 x1)⟩] (by kernel_rfl) (fun s h=>by cases h)
  rw[if_neg cL0] at h;replace cL0:=eqf cL0
  obtain rfl:=osi h
  show LT _ _ _ _ (.st (.exit 0) (E19_0_0 v19001_2 v19001_3 v19001_4 v19001_5))
  exact LT.done mixed (hs:=⟨[],[],false,[],[]⟩) (es:=(some ⟨[(3,[])],[⟨.tmp 3,[],none⟩,⟨.cell 0 2,[],none⟩,⟨.cell 0 3,[],none⟩],true,[],[]⟩)) [.n x1.length,df,df,df,df] [⟨rF⟩,⟨cL0⟩,⟨cL0⟩,⟨cL0⟩,⟨(len_map e_i64_i64_u8_i64 x1)⟩] (by kernel_rfl) (fun s h=>by cases h)
theorem ok_law10_played (k:Nat) (x1:Ty11) (r:Ty16 × Ty12 × Ty6 × Ty11) (h:law10_played k x1=some r):Tri Try.prog 19 [(.sl 4 (List.map e_i64_i64_u8_i64 x1))] [] (.hp 0 0) [(.row [(.sl 2 (List.map e_u8_i64 r.1)),(.sl 3 (List.map e_u8_i64_b r.2.1)),(.mp 1),(.ref 4 2 0 0 r.2.2.2.length .virt)]),(.map (encM .i64 (fun y=>AV.agg (e_i64_Lu8i64E_b_i64 y)) r.2.2.1) r.2.2.1.length),(.arr 4 (List.map e_i64_i64_u8_i64 r.2.2.2) 0 0 true)]:=by
 unfold law10_played at h
 obtain⟨x3,e0,h⟩:=bsm h
 obtain rfl:=osi h
 exact Tri.of (x:=X19) mixed facts19 [.call ⟨true,[]⟩ (.hp 0 0) [(.row [.nils,.nils,(.mp 1),.nils]),(.map (encM .i64 (fun y=>AV.agg (e_i64_Lu8i64E_b_i64 y)) ([]:Ty6)) ([]:Ty6).length)],df,.norm 2 ⟨[(0,[]),(3,[]),(4,[])],[⟨.tmp 3,[(0,2),(1,3)],none⟩,⟨.cell 0 2,[],none⟩,⟨.cell 0 3,[],some 4⟩],true,[],[]⟩,.n 0,.rows (List.map e_i64_i64_u8_i64 []),.out (.st .normal (E19_0_0 x3.1 x3.2.1 x3.2.2.1 x3.2.2.2)),.norm 0 ⟨[(2,[])],[⟨.tmp 2,[],none⟩,⟨.cell 0 2,[],none⟩,⟨.cell 0 3,[],none⟩],false,[],[]⟩] [⟨(LT.block (ok_law10_played_l0 x1 _ k 0 [] [] ([]:Ty6) [] e0))⟩,⟨(take_all e_i64_i64_u8_i64 (l:=[]) (n:=0) rfl)⟩,⟨(rfl:0=0)⟩,⟨(zle 0)⟩,⟨rF⟩,⟨(ok_site_New)⟩] (by kernel_rfl)
end Go.Ws
