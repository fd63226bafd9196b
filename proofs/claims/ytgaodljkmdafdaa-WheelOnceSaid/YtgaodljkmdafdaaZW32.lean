/-
  slices_IndexFunc: what the machine makes of it. (Printed by my own program.)
  Conditions: none.
-/
import Derived.Test.YtgaodljkmdafdaaZPre
import Derived.Test.YtgaodljkmdafdaaZPure
import Derived.Test.YtgaodljkmdafdaaZW33
set_option linter.unusedVariables false
set_option linter.unusedSimpArgs false
namespace Go.Ws
open Go.Proofs
set_option linter.unusedSimpArgs false
set_option linter.unusedVariables false
set_option maxRecDepth 1000000
set_option maxHeartbeats 4000000
noncomputable def X32 (x2:Int):Ctx:=⟨Try.f32,[(.row [(.int .i64 x2)])],false⟩
noncomputable def L32_0:Code:=at_ Try.f32 [1,0,1,4,5]
def S32_0 (x1:Ty1) (x2:Int) (v32001_1:Int):St:=⟨mkT 19 [(0,(.sl 2 (List.map e_i64_i64 x1))),(1,(.fn 33 [(.hp 0 0)])),(7,(.int .i64 (nI x1.length))),(8,(.int .i64 v32001_1))],[(.row [(.int .i64 x2)])]⟩
def E32_0_0 (x2:Int):St:=⟨mkT 19 [],[(.row [(.int .i64 x2)])]⟩
def O32_0 (x1:Ty1) (x2:Int) (y:(Sum (Unit) (Int))):GX:=match y with
 | .inl y=>.st (.exit 0) (E32_0_0 x2)
 | .inr y=>.fin (.int .i64 y) [(.row [(.int .i64 x2)])]
theorem ok_slices_IndexFunc_l0 (x1:Ty1) (x2:Int) (y:(Sum (Unit) (Int))):∀(k:Nat) (v32001_1:Int),slices_IndexFunc_l0 k x1 x2 v32001_1=some y→LT Try.prog (X32 x2) L32_0 (S32_0 x1 x2 v32001_1) (O32_0 x1 x2 y)
 | 0,v32001_1,h=>by cases h
 | k+1,v32001_1,h=>by
  rw[slices_IndexFunc_l0] at h
  by_cases cL0:ltI v32001_1 (nI x1.length)=true
  · rw[if_pos cL0] at h
    by_cases cL1:inI v32001_1 x1.length=true
    · rw[if_pos cL1] at h
      obtain⟨v32000_1,eL2,h⟩:=bsm h
      let u1:List Ans:=[dt,.n x1.length,.row [(.int .i64 v32000_1.1),(.int .i64 v32000_1.2)],.call ⟨true,[]⟩ (.bool (eqI v32000_1.1 x2)) [(.row [(.int .i64 x2)])]]
      let w2:List Prf:=[⟨(ok_wheel_Wheel_find_1 v32000_1.1 v32000_1.2 x2)⟩,⟨(cells_map (e:=e_i64_i64) eL2 2 0 2 (by decide))⟩,⟨cL1⟩,⟨(len_map e_i64_i64 x1)⟩,⟨cL0⟩]
      by_cases cL3:eqI v32000_1.1 x2=true
      · rw[if_pos cL3] at h
        obtain rfl:=osi h
        show LT _ _ _ _ (.fin (.int .i64 v32001_1) [(.row [(.int .i64 x2)])])
        exact LT.done mixed (hs:=⟨[],[],false,[],[]⟩) (es:=none) (u1++[dt,.norm 0 ⟨[(4,[])],[],false,[],[]⟩]) ([⟨cL3⟩]++w2) (by kernel_rfl) (fun s h=>by cases h)
      rw[if_neg cL3] at h;replace cL3:=eqf cL3
      exact LT.next mixed (hs:=⟨[(0,[]),(1,[]),(7,[]),(8,[])],[],false,[],[]⟩) (es:=none) (u1++[df]) ([⟨cL3⟩]++w2) (by kernel_rfl) (ok_slices_IndexFunc_l0 x1 x2 y k (iadd .i64 v32001_1 1) h)
    rw[if_neg cL1] at h;replace cL1:=eqf cL1
    cases h
  rw[if_neg cL0] at h;replace cL0:=eqf cL0
  obtain rfl:=osi h
  show LT _ _ _ _ (.st (.exit 0) (E32_0_0 x2))
  exact LT.done mixed (hs:=⟨[],[],false,[],[]⟩) (es:=(some ⟨[],[],false,[],[]⟩)) [df] [⟨cL0⟩] (by kernel_rfl) (fun s h=>by cases h)
theorem ok_slices_IndexFunc (k:Nat) (x1:Ty1) (x2:Int) (r:Int) (h:slices_IndexFunc k x1 x2=some r):Tri Try.prog 32 [(.sl 2 (List.map e_i64_i64 x1)),(.fn 33 [(.hp 0 0)])] [(.row [(.int .i64 x2)])] (.int .i64 r) [(.row [(.int .i64 x2)])]:=by
 unfold slices_IndexFunc at h
 let u3:List Ans:=[.n x1.length,.norm 2 ⟨[(0,[]),(1,[]),(7,[]),(8,[])],[],false,[],[]⟩]
 obtain⟨x3,e0,h⟩:=bsm h
 cases x3 with
 | inl x4 =>
  simp only[Sum.elim_inl] at h
  obtain rfl:=osi h
  exact Tri.of (x:=(X32 x2)) mixed facts32 (u3++[.out (.st .normal (E32_0_0 x2)),.norm 0 ⟨[(4,[])],[],false,[],[]⟩]) [⟨(LT.block (ok_slices_IndexFunc_l0 x1 x2 _ k 0 e0))⟩,⟨(len_map e_i64_i64 x1)⟩] (by kernel_rfl)
 | inr x4 =>
  simp only[Sum.elim_inr] at h
  obtain rfl:=osi h
  exact Tri.of (x:=(X32 x2)) mixed facts32 (u3++[.out (.fin (.int .i64 x4) [(.row [(.int .i64 x2)])])]) [⟨(LT.blockFin (id:=0) (ok_slices_IndexFunc_l0 x1 x2 _ k 0 e0))⟩,⟨(len_map e_i64_i64 x1)⟩] (by kernel_rfl)
end Go.Ws
