/-
  law06_same: what the machine makes of it. (Printed by my own program.)
  Conditions: none.
-/
import Derived.Test.YtgaodljkmdafdaaZPre
import Derived.Test.YtgaodljkmdafdaaZPure
set_option linter.unusedVariables false
set_option linter.unusedSimpArgs false
namespace Go.Ws
open Go.Proofs
set_option linter.unusedSimpArgs false
set_option linter.unusedVariables false
set_option maxRecDepth 1000000
set_option maxHeartbeats 4000000
noncomputable def X23:Ctx:=⟨Try.f23,[],true⟩
noncomputable def L23_0:Code:=at_ Try.f23 [1,1,0,1,4,5]
def S23_0 (x1:List Int) (x2:List Int) (v23001_1:Int):St:=⟨mkT 26 [(0,(.sl 1 (List.map e_i64 x1))),(1,(.sl 1 (List.map e_i64 x2))),(12,(.int .i64 (nI x1.length))),(13,(.int .i64 v23001_1))],[]⟩
def E23_0_0:St:=⟨mkT 26 [],[]⟩
def O23_0 (x1:List Int) (x2:List Int) (y:(Sum (Unit) (Bool))):GX:=match y with
 | .inl y=>.st (.exit 0) (E23_0_0)
 | .inr y=>.fin (.bool y) []
theorem ok_law06_same_l0 (x1:List Int) (x2:List Int) (y:(Sum (Unit) (Bool))):∀(k:Nat) (v23001_1:Int),law06_same_l0 k x1 x2 v23001_1=some y→LT Try.prog X23 L23_0 (S23_0 x1 x2 v23001_1) (O23_0 x1 x2 y)
 | 0,v23001_1,h=>by cases h
 | k+1,v23001_1,h=>by
  rw[law06_same_l0] at h
  by_cases cL0:ltI v23001_1 (nI x1.length)=true
  · rw[if_pos cL0] at h
    by_cases cL1:inI v23001_1 x1.length=true
    · rw[if_pos cL1] at h
      obtain⟨v23000_1,eL2,h⟩:=bsm h
      by_cases cL3:inI v23001_1 x2.length=true
      · rw[if_pos cL3] at h
        obtain⟨v23000_2,eL4,h⟩:=bsm h
        let u1:List Ans:=[dt,.n x1.length,.row [(.int .i64 v23000_1)],.n x2.length,.row [(.int .i64 v23000_2)]]
        let w2:List Prf:=[⟨(cells_map (e:=e_i64) eL4 1 0 1 (by decide))⟩,⟨cL3⟩,⟨(len_map e_i64 x2)⟩,⟨(cells_map (e:=e_i64) eL2 1 0 1 (by decide))⟩,⟨cL1⟩,⟨(len_map e_i64 x1)⟩,⟨cL0⟩]
        by_cases cL5:eqI v23000_1 v23000_2=true
        · rw[if_pos cL5] at h
          exact LT.next mixed (hs:=⟨[(0,[]),(1,[]),(12,[]),(13,[])],[],false,[],[]⟩) (es:=none) (u1++[df]) ([⟨(nF cL5)⟩]++w2) (by kernel_rfl) (ok_law06_same_l0 x1 x2 y k (iadd .i64 v23001_1 1) h)
        rw[if_neg cL5] at h;replace cL5:=eqf cL5
        obtain rfl:=osi h
        show LT _ _ _ _ (.fin (.bool false) [])
        exact LT.done mixed (hs:=⟨[],[],false,[],[]⟩) (es:=none) (u1++[dt]) ([⟨(nT cL5)⟩]++w2) (by kernel_rfl) (fun s h=>by cases h)
      rw[if_neg cL3] at h;replace cL3:=eqf cL3
      cases h
    rw[if_neg cL1] at h;replace cL1:=eqf cL1
    cases h
  rw[if_neg cL0] at h;replace cL0:=eqf cL0
  obtain rfl:=osi h
  show LT _ _ _ _ (.st (.exit 0) (E23_0_0))
  exact LT.done mixed (hs:=⟨[],[],false,[],[]⟩) (es:=(some ⟨[],[],false,[],[]⟩)) [df] [⟨cL0⟩] (by kernel_rfl) (fun s h=>by cases h)
theorem ok_law06_same (k:Nat) (x1:List Int) (x2:List Int) (r:Bool) (h:law06_same k x1 x2=some r):Tri Try.prog 23 [(.sl 1 (List.map e_i64 x1)),(.sl 1 (List.map e_i64 x2))] [] (.bool r) []:=by
 unfold law06_same at h
 let w4:List Prf:=[⟨(len_map e_i64 x2)⟩,⟨(len_map e_i64 x1)⟩]
 by_cases c0:eqI (nI x1.length) (nI x2.length)=true
 · rw[if_pos c0] at h
   let u5:List Ans:=[.n x1.length,.n x2.length,df,.n x1.length,.norm 2 ⟨[(0,[]),(1,[]),(12,[]),(13,[])],[],false,[],[]⟩]
   let w6:List Prf:=[⟨(len_map e_i64 x1)⟩,⟨(nF c0)⟩]++w4
   obtain⟨x3,e1,h⟩:=bsm h
   cases x3 with
   | inl x4 =>
    simp only[Sum.elim_inl] at h
    obtain rfl:=osi h
    exact Tri.of (x:=X23) mixed facts23 (u5++[.out (.st .normal (E23_0_0))]) ([⟨(LT.block (ok_law06_same_l0 x1 x2 _ k 0 e1))⟩]++w6) (by kernel_rfl)
   | inr x4 =>
    simp only[Sum.elim_inr] at h
    obtain rfl:=osi h
    exact Tri.of (x:=X23) mixed facts23 (u5++[.out (.fin (.bool x4) [])]) ([⟨(LT.blockFin (id:=0) (ok_law06_same_l0 x1 x2 _ k 0 e1))⟩]++w6) (by kernel_rfl)
 rw[if_neg c0] at h;replace c0:=eqf c0
 obtain rfl:=osi h
 exact Tri.of (x:=X23) mixed facts23 [.n x1.length,.n x2.length,dt] ([⟨(nT c0)⟩]++w4) (by kernel_rfl)
end Go.Ws
