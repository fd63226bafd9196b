/-
  cmp_Or: what the machine makes of it. (Printed by my own program.)
  Conditions: none.
-/
import Derived.Test.YtgaodljkmdafdaaZPre
import Derived.Test.YtgaodljkmdafdaaZPure
set_option linter.unusedVariables false
set_option linter.unusedSimpArgs false
namespace Go.Ws
open Go.Proofs
set_option linter.unusedSimpArgs false
set_option linter.unusedVariables false
set_option maxRecDepth 1000000
set_option maxHeartbeats 4000000
noncomputable def X34:Ctx:=⟨Try.f34,[],true⟩
noncomputable def L34_0:Code:=at_ Try.f34 [1,1,0,1,4,5]
def S34_0 (x1:List Int) (v34001_1:Int):St:=⟨mkT 18 [(3,(.int .i64 0)),(6,(.sl 1 (List.map e_i64 x1))),(7,(.int .i64 (nI x1.length))),(8,(.int .i64 v34001_1))],[]⟩
def E34_0_0:St:=⟨mkT 18 [(3,(.int .i64 0))],[]⟩
def O34_0 (x1:List Int) (y:(Sum (Unit) (Int))):GX:=match y with
 | .inl y=>.st (.exit 0) (E34_0_0)
 | .inr y=>.fin (.int .i64 y) []
theorem ok_cmp_Or_l0 (x1:List Int) (y:(Sum (Unit) (Int))):∀(k:Nat) (v34001_1:Int),cmp_Or_l0 k x1 v34001_1=some y→LT Try.prog X34 L34_0 (S34_0 x1 v34001_1) (O34_0 x1 y)
 | 0,v34001_1,h=>by cases h
 | k+1,v34001_1,h=>by
  rw[cmp_Or_l0] at h
  by_cases cL0:ltI v34001_1 (nI x1.length)=true
  · rw[if_pos cL0] at h
    by_cases cL1:inI v34001_1 x1.length=true
    · rw[if_pos cL1] at h
      obtain⟨v34000_1,eL2,h⟩:=bsm h
      let u1:List Ans:=[dt,.n x1.length,.row [(.int .i64 v34000_1)]]
      let w2:List Prf:=[⟨(cells_map (e:=e_i64) eL2 1 0 1 (by decide))⟩,⟨cL1⟩,⟨(len_map e_i64 x1)⟩,⟨cL0⟩]
      by_cases cL3:eqI v34000_1 0=true
      · rw[if_pos cL3] at h
        exact LT.next mixed (hs:=⟨[(3,[]),(6,[]),(7,[]),(8,[])],[],false,[],[]⟩) (es:=none) (u1++[df]) ([⟨(nF cL3)⟩]++w2) (by kernel_rfl) (ok_cmp_Or_l0 x1 y k (iadd .i64 v34001_1 1) h)
      rw[if_neg cL3] at h;replace cL3:=eqf cL3
      obtain rfl:=osi h
      show LT _ _ _ _ (.fin (.int .i64 v34000_1) [])
      exact LT.done mixed (hs:=⟨[],[],false,[],[]⟩) (es:=none) (u1++[dt]) ([⟨(nT cL3)⟩]++w2) (by kernel_rfl) (fun s h=>by cases h)
    rw[if_neg cL1] at h;replace cL1:=eqf cL1
    cases h
  rw[if_neg cL0] at h;replace cL0:=eqf cL0
  obtain rfl:=osi h
  show LT _ _ _ _ (.st (.exit 0) (E34_0_0))
  exact LT.done mixed (hs:=⟨[],[],false,[],[]⟩) (es:=(some ⟨[(3,[])],[],false,[],[]⟩)) [df] [⟨cL0⟩] (by kernel_rfl) (fun s h=>by cases h)
theorem ok_cmp_Or (k:Nat) (x1:List Int) (r:Int) (h:cmp_Or k x1=some r):Tri Try.prog 34 [(.sl 1 (List.map e_i64 x1))] [] (.int .i64 r) []:=by
 unfold cmp_Or at h
 let u3:List Ans:=[.n x1.length,.norm 2 ⟨[(3,[]),(6,[]),(7,[]),(8,[])],[],false,[],[]⟩]
 obtain⟨x2,e0,h⟩:=bsm h
 cases x2 with
 | inl x3 =>
  simp only[Sum.elim_inl] at h
  obtain rfl:=osi h
  exact Tri.of (x:=X34) mixed facts34 (u3++[.out (.st .normal (E34_0_0))]) [⟨(LT.block (ok_cmp_Or_l0 x1 _ k 0 e0))⟩,⟨(len_map e_i64 x1)⟩] (by kernel_rfl)
 | inr x3 =>
  simp only[Sum.elim_inr] at h
  obtain rfl:=osi h
  exact Tri.of (x:=X34) mixed facts34 (u3++[.out (.fin (.int .i64 x3) [])]) [⟨(LT.blockFin (id:=0) (ok_cmp_Or_l0 x1 _ k 0 e0))⟩,⟨(len_map e_i64 x1)⟩] (by kernel_rfl)
end Go.Ws
