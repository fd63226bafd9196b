/-
  slices_BinarySearchFunc: what the machine makes of it. (Printed by my own program.)
  Conditions: none.
-/
import Derived.Test.YtgaodljkmdafdaaZPre
import Derived.Test.YtgaodljkmdafdaaZPure
import Derived.Test.YtgaodljkmdafdaaZW27
set_option linter.unusedVariables false
set_option linter.unusedSimpArgs false
namespace Go.Ws
open Go.Proofs
set_option linter.unusedSimpArgs false
set_option linter.unusedVariables false
set_option maxRecDepth 1000000
set_option maxHeartbeats 4000000
noncomputable def X26:Ctx:=⟨Try.f26,[],true⟩
noncomputable def L26_0:Code:=at_ Try.f26 [1,1,1,0,4,5]
def S26_0 (x1:Ty1) (x2:Int) (x3:Int) (v26001_1:Int) (v26001_2:Int):St:=⟨mkT 49 [(0,(.sl 2 (List.map e_i64_i64 x1))),(2,(.fn 27 [])),(4,(.hp 0 0)),(8,(.int .i64 (nI x1.length))),(9,(.int .i64 v26001_1)),(10,(.int .i64 v26001_2))],[(.row [(.int .i64 x2),(.int .i64 x3)])]⟩
def E26_0_0 (x1:Ty1) (x2:Int) (x3:Int) (v26002_1:Int):St:=⟨mkT 49 [(0,(.sl 2 (List.map e_i64_i64 x1))),(2,(.fn 27 [])),(4,(.hp 0 0)),(8,(.int .i64 (nI x1.length))),(9,(.int .i64 v26002_1))],[(.row [(.int .i64 x2),(.int .i64 x3)])]⟩
def O26_0 (x1:Ty1) (x2:Int) (x3:Int) (y:(Int)):GX:=.st (.exit 0) (E26_0_0 x1 x2 x3 y)
theorem ok_slices_BinarySearchFunc_l0 (x1:Ty1) (x2:Int) (x3:Int) (y:(Int)):∀(k:Nat) (v26001_1:Int) (v26001_2:Int),slices_BinarySearchFunc_l0 k x1 x2 x3 v26001_1 v26001_2=some y→LT Try.prog X26 L26_0 (S26_0 x1 x2 x3 v26001_1 v26001_2) (O26_0 x1 x2 x3 y)
 | 0,v26001_1,v26001_2,h=>by cases h
 | k+1,v26001_1,v26001_2,h=>by
  rw[slices_BinarySearchFunc_l0] at h
  by_cases cL0:ltI v26001_1 v26001_2=true
  · rw[if_pos cL0] at h
    by_cases cL1:inI (conv .i64 (ishr .u64 (conv .u64 (iadd .i64 v26001_1 v26001_2)) 1)) x1.length=true
    · rw[if_pos cL1] at h
      obtain⟨v26000_1,eL2,h⟩:=bsm h
      obtain⟨v26000_2,eL3,h⟩:=bsm h
      let u1:List Ans:=[dt,.n x1.length,.row [(.int .i64 v26000_1.1),(.int .i64 v26000_1.2)],.call ⟨true,[]⟩ (.int .i64 v26000_2) []]
      let w2:List Prf:=[⟨(ok_wheel_order k v26000_1.1 v26000_1.2 x2 x3 _ eL3)⟩,⟨(cells_map (e:=e_i64_i64) eL2 2 0 2 (by decide))⟩,⟨cL1⟩,⟨(len_map e_i64_i64 x1)⟩,⟨cL0⟩]
      by_cases cL4:ltI v26000_2 0=true
      · rw[if_pos cL4] at h
        exact LT.next mixed (hs:=⟨[(0,[]),(2,[]),(4,[]),(8,[]),(9,[]),(10,[])],[⟨.tmp 4,[],none⟩],false,[],[]⟩) (es:=none) (u1++[dt]) ([⟨cL4⟩]++w2) (by kernel_rfl) (ok_slices_BinarySearchFunc_l0 x1 x2 x3 y k (iadd .i64 (conv .i64 (ishr .u64 (conv .u64 (iadd .i64 v26001_1 v26001_2)) 1)) 1) v26001_2 h)
      rw[if_neg cL4] at h;replace cL4:=eqf cL4
      exact LT.next mixed (hs:=⟨[(0,[]),(2,[]),(4,[]),(8,[]),(9,[]),(10,[])],[⟨.tmp 4,[],none⟩],false,[],[]⟩) (es:=none) (u1++[df]) ([⟨cL4⟩]++w2) (by kernel_rfl) (ok_slices_BinarySearchFunc_l0 x1 x2 x3 y k v26001_1 (conv .i64 (ishr .u64 (conv .u64 (iadd .i64 v26001_1 v26001_2)) 1)) h)
    rw[if_neg cL1] at h;replace cL1:=eqf cL1
    cases h
  rw[if_neg cL0] at h;replace cL0:=eqf cL0
  obtain rfl:=osi h
  show LT _ _ _ _ (.st (.exit 0) (E26_0_0 x1 x2 x3 v26001_1))
  exact LT.done mixed (hs:=⟨[],[],false,[],[]⟩) (es:=(some ⟨[(0,[]),(2,[]),(4,[]),(8,[]),(9,[])],[⟨.tmp 4,[],none⟩],false,[],[]⟩)) [df] [⟨cL0⟩] (by kernel_rfl) (fun s h=>by cases h)
theorem ok_slices_BinarySearchFunc (k:Nat) (x1:Ty1) (x2:Int) (x3:Int) (r:Int × Bool) (h:slices_BinarySearchFunc k x1 x2 x3=some r):Tri Try.prog 26 [(.sl 2 (List.map e_i64_i64 x1)),(.agg [(.int .i64 x2),(.int .i64 x3)]),(.fn 27 [])] [] (.tup [(.int .i64 r.1),(.bool r.2)]) []:=by
 unfold slices_BinarySearchFunc at h
 obtain⟨x5,e0,h⟩:=bsm h
 let u3:List Ans:=[.n x1.length,.norm 2 ⟨[(0,[]),(2,[]),(4,[]),(8,[]),(9,[]),(10,[])],[⟨.tmp 4,[],none⟩],false,[],[]⟩,.out (.st .normal (E26_0_0 x1 x2 x3 x5))]
 let w4:List Prf:=[⟨(LT.block (ok_slices_BinarySearchFunc_l0 x1 x2 x3 _ k 0 (nI x1.length) e0))⟩,⟨(len_map e_i64_i64 x1)⟩]
 by_cases c2:ltI x5 (nI x1.length)=true
 · rw[if_pos c2] at h
   by_cases c3:inI x5 x1.length=true
   · rw[if_pos c3] at h
     obtain⟨x6,e4,h⟩:=bsm h
     obtain⟨x7,e5,h⟩:=bsm h
     obtain rfl:=osi h
     exact Tri.of (x:=X26) mixed facts26 (u3++[dt,dt,dt,dt,.n x1.length,dt,.row [(.int .i64 x6.1),(.int .i64 x6.2)],dt,dt,.call ⟨true,[]⟩ (.int .i64 x7) [],dt,dt]) ([⟨c2⟩,⟨c2⟩,⟨(ok_wheel_order k x6.1 x6.2 x2 x3 _ e5)⟩,⟨c2⟩,⟨c2⟩,⟨(cells_map (e:=e_i64_i64) e4 2 0 2 (by decide))⟩,⟨c2⟩,⟨c3⟩,⟨(len_map e_i64_i64 x1)⟩,⟨c2⟩,⟨c2⟩,⟨c2⟩,⟨c2⟩]++w4) (by kernel_rfl)
   rw[if_neg c3] at h;replace c3:=eqf c3
   cases h
 rw[if_neg c2] at h;replace c2:=eqf c2
 obtain rfl:=osi h
 exact Tri.of (x:=X26) mixed facts26 (u3++[df,df,df,df,df,df,df,df,df]) ([⟨c2⟩,⟨c2⟩,⟨c2⟩,⟨c2⟩,⟨c2⟩,⟨c2⟩,⟨c2⟩,⟨c2⟩,⟨c2⟩]++w4) (by kernel_rfl)
end Go.Ws
