/-
  slices_Clone_1001: what the machine makes of it. (Printed by my own program.)
  Conditions: none.
-/
import Derived.Test.YtgaodljkmdafdaaZPre
import Derived.Test.YtgaodljkmdafdaaZPure
set_option linter.unusedVariables false
set_option linter.unusedSimpArgs false
namespace Go.Ws
open Go.Proofs
set_option linter.unusedSimpArgs false
set_option linter.unusedVariables false
set_option maxRecDepth 1000000
set_option maxHeartbeats 4000000
noncomputable def X24_1001:Ctx:=⟨Try.f24,[],false⟩
theorem ok_slices_Clone_1001 (k:Nat) (x1:Ty1) (r:Unit) (h:slices_Clone_1001 k x1=some r):Tri Try.prog 24 [(.inl 2 (List.map e_i64_i64 x1))] [] (.ref 2 0 0 0 x1.length .virt) [(.arr 2 (List.map e_i64_i64 x1) 0 0 false)]:=by
 unfold slices_Clone_1001 at h
 by_cases c0:roomI (x1.length*16)=true
 · rw[if_pos c0] at h
   obtain rfl:=osi h
   exact Tri.of (x:=X24_1001) mixed facts24 [df,.n x1.length,.norm 0 ⟨[(2,[])],[⟨.tmp 2,[],some 2⟩],false,[],[]⟩,.n x1.length,.rows (List.map e_i64_i64 x1)] [⟨(take_all e_i64_i64 (l:=x1) (n:=x1.length) rfl)⟩,⟨(rfl:x1.length=x1.length)⟩,⟨(zle x1.length)⟩,⟨c0⟩,⟨(len_map e_i64_i64 x1)⟩,⟨rF⟩] (by kernel_rfl)
 rw[if_neg c0] at h;replace c0:=eqf c0
 cases h
end Go.Ws
