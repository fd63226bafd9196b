/-
  slices_Clone_1002: what the machine makes of it. (Printed by my own program.)
  Conditions: none.
-/
import Derived.Test.YtgaodljkmdafdaaZPre
import Derived.Test.YtgaodljkmdafdaaZPure
set_option linter.unusedVariables false
set_option linter.unusedSimpArgs false
namespace Go.Ws
open Go.Proofs
set_option linter.unusedSimpArgs false
set_option linter.unusedVariables false
set_option maxRecDepth 1000000
set_option maxHeartbeats 4000000
noncomputable def X24_1002:Ctx:=⟨Try.f24,[],false⟩
theorem ok_slices_Clone_1002:Tri Try.prog 24 [.nils] [] (.ref 2 0 0 0 0 .virt) [(.arr 2 (List.map e_i64_i64 []) 0 0 false)]:=by
 obtain⟨r,h⟩:∃r,slices_Clone_1002=r:=⟨_,rfl⟩
 try rw[h]
 unfold slices_Clone_1002 at h
 obtain rfl:=h
 exact Tri.of (x:=X24_1002) mixed facts24 [dt,.norm 0 ⟨[(2,[])],[⟨.tmp 2,[],some 2⟩],false,[],[]⟩,.n 0,.rows (List.map e_i64_i64 [])] [⟨(take_all e_i64_i64 (l:=[]) (n:=0) rfl)⟩,⟨(rfl:0=0)⟩,⟨(zle 0)⟩,⟨rT⟩] (by kernel_rfl)
end Go.Ws
