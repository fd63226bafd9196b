/-
  wheel_order: what the machine makes of it. (Printed by my own program.)
  Conditions: none.
-/
import Derived.Test.YtgaodljkmdafdaaZPre
import Derived.Test.YtgaodljkmdafdaaZPure
import Derived.Test.YtgaodljkmdafdaaZW34
import Derived.Test.YtgaodljkmdafdaaZW35
import Derived.Test.YtgaodljkmdafdaaZW36
set_option linter.unusedVariables false
set_option linter.unusedSimpArgs false
namespace Go.Ws
open Go.Proofs
set_option linter.unusedSimpArgs false
set_option linter.unusedVariables false
set_option maxRecDepth 1000000
set_option maxHeartbeats 4000000
noncomputable def X27:Ctx:=⟨Try.f27,[],true⟩
theorem ok_wheel_order (k:Nat) (x1:Int) (x2:Int) (x3:Int) (x4:Int) (r:Int) (h:wheel_order k x1 x2 x3 x4=some r):Tri Try.prog 27 [(.agg [(.int .i64 x1),(.int .i64 x2)]),(.agg [(.int .i64 x3),(.int .i64 x4)])] [] (.int .i64 r) []:=by
 unfold wheel_order at h
 obtain⟨x5,e0,h⟩:=bsm h
 obtain rfl:=osi h
 exact Tri.of (x:=X27) mixed facts27 [.call ⟨true,[]⟩ (.int .i64 (cmp_Compare x2 x4)) [],.call ⟨true,[]⟩ (.int .i64 (cmp_Compare_36 x1 x3)) [],.call ⟨true,[]⟩ (.int .i64 x5) [],.rows (List.map e_i64 [(cmp_Compare x2 x4),(cmp_Compare_36 x1 x3)])] [⟨(ok_cmp_Or k [(cmp_Compare x2 x4),(cmp_Compare_36 x1 x3)] _ e0)⟩,⟨(part_all e_i64 (l:=[(cmp_Compare x2 x4),(cmp_Compare_36 x1 x3)]) (n:=2) rfl)⟩,⟨(le_map e_i64 (Nat.le_refl 2):0+2≤(List.map e_i64 [(cmp_Compare x2 x4),(cmp_Compare_36 x1 x3)]).length)⟩,⟨(ok_cmp_Compare_36 x1 x3)⟩,⟨(ok_cmp_Compare x2 x4)⟩] (by kernel_rfl)
end Go.Ws
