/-
  lock_order: what the machine makes of it. (Printed by my own program.)
  Conditions: none.
-/
import Derived.Test.YtmjllcefknaneaaZPre
import Derived.Test.YtmjllcefknaneaaZPure
import Derived.Test.YtmjllcefknaneaaZW32
import Derived.Test.YtmjllcefknaneaaZW33
import Derived.Test.YtmjllcefknaneaaZW34
set_option linter.unusedVariables false
set_option linter.unusedSimpArgs false
namespace Go.Ws
open Go.Proofs
set_option linter.unusedSimpArgs false
set_option linter.unusedVariables false
set_option maxRecDepth 1000000
set_option maxHeartbeats 4000000
noncomputable def X25 : Ctx := ⟨Try.f25, [], true⟩
theorem ok_lock_order (k : Nat) (x1 : Int) (x2 : Int) (x3 : Bool) (x4 : Int) (x5 : Int) (x6 : Bool) (r : Int) (h : lock_order k x1 x2 x3 x4 x5 x6 = some r) : Tri Try.prog 25 [(.agg [(.int .u8 x1), (.int .i64 x2), (.bool x3)]), (.agg [(.int .u8 x4), (.int .i64 x5), (.bool x6)])] [] (.int .i64 r) [] := by
    unfold lock_order at h
    obtain ⟨x7, e0, h⟩ := Option.bind_eq_some_iff.1 h
    obtain rfl := Option.some.inj h
    exact Tri.of (x := X25) mixed facts25 [.call ⟨true, []⟩ (.int .i64 (cmp_Compare x1 x4)) [], .call ⟨true, []⟩ (.int .i64 (cmp_Compare_34 x2 x5)) [], .call ⟨true, []⟩ (.int .i64 x7) [], .rows (List.map e_i64 [(cmp_Compare x1 x4), (cmp_Compare_34 x2 x5)])] [⟨(ok_cmp_Or k [(cmp_Compare x1 x4), (cmp_Compare_34 x2 x5)] _ e0)⟩, ⟨(part_all e_i64 (l := [(cmp_Compare x1 x4), (cmp_Compare_34 x2 x5)]) (n := 2) rfl)⟩, ⟨(le_map e_i64 (Nat.le_refl 2) : 0 + 2 ≤ (List.map e_i64 [(cmp_Compare x1 x4), (cmp_Compare_34 x2 x5)]).length)⟩, ⟨(ok_cmp_Compare_34 x2 x5)⟩, ⟨(ok_cmp_Compare x1 x4)⟩] (by kernel_rfl)
end Go.Ws
