/-
  lock_Free: what the machine makes of it. (Printed by my own program.)
  Conditions: none.
-/
import Derived.Test.YtmjllcefknaneaaZPre
import Derived.Test.YtmjllcefknaneaaZPure
import Derived.Test.YtmjllcefknaneaaZW22
import Derived.Test.YtmjllcefknaneaaZW28
set_option linter.unusedVariables false
set_option linter.unusedSimpArgs false
namespace Go.Ws
open Go.Proofs
set_option linter.unusedSimpArgs false
set_option linter.unusedVariables false
set_option maxRecDepth 1000000
set_option maxHeartbeats 4000000
noncomputable def X18 : Ctx := ⟨Try.f18, [], true⟩
theorem ok_lock_Free (k : Nat) (x1 : List (Int × Int × Bool)) (x2 : Int) (r : (List (Int × Int × Bool))) (h : lock_Free k x1 x2 = some r) : Tri Try.prog 18 [(.sl 3 (List.map e_u8_i64_b x1)), (.int .i64 x2)] [] (.sl 3 (List.map e_u8_i64_b r)) [] := by
    unfold lock_Free at h
    obtain ⟨x3, e0, h⟩ := Option.bind_eq_some_iff.1 h
    obtain ⟨x4, e1, h⟩ := Option.bind_eq_some_iff.1 h
    by_cases c2 : capI x4.1 x4.2.length = true
    · rw [if_pos c2] at h
      obtain rfl := Option.some.inj h
      exact Tri.of (x := X18) mixed facts18 [.call ⟨true, []⟩ (.ref 3 0 0 0 x1.length .virt) [(.arr 3 (List.map e_u8_i64_b x1) 0 0 false)], .call ⟨false, []⟩ (.ref 3 0 0 0 x4.1 .virt) [(.arr 3 (List.map e_u8_i64_b x4.2) 0 0 false), (.row [(.int .i64 x2)])], .rows (List.map e_u8_i64_b (List.take x4.1 x4.2))] [⟨(part_take e_u8_i64_b x4.2 x4.1)⟩, ⟨(le_map e_u8_i64_b (cap_le c2))⟩, ⟨(ok_slices_DeleteFunc k x1 x2 _ e1)⟩, ⟨(ok_slices_Clone k x1 _ e0)⟩] (by kernel_rfl)
    · rw [if_neg c2] at h
      replace c2 := eqf c2
      cases h
end Go.Ws
