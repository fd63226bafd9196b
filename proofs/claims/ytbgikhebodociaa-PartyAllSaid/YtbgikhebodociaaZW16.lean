/-
  party_Acked: what the machine makes of it. (Printed by my own program.)
  Conditions: none.
-/
import Derived.Test.YtbgikhebodociaaZPre
import Derived.Test.YtbgikhebodociaaZPure
import Derived.Test.YtbgikhebodociaaZW13
import Derived.Test.YtbgikhebodociaaZW18
import Derived.Test.YtbgikhebodociaaZW19
set_option linter.unusedVariables false
set_option linter.unusedSimpArgs false
namespace Go.Ws
open Go.Proofs
set_option linter.unusedSimpArgs false
set_option linter.unusedVariables false
set_option maxRecDepth 1000000
set_option maxHeartbeats 4000000
noncomputable def X16 : Ctx := ⟨Try.f16, [], true⟩
theorem ok_party_Acked (k : Nat) (x1 : Int) (x2 : List (Int × ByteArray)) (x3 : Int) (x4 : Int) (r : Int × (List (Int × ByteArray)) × Int × Int) (h : party_Acked k x1 x2 x3 x4 = some r) : Tri Try.prog 16 [(.agg [(.int .i64 x1), (.sl 2 (List.map e_i64_s x2)), (.int .i64 x3)]), (.int .i64 x4)] [] (.tup [(.agg [(.int .i64 r.1), (.sl 2 (List.map e_i64_s r.2.1)), (.int .i64 r.2.2.1)]), (.int .i64 r.2.2.2)]) [] := by
    unfold party_Acked at h
    obtain ⟨x5, e0, h⟩ := Option.bind_eq_some_iff.1 h
    obtain ⟨x6, e1, h⟩ := Option.bind_eq_some_iff.1 h
    by_cases c2 : x6 = true
    · rw [if_pos c2] at h
      by_cases c3 : ltI x4 0 = true
      · rw [if_pos c3] at h
        obtain rfl := Option.some.inj h
        exact Tri.of (x := X16) mixed facts16 [.call ⟨true, []⟩ (.ref 2 0 0 0 x2.length .virt) [(.arr 2 (List.map e_i64_s x2) 0 0 false)], .call ⟨true, []⟩ (.bool x6) [], .rows (List.map e_i64_s x2), .d false, .d false, .d false, .d true, .d true, .d true, .d true, .d true, .d true, .rows (List.map e_i64_s x2)] [⟨(part_all e_i64_s (l := x2) (n := x2.length) rfl)⟩, ⟨(le_map e_i64_s (Nat.le_refl x2.length) : 0 + x2.length ≤ (List.map e_i64_s x2).length)⟩, ⟨(rfl : true = true)⟩, ⟨c3⟩, ⟨c3⟩, ⟨c3⟩, ⟨c3⟩, ⟨c3⟩, ⟨(nF c2)⟩, ⟨(nF c2)⟩, ⟨(nF c2)⟩, ⟨(ok_party_Right k x1 x2 x3 _ e1)⟩, ⟨(part_all e_i64_s (l := x2) (n := x2.length) rfl)⟩, ⟨(le_map e_i64_s (Nat.le_refl x2.length) : 0 + x2.length ≤ (List.map e_i64_s x2).length)⟩, ⟨(ok_slices_Clone k x2 _ e0)⟩] (by kernel_rfl)
      · rw [if_neg c3] at h
        replace c3 := eqf c3
        by_cases c4 : ltI x1 x4 = true
        · rw [if_pos c4] at h
          obtain rfl := Option.some.inj h
          exact Tri.of (x := X16) mixed facts16 [.call ⟨true, []⟩ (.ref 2 0 0 0 x2.length .virt) [(.arr 2 (List.map e_i64_s x2) 0 0 false)], .call ⟨true, []⟩ (.bool x6) [], .rows (List.map e_i64_s x2), .d false, .d false, .d false, .d false, .d false, .d false, .d false, .d false, .d true, .rows (List.map e_i64_s x2)] [⟨(part_all e_i64_s (l := x2) (n := x2.length) rfl)⟩, ⟨(le_map e_i64_s (Nat.le_refl x2.length) : 0 + x2.length ≤ (List.map e_i64_s x2).length)⟩, ⟨c4⟩, ⟨c3⟩, ⟨c3⟩, ⟨c3⟩, ⟨c3⟩, ⟨c3⟩, ⟨(nF c2)⟩, ⟨(nF c2)⟩, ⟨(nF c2)⟩, ⟨(ok_party_Right k x1 x2 x3 _ e1)⟩, ⟨(part_all e_i64_s (l := x2) (n := x2.length) rfl)⟩, ⟨(le_map e_i64_s (Nat.le_refl x2.length) : 0 + x2.length ≤ (List.map e_i64_s x2).length)⟩, ⟨(ok_slices_Clone k x2 _ e0)⟩] (by kernel_rfl)
        · rw [if_neg c4] at h
          replace c4 := eqf c4
          obtain ⟨x7, e5, h⟩ := Option.bind_eq_some_iff.1 h
          by_cases c6 : capI x7.1 x7.2.length = true
          · rw [if_pos c6] at h
            obtain rfl := Option.some.inj h
            exact Tri.of (x := X16) mixed facts16 [.call ⟨true, []⟩ (.ref 2 0 0 0 x2.length .virt) [(.arr 2 (List.map e_i64_s x2) 0 0 false)], .call ⟨true, []⟩ (.bool x6) [], .rows (List.map e_i64_s x2), .d false, .d false, .d false, .d false, .d false, .d false, .d false, .d false, .d false, .call ⟨false, []⟩ (.ref 2 0 0 0 x7.1 .virt) [(.arr 2 (List.map e_i64_s x7.2) 0 0 false), (.row [(.int .i64 x4)])], .rows (List.map e_i64_s (List.take x7.1 x7.2))] [⟨(part_take e_i64_s x7.2 x7.1)⟩, ⟨(le_map e_i64_s (cap_le c6))⟩, ⟨(ok_slices_DeleteFunc k x2 x4 _ e5)⟩, ⟨c4⟩, ⟨c3⟩, ⟨c3⟩, ⟨c3⟩, ⟨c3⟩, ⟨c3⟩, ⟨(nF c2)⟩, ⟨(nF c2)⟩, ⟨(nF c2)⟩, ⟨(ok_party_Right k x1 x2 x3 _ e1)⟩, ⟨(part_all e_i64_s (l := x2) (n := x2.length) rfl)⟩, ⟨(le_map e_i64_s (Nat.le_refl x2.length) : 0 + x2.length ≤ (List.map e_i64_s x2).length)⟩, ⟨(ok_slices_Clone k x2 _ e0)⟩] (by kernel_rfl)
          · rw [if_neg c6] at h
            replace c6 := eqf c6
            cases h
    · rw [if_neg c2] at h
      replace c2 := eqf c2
      obtain rfl := Option.some.inj h
      exact Tri.of (x := X16) mixed facts16 [.call ⟨true, []⟩ (.ref 2 0 0 0 x2.length .virt) [(.arr 2 (List.map e_i64_s x2) 0 0 false)], .call ⟨true, []⟩ (.bool x6) [], .rows (List.map e_i64_s x2), .d true, .d true, .d true, .d true, .d true, .d true, .d true, .d true, .d true, .rows (List.map e_i64_s x2)] [⟨(part_all e_i64_s (l := x2) (n := x2.length) rfl)⟩, ⟨(le_map e_i64_s (Nat.le_refl x2.length) : 0 + x2.length ≤ (List.map e_i64_s x2).length)⟩, ⟨(rfl : true = true)⟩, ⟨(rfl : true = true)⟩, ⟨(rfl : true = true)⟩, ⟨(rfl : true = true)⟩, ⟨(rfl : true = true)⟩, ⟨(rfl : true = true)⟩, ⟨(nT c2)⟩, ⟨(nT c2)⟩, ⟨(nT c2)⟩, ⟨(ok_party_Right k x1 x2 x3 _ e1)⟩, ⟨(part_all e_i64_s (l := x2) (n := x2.length) rfl)⟩, ⟨(le_map e_i64_s (Nat.le_refl x2.length) : 0 + x2.length ≤ (List.map e_i64_s x2).length)⟩, ⟨(ok_slices_Clone k x2 _ e0)⟩] (by kernel_rfl)
end Go.Ws
