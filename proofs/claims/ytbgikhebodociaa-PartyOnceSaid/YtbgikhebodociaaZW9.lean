/-
  party_Hear: what the machine makes of it. (Printed by my own program.)
  Conditions: none.
-/
import Derived.Test.YtbgikhebodociaaZPre
import Derived.Test.YtbgikhebodociaaZPure
import Derived.Test.YtbgikhebodociaaZW17
set_option linter.unusedVariables false
set_option linter.unusedSimpArgs false
namespace Go.Ws
open Go.Proofs
set_option linter.unusedSimpArgs false
set_option linter.unusedVariables false
set_option maxRecDepth 1000000
set_option maxHeartbeats 4000000
noncomputable def X9 : Ctx := ⟨Try.f9, [], true⟩
theorem ok_party_Hear (x1 : Int) (x2 : Int) (x3 : ByteArray) : Tri Try.prog 9 [(.agg [(.int .i64 x1)]), (.agg [(.int .i64 x2), (.str x3)])] [] (.tup [(.agg [(.int .i64 ((party_Hear x1 x2 x3).1))]), (.str ((party_Hear x1 x2 x3).2.1)), (.int .i64 ((party_Hear x1 x2 x3).2.2))]) [] := by
    obtain ⟨r, h⟩ : ∃ r, party_Hear x1 x2 x3 = r := ⟨_, rfl⟩
    try rw [h]
    unfold party_Hear at h
    by_cases c0 : (party_numbered x1) = true
    · rw [if_pos c0] at h
      by_cases c1 : (party_numbered x2) = true
      · rw [if_pos c1] at h
        by_cases c2 : ltI 500 (ssz x3) = true
        · rw [if_pos c2] at h
          obtain rfl := h
          exact Tri.of (x := X9) mixed facts9 [.call ⟨true, []⟩ (.bool (party_numbered x1)) [], .d false, .d false, .d false, .call ⟨true, []⟩ (.bool (party_numbered x2)) [], .d false, .d false, .d false, .d false, .d false, .d false, .d false, .d true] [⟨c2⟩, ⟨(nF c1)⟩, ⟨(nF c1)⟩, ⟨(nF c1)⟩, ⟨(nF c1)⟩, ⟨(nF c1)⟩, ⟨(nF c0)⟩, ⟨(nF c0)⟩, ⟨(ok_party_numbered x2)⟩, ⟨(nF c0)⟩, ⟨(nF c0)⟩, ⟨(nF c0)⟩, ⟨(ok_party_numbered x1)⟩] (by kernel_rfl)
        · rw [if_neg c2] at h
          replace c2 := eqf c2
          by_cases c3 : ltI x2 x1 = true
          · rw [if_pos c3] at h
            obtain rfl := h
            exact Tri.of (x := X9) mixed facts9 [.call ⟨true, []⟩ (.bool (party_numbered x1)) [], .d false, .d false, .d false, .call ⟨true, []⟩ (.bool (party_numbered x2)) [], .d false, .d false, .d false, .d false, .d false, .d false, .d false, .d false, .d true] [⟨c3⟩, ⟨c2⟩, ⟨(nF c1)⟩, ⟨(nF c1)⟩, ⟨(nF c1)⟩, ⟨(nF c1)⟩, ⟨(nF c1)⟩, ⟨(nF c0)⟩, ⟨(nF c0)⟩, ⟨(ok_party_numbered x2)⟩, ⟨(nF c0)⟩, ⟨(nF c0)⟩, ⟨(nF c0)⟩, ⟨(ok_party_numbered x1)⟩] (by kernel_rfl)
          · rw [if_neg c3] at h
            replace c3 := eqf c3
            by_cases c4 : ltI x1 x2 = true
            · rw [if_pos c4] at h
              obtain rfl := h
              exact Tri.of (x := X9) mixed facts9 [.call ⟨true, []⟩ (.bool (party_numbered x1)) [], .d false, .d false, .d false, .call ⟨true, []⟩ (.bool (party_numbered x2)) [], .d false, .d false, .d false, .d false, .d false, .d false, .d false, .d false, .d false, .d true] [⟨c4⟩, ⟨c3⟩, ⟨c2⟩, ⟨(nF c1)⟩, ⟨(nF c1)⟩, ⟨(nF c1)⟩, ⟨(nF c1)⟩, ⟨(nF c1)⟩, ⟨(nF c0)⟩, ⟨(nF c0)⟩, ⟨(ok_party_numbered x2)⟩, ⟨(nF c0)⟩, ⟨(nF c0)⟩, ⟨(nF c0)⟩, ⟨(ok_party_numbered x1)⟩] (by kernel_rfl)
            · rw [if_neg c4] at h
              replace c4 := eqf c4
              obtain rfl := h
              exact Tri.of (x := X9) mixed facts9 [.call ⟨true, []⟩ (.bool (party_numbered x1)) [], .d false, .d false, .d false, .call ⟨true, []⟩ (.bool (party_numbered x2)) [], .d false, .d false, .d false, .d false, .d false, .d false, .d false, .d false, .d false, .d false] [⟨c4⟩, ⟨c3⟩, ⟨c2⟩, ⟨(nF c1)⟩, ⟨(nF c1)⟩, ⟨(nF c1)⟩, ⟨(nF c1)⟩, ⟨(nF c1)⟩, ⟨(nF c0)⟩, ⟨(nF c0)⟩, ⟨(ok_party_numbered x2)⟩, ⟨(nF c0)⟩, ⟨(nF c0)⟩, ⟨(nF c0)⟩, ⟨(ok_party_numbered x1)⟩] (by kernel_rfl)
      · rw [if_neg c1] at h
        replace c1 := eqf c1
        obtain rfl := h
        exact Tri.of (x := X9) mixed facts9 [.call ⟨true, []⟩ (.bool (party_numbered x1)) [], .d false, .d false, .d false, .call ⟨true, []⟩ (.bool (party_numbered x2)) [], .d false, .d false, .d true, .d true, .d true, .d true, .d true, .d true] [⟨(rfl : true = true)⟩, ⟨(nT c1)⟩, ⟨(nT c1)⟩, ⟨(nT c1)⟩, ⟨(nT c1)⟩, ⟨(nT c1)⟩, ⟨(nF c0)⟩, ⟨(nF c0)⟩, ⟨(ok_party_numbered x2)⟩, ⟨(nF c0)⟩, ⟨(nF c0)⟩, ⟨(nF c0)⟩, ⟨(ok_party_numbered x1)⟩] (by kernel_rfl)
    · rw [if_neg c0] at h
      replace c0 := eqf c0
      obtain rfl := h
      exact Tri.of (x := X9) mixed facts9 [.call ⟨true, []⟩ (.bool (party_numbered x1)) [], .d true, .d true, .d true, .d true, .d true, .d true, .d true, .d true, .d true, .d true, .d true] [⟨(rfl : true = true)⟩, ⟨(rfl : true = true)⟩, ⟨(rfl : true = true)⟩, ⟨(rfl : true = true)⟩, ⟨(rfl : true = true)⟩, ⟨(rfl : true = true)⟩, ⟨(nT c0)⟩, ⟨(nT c0)⟩, ⟨(nT c0)⟩, ⟨(nT c0)⟩, ⟨(nT c0)⟩, ⟨(ok_party_numbered x1)⟩] (by kernel_rfl)
end Go.Ws
