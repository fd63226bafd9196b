/-
  lock_Holds: what the machine makes of it. (Printed by my own program.)
  Conditions: none.
-/
import Derived.Test.YtmjllcefknaneaaZPre
import Derived.Test.YtmjllcefknaneaaZPure
import Derived.Test.YtmjllcefknaneaaZW30
set_option linter.unusedVariables false
set_option linter.unusedSimpArgs false
namespace Go.Ws
open Go.Proofs
set_option linter.unusedSimpArgs false
set_option linter.unusedVariables false
set_option maxRecDepth 1000000
set_option maxHeartbeats 4000000
noncomputable def X20 : Ctx := ⟨Try.f20, [], true⟩
theorem ok_lock_Holds (k : Nat) (x1 : List (Int × Int × Bool)) (x2 : Int) (x3 : Int) (r : Int) (h : lock_Holds k x1 x2 x3 = some r) : Tri Try.prog 20 [(.sl 3 (List.map e_u8_i64_b x1)), (.int .i64 x2), (.int .u8 x3)] [] (.int .i64 r) [] := by
    unfold lock_Holds at h
    obtain ⟨x4, e0, h⟩ := Option.bind_eq_some_iff.1 h
    by_cases c1 : ltI x4 0 = true
    · rw [if_pos c1] at h
      obtain rfl := Option.some.inj h
      exact Tri.of (x := X20) mixed facts20 [.call ⟨true, []⟩ (.int .i64 x4) [(.row [(.int .u8 x3)]), (.row [(.int .i64 x2)])], .d true] [⟨c1⟩, ⟨(ok_slices_IndexFunc k x1 x3 x2 _ e0)⟩] (by kernel_rfl)
    · rw [if_neg c1] at h
      replace c1 := eqf c1
      by_cases c2 : inI x4 x1.length = true
      · rw [if_pos c2] at h
        obtain ⟨x5, e3, h⟩ := Option.bind_eq_some_iff.1 h
        by_cases c4 : x5.2.2 = true
        · rw [if_pos c4] at h
          obtain rfl := Option.some.inj h
          exact Tri.of (x := X20) mixed facts20 [.call ⟨true, []⟩ (.int .i64 x4) [(.row [(.int .u8 x3)]), (.row [(.int .i64 x2)])], .d false, .n x1.length, .row [(.bool x5.2.2)], .d true] [⟨c4⟩, ⟨(cells_map (e := e_u8_i64_b) e3 3 2 1 (by decide))⟩, ⟨c2⟩, ⟨(len_map e_u8_i64_b x1)⟩, ⟨c1⟩, ⟨(ok_slices_IndexFunc k x1 x3 x2 _ e0)⟩] (by kernel_rfl)
        · rw [if_neg c4] at h
          replace c4 := eqf c4
          obtain rfl := Option.some.inj h
          exact Tri.of (x := X20) mixed facts20 [.call ⟨true, []⟩ (.int .i64 x4) [(.row [(.int .u8 x3)]), (.row [(.int .i64 x2)])], .d false, .n x1.length, .row [(.bool x5.2.2)], .d false] [⟨c4⟩, ⟨(cells_map (e := e_u8_i64_b) e3 3 2 1 (by decide))⟩, ⟨c2⟩, ⟨(len_map e_u8_i64_b x1)⟩, ⟨c1⟩, ⟨(ok_slices_IndexFunc k x1 x3 x2 _ e0)⟩] (by kernel_rfl)
      · rw [if_neg c2] at h
        replace c2 := eqf c2
        cases h
end Go.Ws
