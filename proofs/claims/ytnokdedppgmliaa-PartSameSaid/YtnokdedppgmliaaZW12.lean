/-
  part_Right: what the machine makes of it. (Printed by my own program.)
  Conditions: none.
-/
import Derived.Test.YtnokdedppgmliaaZPre
import Derived.Test.YtnokdedppgmliaaZPure
import Derived.Test.YtnokdedppgmliaaZW27
set_option linter.unusedVariables false
set_option linter.unusedSimpArgs false
namespace Go.Ws
open Go.Proofs
set_option linter.unusedSimpArgs false
set_option linter.unusedVariables false
set_option maxRecDepth 1000000
set_option maxHeartbeats 4000000
noncomputable def X12 : Ctx := ⟨Try.f12, [], true⟩
theorem ok_part_Right (k : Nat) (x1 : Int) (x2 : List (Int × Int)) (x3 : Bool) (x4 : Int) (r : Bool) (h : part_Right k x1 x2 x3 x4 = some r) : Tri Try.prog 12 [(.agg [(.int .i64 x1), (.sl 2 (List.map e_u8_i64 x2)), (.bool x3), (.int .i64 x4)])] [] (.bool r) [] := by
    unfold part_Right at h
    by_cases c0 : ltI x1 0 = true
    · rw [if_pos c0] at h
      obtain rfl := Option.some.inj h
      exact Tri.of (x := X12) mixed facts12 [.d true, .d true, .d true, .d true, .d true, .d true, .d true, .d true, .d true, .d true, .d true, .d true, .d true, .d true] [⟨(rfl : true = true)⟩, ⟨(rfl : true = true)⟩, ⟨(rfl : true = true)⟩, ⟨(rfl : true = true)⟩, ⟨(rfl : true = true)⟩, ⟨(rfl : true = true)⟩, ⟨(rfl : true = true)⟩, ⟨(rfl : true = true)⟩, ⟨(rfl : true = true)⟩, ⟨(rfl : true = true)⟩, ⟨c0⟩, ⟨c0⟩, ⟨c0⟩, ⟨c0⟩] (by kernel_rfl)
    · rw [if_neg c0] at h
      replace c0 := eqf c0
      by_cases c1 : ltI 3 x1 = true
      · rw [if_pos c1] at h
        obtain rfl := Option.some.inj h
        exact Tri.of (x := X12) mixed facts12 [.d false, .d false, .d false, .d false, .d true, .d true, .d true, .d true, .d true, .d true, .d true, .d true, .d true, .d true] [⟨(rfl : true = true)⟩, ⟨(rfl : true = true)⟩, ⟨(rfl : true = true)⟩, ⟨(rfl : true = true)⟩, ⟨(rfl : true = true)⟩, ⟨c1⟩, ⟨c1⟩, ⟨c1⟩, ⟨c1⟩, ⟨c1⟩, ⟨c0⟩, ⟨c0⟩, ⟨c0⟩, ⟨c0⟩] (by kernel_rfl)
      · rw [if_neg c1] at h
        replace c1 := eqf c1
        by_cases c2 : ltI 50 (nI x2.length) = true
        · rw [if_pos c2] at h
          obtain rfl := Option.some.inj h
          exact Tri.of (x := X12) mixed facts12 [.d false, .d false, .d false, .d false, .d false, .d false, .d false, .n x2.length, .d false, .d false, .d true, .d true, .d true, .d true, .d true] [⟨(rfl : true = true)⟩, ⟨c2⟩, ⟨c2⟩, ⟨c2⟩, ⟨c2⟩, ⟨c1⟩, ⟨c1⟩, ⟨(len_map e_u8_i64 x2)⟩, ⟨c1⟩, ⟨c1⟩, ⟨c1⟩, ⟨c0⟩, ⟨c0⟩, ⟨c0⟩, ⟨c0⟩] (by kernel_rfl)
        · rw [if_neg c2] at h
          replace c2 := eqf c2
          obtain ⟨x5, e3, h⟩ := Option.bind_eq_some_iff.1 h
          by_cases c4 : x5 = true
          · rw [if_pos c4] at h
            obtain rfl := Option.some.inj h
            exact Tri.of (x := X12) mixed facts12 [.d false, .d false, .d false, .d false, .d false, .d false, .d false, .n x2.length, .d false, .d false, .d false, .d false, .d false, .call ⟨true, []⟩ (.bool x5) [], .d false, .d true] [⟨c4⟩, ⟨c2⟩, ⟨(ok_slices_ContainsFunc k x2 _ e3)⟩, ⟨c2⟩, ⟨c2⟩, ⟨c2⟩, ⟨c1⟩, ⟨c1⟩, ⟨(len_map e_u8_i64 x2)⟩, ⟨c1⟩, ⟨c1⟩, ⟨c1⟩, ⟨c0⟩, ⟨c0⟩, ⟨c0⟩, ⟨c0⟩] (by kernel_rfl)
          · rw [if_neg c4] at h
            replace c4 := eqf c4
            by_cases c5 : eqI x4 1 = true
            · rw [if_pos c5] at h
              by_cases c6 : eqI x1 3 = true
              · rw [if_pos c6] at h
                obtain rfl := Option.some.inj h
                exact Tri.of (x := X12) mixed facts12 [.d false, .d false, .d false, .d false, .d false, .d false, .d false, .n x2.length, .d false, .d false, .d false, .d false, .d false, .call ⟨true, []⟩ (.bool x5) [], .d false, .d false, .d true, .d true, .d true, .d true, .d true] [⟨c6⟩, ⟨c5⟩, ⟨c5⟩, ⟨c5⟩, ⟨c5⟩, ⟨c4⟩, ⟨c2⟩, ⟨(ok_slices_ContainsFunc k x2 _ e3)⟩, ⟨c2⟩, ⟨c2⟩, ⟨c2⟩, ⟨c1⟩, ⟨c1⟩, ⟨(len_map e_u8_i64 x2)⟩, ⟨c1⟩, ⟨c1⟩, ⟨c1⟩, ⟨c0⟩, ⟨c0⟩, ⟨c0⟩, ⟨c0⟩] (by kernel_rfl)
              · rw [if_neg c6] at h
                replace c6 := eqf c6
                by_cases c7 : eqI x4 0 = true
                · rw [if_pos c7] at h
                  by_cases c8 : x3 = true
                  · rw [if_pos c8] at h
                    obtain rfl := Option.some.inj h
                    exact Tri.of (x := X12) mixed facts12 [.d false, .d false, .d false, .d false, .d false, .d false, .d false, .n x2.length, .d false, .d false, .d false, .d false, .d false, .call ⟨true, []⟩ (.bool x5) [], .d false, .d false, .d true, .d true, .d true, .d true, .d false, .d true, .d true, .d true, .d true, .d false, .d false, .d false, .d true, .d false, .d true] [⟨c7⟩, ⟨(nF c8)⟩, ⟨c7⟩, ⟨(nF c8)⟩, ⟨(nF c8)⟩, ⟨(nF c8)⟩, ⟨c7⟩, ⟨c7⟩, ⟨c7⟩, ⟨c7⟩, ⟨c6⟩, ⟨c5⟩, ⟨c5⟩, ⟨c5⟩, ⟨c5⟩, ⟨c4⟩, ⟨c2⟩, ⟨(ok_slices_ContainsFunc k x2 _ e3)⟩, ⟨c2⟩, ⟨c2⟩, ⟨c2⟩, ⟨c1⟩, ⟨c1⟩, ⟨(len_map e_u8_i64 x2)⟩, ⟨c1⟩, ⟨c1⟩, ⟨c1⟩, ⟨c0⟩, ⟨c0⟩, ⟨c0⟩, ⟨c0⟩] (by kernel_rfl)
                  · rw [if_neg c8] at h
                    replace c8 := eqf c8
                    obtain rfl := Option.some.inj h
                    exact Tri.of (x := X12) mixed facts12 [.d false, .d false, .d false, .d false, .d false, .d false, .d false, .n x2.length, .d false, .d false, .d false, .d false, .d false, .call ⟨true, []⟩ (.bool x5) [], .d false, .d false, .d true, .d true, .d true, .d true, .d false, .d true, .d true, .d true, .d true, .d true, .d true, .d true, .d true, .d true, .d true] [⟨c7⟩, ⟨(nT c8)⟩, ⟨c7⟩, ⟨(nT c8)⟩, ⟨(nT c8)⟩, ⟨(nT c8)⟩, ⟨c7⟩, ⟨c7⟩, ⟨c7⟩, ⟨c7⟩, ⟨c6⟩, ⟨c5⟩, ⟨c5⟩, ⟨c5⟩, ⟨c5⟩, ⟨c4⟩, ⟨c2⟩, ⟨(ok_slices_ContainsFunc k x2 _ e3)⟩, ⟨c2⟩, ⟨c2⟩, ⟨c2⟩, ⟨c1⟩, ⟨c1⟩, ⟨(len_map e_u8_i64 x2)⟩, ⟨c1⟩, ⟨c1⟩, ⟨c1⟩, ⟨c0⟩, ⟨c0⟩, ⟨c0⟩, ⟨c0⟩] (by kernel_rfl)
                · rw [if_neg c7] at h
                  replace c7 := eqf c7
                  obtain rfl := Option.some.inj h
                  exact Tri.of (x := X12) mixed facts12 [.d false, .d false, .d false, .d false, .d false, .d false, .d false, .n x2.length, .d false, .d false, .d false, .d false, .d false, .call ⟨true, []⟩ (.bool x5) [], .d false, .d false, .d true, .d true, .d true, .d true, .d false, .d false, .d false, .d false, .d false, .d false, .d false] [⟨c7⟩, ⟨c7⟩, ⟨c7⟩, ⟨c7⟩, ⟨c7⟩, ⟨c7⟩, ⟨c6⟩, ⟨c5⟩, ⟨c5⟩, ⟨c5⟩, ⟨c5⟩, ⟨c4⟩, ⟨c2⟩, ⟨(ok_slices_ContainsFunc k x2 _ e3)⟩, ⟨c2⟩, ⟨c2⟩, ⟨c2⟩, ⟨c1⟩, ⟨c1⟩, ⟨(len_map e_u8_i64 x2)⟩, ⟨c1⟩, ⟨c1⟩, ⟨c1⟩, ⟨c0⟩, ⟨c0⟩, ⟨c0⟩, ⟨c0⟩] (by kernel_rfl)
            · rw [if_neg c5] at h
              replace c5 := eqf c5
              by_cases c6 : eqI x1 3 = true
              · rw [if_pos c6] at h
                obtain rfl := Option.some.inj h
                exact Tri.of (x := X12) mixed facts12 [.d false, .d false, .d false, .d false, .d false, .d false, .d false, .n x2.length, .d false, .d false, .d false, .d false, .d false, .call ⟨true, []⟩ (.bool x5) [], .d false, .d false, .d false, .d false, .d false, .d false, .d true] [⟨c6⟩, ⟨c5⟩, ⟨c5⟩, ⟨c5⟩, ⟨c5⟩, ⟨c4⟩, ⟨c2⟩, ⟨(ok_slices_ContainsFunc k x2 _ e3)⟩, ⟨c2⟩, ⟨c2⟩, ⟨c2⟩, ⟨c1⟩, ⟨c1⟩, ⟨(len_map e_u8_i64 x2)⟩, ⟨c1⟩, ⟨c1⟩, ⟨c1⟩, ⟨c0⟩, ⟨c0⟩, ⟨c0⟩, ⟨c0⟩] (by kernel_rfl)
              · rw [if_neg c6] at h
                replace c6 := eqf c6
                by_cases c7 : eqI x4 0 = true
                · rw [if_pos c7] at h
                  by_cases c8 : x3 = true
                  · rw [if_pos c8] at h
                    obtain rfl := Option.some.inj h
                    exact Tri.of (x := X12) mixed facts12 [.d false, .d false, .d false, .d false, .d false, .d false, .d false, .n x2.length, .d false, .d false, .d false, .d false, .d false, .call ⟨true, []⟩ (.bool x5) [], .d false, .d false, .d false, .d false, .d false, .d false, .d false, .d true, .d true, .d true, .d true, .d false, .d false, .d false, .d true, .d false, .d true] [⟨c7⟩, ⟨(nF c8)⟩, ⟨c7⟩, ⟨(nF c8)⟩, ⟨(nF c8)⟩, ⟨(nF c8)⟩, ⟨c7⟩, ⟨c7⟩, ⟨c7⟩, ⟨c7⟩, ⟨c6⟩, ⟨c5⟩, ⟨c5⟩, ⟨c5⟩, ⟨c5⟩, ⟨c4⟩, ⟨c2⟩, ⟨(ok_slices_ContainsFunc k x2 _ e3)⟩, ⟨c2⟩, ⟨c2⟩, ⟨c2⟩, ⟨c1⟩, ⟨c1⟩, ⟨(len_map e_u8_i64 x2)⟩, ⟨c1⟩, ⟨c1⟩, ⟨c1⟩, ⟨c0⟩, ⟨c0⟩, ⟨c0⟩, ⟨c0⟩] (by kernel_rfl)
                  · rw [if_neg c8] at h
                    replace c8 := eqf c8
                    obtain rfl := Option.some.inj h
                    exact Tri.of (x := X12) mixed facts12 [.d false, .d false, .d false, .d false, .d false, .d false, .d false, .n x2.length, .d false, .d false, .d false, .d false, .d false, .call ⟨true, []⟩ (.bool x5) [], .d false, .d false, .d false, .d false, .d false, .d false, .d false, .d true, .d true, .d true, .d true, .d true, .d true, .d true, .d true, .d true, .d true] [⟨c7⟩, ⟨(nT c8)⟩, ⟨c7⟩, ⟨(nT c8)⟩, ⟨(nT c8)⟩, ⟨(nT c8)⟩, ⟨c7⟩, ⟨c7⟩, ⟨c7⟩, ⟨c7⟩, ⟨c6⟩, ⟨c5⟩, ⟨c5⟩, ⟨c5⟩, ⟨c5⟩, ⟨c4⟩, ⟨c2⟩, ⟨(ok_slices_ContainsFunc k x2 _ e3)⟩, ⟨c2⟩, ⟨c2⟩, ⟨c2⟩, ⟨c1⟩, ⟨c1⟩, ⟨(len_map e_u8_i64 x2)⟩, ⟨c1⟩, ⟨c1⟩, ⟨c1⟩, ⟨c0⟩, ⟨c0⟩, ⟨c0⟩, ⟨c0⟩] (by kernel_rfl)
                · rw [if_neg c7] at h
                  replace c7 := eqf c7
                  obtain rfl := Option.some.inj h
                  exact Tri.of (x := X12) mixed facts12 [.d false, .d false, .d false, .d false, .d false, .d false, .d false, .n x2.length, .d false, .d false, .d false, .d false, .d false, .call ⟨true, []⟩ (.bool x5) [], .d false, .d false, .d false, .d false, .d false, .d false, .d false, .d false, .d false, .d false, .d false, .d false, .d false] [⟨c7⟩, ⟨c7⟩, ⟨c7⟩, ⟨c7⟩, ⟨c7⟩, ⟨c7⟩, ⟨c6⟩, ⟨c5⟩, ⟨c5⟩, ⟨c5⟩, ⟨c5⟩, ⟨c4⟩, ⟨c2⟩, ⟨(ok_slices_ContainsFunc k x2 _ e3)⟩, ⟨c2⟩, ⟨c2⟩, ⟨c2⟩, ⟨c1⟩, ⟨c1⟩, ⟨(len_map e_u8_i64 x2)⟩, ⟨c1⟩, ⟨c1⟩, ⟨c1⟩, ⟨c0⟩, ⟨c0⟩, ⟨c0⟩, ⟨c0⟩] (by kernel_rfl)
end Go.Ws
