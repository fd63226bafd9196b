/-
  law03_SumSwaps: what the machine makes of it. (Printed by my own program.)
  Conditions: none.
-/
import Derived.Test.YtmpoiddaolpjgaaZPre
import Derived.Test.YtmpoiddaolpjgaaZPure
import Derived.Test.YtmpoiddaolpjgaaZW10
import Derived.Test.YtmpoiddaolpjgaaZW13
set_option linter.unusedVariables false
set_option linter.unusedSimpArgs false
namespace Go.Ws
open Go.Proofs
set_option linter.unusedSimpArgs false
set_option linter.unusedVariables false
set_option maxRecDepth 1000000
set_option maxHeartbeats 4000000
noncomputable def X9 : Ctx := ⟨Try.f9, [], true⟩
theorem ok_law03_SumSwaps (k : Nat) (x1 : List Int) (x2 : Int) (r : Bool) (h : law03_SumSwaps k x1 x2 = some r) : Tri Try.prog 9 [(.sl 1 (List.map e_u8 x1)), (.int .u16 x2)] [] (.bool r) [] := by
    unfold law03_SumSwaps at h
    obtain ⟨x3, e0, h⟩ := Option.bind_eq_some_iff.1 h
    by_cases c1 : x3 = true
    · rw [if_pos c1] at h
      by_cases c2 : ltI 3000 (nI x1.length) = true
      · rw [if_pos c2] at h
        obtain rfl := Option.some.inj h
        exact Tri.of (x := X9) mixed facts9 [.call ⟨true, []⟩ (.bool x3) [], .d false, .n x1.length, .d true, .d true, .d true, .d true, .d true] [⟨(rfl : true = true)⟩, ⟨c2⟩, ⟨c2⟩, ⟨c2⟩, ⟨c2⟩, ⟨(len_map e_u8 x1)⟩, ⟨(nF c1)⟩, ⟨(ok_law03_alive k _ e0)⟩] (by kernel_rfl)
      · rw [if_neg c2] at h
        replace c2 := eqf c2
        by_cases c3 : ltI (nI x1.length) 2 = true
        · rw [if_pos c3] at h
          obtain rfl := Option.some.inj h
          exact Tri.of (x := X9) mixed facts9 [.call ⟨true, []⟩ (.bool x3) [], .d false, .n x1.length, .d false, .d false, .n x1.length, .d false, .d false, .d true] [⟨c3⟩, ⟨c2⟩, ⟨c2⟩, ⟨(len_map e_u8 x1)⟩, ⟨c2⟩, ⟨c2⟩, ⟨(len_map e_u8 x1)⟩, ⟨(nF c1)⟩, ⟨(ok_law03_alive k _ e0)⟩] (by kernel_rfl)
        · rw [if_neg c3] at h
          replace c3 := eqf c3
          by_cases c4 : roomI (x1.length * 1) = true
          · rw [if_pos c4] at h
            by_cases c5 : eqI (isub .i64 (nI x1.length) 1) 0 = true
            · rw [if_pos c5] at h
              cases h
            · rw [if_neg c5] at h
              replace c5 := eqf c5
              by_cases c6 : inI (iadd .i64 (irem .i64 (conv .i64 x2) (isub .i64 (nI x1.length) 1)) 1) x1.length = true
              · rw [if_pos c6] at h
                obtain ⟨x4, e7, h⟩ := Option.bind_eq_some_iff.1 h
                by_cases c8 : inI (irem .i64 (conv .i64 x2) (isub .i64 (nI x1.length) 1)) x1.length = true
                · rw [if_pos c8] at h
                  obtain ⟨x5, e9, h⟩ := Option.bind_eq_some_iff.1 h
                  obtain ⟨x6, e10, h⟩ := Option.bind_eq_some_iff.1 h
                  obtain ⟨x7, e11, h⟩ := Option.bind_eq_some_iff.1 h
                  obtain ⟨x8, e12, h⟩ := Option.bind_eq_some_iff.1 h
                  obtain rfl := Option.some.inj h
                  exact Tri.of (x := X9) mixed facts9 [.call ⟨true, []⟩ (.bool x3) [], .d false, .n x1.length, .d false, .d false, .n x1.length, .d false, .d false, .d false, .n x1.length, .n x1.length, .d false, .n x1.length, .row [(.int .u8 x4)], .n x1.length, .row [(.int .u8 x5)], .rows (List.map e_u8 (List.set x1 (tN (irem .i64 (conv .i64 x2) (isub .i64 (nI x1.length) 1))) x4)), .rows (List.map e_u8 (List.set (List.set x1 (tN (irem .i64 (conv .i64 x2) (isub .i64 (nI x1.length) 1))) x4) (tN (iadd .i64 (irem .i64 (conv .i64 x2) (isub .i64 (nI x1.length) 1)) 1)) x5)), .call ⟨true, []⟩ (.int .u32 x7) [], .call ⟨true, []⟩ (.int .u32 x8) [], .rows (List.map e_u8 (List.set (List.set x1 (tN (irem .i64 (conv .i64 x2) (isub .i64 (nI x1.length) 1))) x4) (tN (iadd .i64 (irem .i64 (conv .i64 x2) (isub .i64 (nI x1.length) 1)) 1)) x5)), .n x1.length, .row [(.int .u8 x5)], .n x1.length, .row [(.int .u8 x4)]] [⟨(cells_map (e := e_u8) e7 1 0 1 (by decide))⟩, ⟨c6⟩, ⟨(len_map e_u8 x1)⟩, ⟨(cells_map (e := e_u8) e9 1 0 1 (by decide))⟩, ⟨c8⟩, ⟨(len_map e_u8 x1)⟩, ⟨(ok_sum_Sum k (List.set (List.set x1 (tN (irem .i64 (conv .i64 x2) (isub .i64 (nI x1.length) 1))) x4) (tN (iadd .i64 (irem .i64 (conv .i64 x2) (isub .i64 (nI x1.length) 1)) 1)) x5) _ e12)⟩, ⟨(part_all e_u8 (l := (List.set (List.set x1 (tN (irem .i64 (conv .i64 x2) (isub .i64 (nI x1.length) 1))) x4) (tN (iadd .i64 (irem .i64 (conv .i64 x2) (isub .i64 (nI x1.length) 1)) 1)) x5)) (n := x1.length) (by simp : x1.length = (List.set (List.set x1 (tN (irem .i64 (conv .i64 x2) (isub .i64 (nI x1.length) 1))) x4) (tN (iadd .i64 (irem .i64 (conv .i64 x2) (isub .i64 (nI x1.length) 1)) 1)) x5).length))⟩, ⟨(le_map e_u8 (Nat.le_of_eq (by simp : x1.length = (List.set (List.set x1 (tN (irem .i64 (conv .i64 x2) (isub .i64 (nI x1.length) 1))) x4) (tN (iadd .i64 (irem .i64 (conv .i64 x2) (isub .i64 (nI x1.length) 1)) 1)) x5).length)))⟩, ⟨(ok_sum_Sum k x1 _ e11)⟩, ⟨(store_map (e := e_u8) e10 0 [(.int .u8 x5)] x5 rfl)⟩, ⟨c6⟩, ⟨(store_map (e := e_u8) e9 0 [(.int .u8 x4)] x4 rfl)⟩, ⟨c8⟩, ⟨(cells_map (e := e_u8) e9 1 0 1 (by decide))⟩, ⟨c8⟩, ⟨(len_map e_u8 x1)⟩, ⟨(cells_map (e := e_u8) e7 1 0 1 (by decide))⟩, ⟨c6⟩, ⟨(len_map e_u8 x1)⟩, ⟨c5⟩, ⟨(len_map e_u8 x1)⟩, ⟨c4⟩, ⟨(len_map e_u8 x1)⟩, ⟨c3⟩, ⟨c2⟩, ⟨c2⟩, ⟨(len_map e_u8 x1)⟩, ⟨c2⟩, ⟨c2⟩, ⟨(len_map e_u8 x1)⟩, ⟨(nF c1)⟩, ⟨(ok_law03_alive k _ e0)⟩] (by kernel_rfl)
                · rw [if_neg c8] at h
                  replace c8 := eqf c8
                  cases h
              · rw [if_neg c6] at h
                replace c6 := eqf c6
                cases h
          · rw [if_neg c4] at h
            replace c4 := eqf c4
            cases h
    · rw [if_neg c1] at h
      replace c1 := eqf c1
      obtain rfl := Option.some.inj h
      exact Tri.of (x := X9) mixed facts9 [.call ⟨true, []⟩ (.bool x3) [], .d true] [⟨(nT c1)⟩, ⟨(ok_law03_alive k _ e0)⟩] (by kernel_rfl)
end Go.Ws
