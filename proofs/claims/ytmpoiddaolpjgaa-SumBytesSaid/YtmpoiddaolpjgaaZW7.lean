/-
  law03_SumBytes: what the machine makes of it. (Printed by my own program.)
  Conditions: none.
-/
import Derived.Test.YtmpoiddaolpjgaaZPre
import Derived.Test.YtmpoiddaolpjgaaZPure
import Derived.Test.YtmpoiddaolpjgaaZW10
import Derived.Test.YtmpoiddaolpjgaaZW13
set_option linter.unusedVariables false
set_option linter.unusedSimpArgs false
namespace Go.Ws
open Go.Proofs
set_option linter.unusedSimpArgs false
set_option linter.unusedVariables false
set_option maxRecDepth 1000000
set_option maxHeartbeats 4000000
noncomputable def X7 : Ctx := ⟨Try.f7, [], true⟩
theorem ok_law03_SumBytes (k : Nat) (x1 : List Int) (x2 : Int) (x3 : Int) (r : Bool) (h : law03_SumBytes k x1 x2 x3 = some r) : Tri Try.prog 7 [(.sl 1 (List.map e_u8 x1)), (.int .u16 x2), (.int .u8 x3)] [] (.bool r) [] := by
    unfold law03_SumBytes at h
    obtain ⟨x4, e0, h⟩ := Option.bind_eq_some_iff.1 h
    by_cases c1 : x4 = true
    · rw [if_pos c1] at h
      by_cases c2 : ltI 3000 (nI x1.length) = true
      · rw [if_pos c2] at h
        obtain rfl := Option.some.inj h
        exact Tri.of (x := X7) mixed facts7 [.call ⟨true, []⟩ (.bool x4) [], .d false, .n x1.length, .d true, .d true, .d true, .d true, .d true, .d true, .d true, .d true] [⟨(rfl : true = true)⟩, ⟨(rfl : true = true)⟩, ⟨(rfl : true = true)⟩, ⟨(rfl : true = true)⟩, ⟨c2⟩, ⟨c2⟩, ⟨c2⟩, ⟨c2⟩, ⟨(len_map e_u8 x1)⟩, ⟨(nF c1)⟩, ⟨(ok_law03_alive k _ e0)⟩] (by kernel_rfl)
      · rw [if_neg c2] at h
        replace c2 := eqf c2
        by_cases c3 : eqI (nI x1.length) 0 = true
        · rw [if_pos c3] at h
          obtain rfl := Option.some.inj h
          exact Tri.of (x := X7) mixed facts7 [.call ⟨true, []⟩ (.bool x4) [], .d false, .n x1.length, .d false, .d false, .n x1.length, .d false, .d false, .d true, .d true, .d true, .d true] [⟨(rfl : true = true)⟩, ⟨c3⟩, ⟨c3⟩, ⟨c3⟩, ⟨c2⟩, ⟨c2⟩, ⟨(len_map e_u8 x1)⟩, ⟨c2⟩, ⟨c2⟩, ⟨(len_map e_u8 x1)⟩, ⟨(nF c1)⟩, ⟨(ok_law03_alive k _ e0)⟩] (by kernel_rfl)
        · rw [if_neg c3] at h
          replace c3 := eqf c3
          by_cases c4 : eqI x3 0 = true
          · rw [if_pos c4] at h
            obtain rfl := Option.some.inj h
            exact Tri.of (x := X7) mixed facts7 [.call ⟨true, []⟩ (.bool x4) [], .d false, .n x1.length, .d false, .d false, .n x1.length, .d false, .d false, .d false, .d false, .d false, .d true] [⟨c4⟩, ⟨c3⟩, ⟨c3⟩, ⟨c3⟩, ⟨c2⟩, ⟨c2⟩, ⟨(len_map e_u8 x1)⟩, ⟨c2⟩, ⟨c2⟩, ⟨(len_map e_u8 x1)⟩, ⟨(nF c1)⟩, ⟨(ok_law03_alive k _ e0)⟩] (by kernel_rfl)
          · rw [if_neg c4] at h
            replace c4 := eqf c4
            by_cases c5 : roomI (x1.length * 1) = true
            · rw [if_pos c5] at h
              by_cases c6 : inI (irem .i64 (conv .i64 x2) (nI x1.length)) x1.length = true
              · rw [if_pos c6] at h
                obtain ⟨x5, e7, h⟩ := Option.bind_eq_some_iff.1 h
                obtain ⟨x6, e8, h⟩ := Option.bind_eq_some_iff.1 h
                by_cases c9 : roomI ((([0, 0, 0] ++ x1).length) * 1) = true
                · rw [if_pos c9] at h
                  obtain ⟨x7, e10, h⟩ := Option.bind_eq_some_iff.1 h
                  obtain ⟨x8, e11, h⟩ := Option.bind_eq_some_iff.1 h
                  by_cases c12 : eqI x8 x6 = true
                  · rw [if_pos c12] at h
                    obtain rfl := Option.some.inj h
                    exact Tri.of (x := X7) mixed facts7 [.call ⟨true, []⟩ (.bool x4) [], .d false, .n x1.length, .d false, .d false, .n x1.length, .d false, .d false, .d false, .d false, .d false, .d false, .n x1.length, .d false, .row [(.int .u8 x5)], .rows (List.map e_u8 (List.set x1 (tN (irem .i64 (conv .i64 x2) (nI x1.length))) (ixor .u8 x5 x3))), .call ⟨true, []⟩ (.int .u32 x6) [], .d false, .rows (List.map e_u8 [0, 0, 0]), .n (([0, 0, 0] ++ x1).length), .n 3, .d true, .rows (List.map e_u8 ([0, 0, 0] ++ x1)), .call ⟨true, []⟩ (.int .u32 x7) [], .rows (List.map e_u8 ([0, 0, 0] ++ x1)), .call ⟨true, []⟩ (.int .u32 x8) [], .rows (List.map e_u8 (List.set x1 (tN (irem .i64 (conv .i64 x2) (nI x1.length))) (ixor .u8 x5 x3))), .d false, .d false, .d false, .d false, .d false, .d false] [⟨(nF c12)⟩, ⟨(nF c12)⟩, ⟨(nF c12)⟩, ⟨(nF c12)⟩, ⟨(nF c12)⟩, ⟨(nF c12)⟩, ⟨(ok_sum_Sum k (List.set x1 (tN (irem .i64 (conv .i64 x2) (nI x1.length))) (ixor .u8 x5 x3)) _ e11)⟩, ⟨(part_all e_u8 (l := (List.set x1 (tN (irem .i64 (conv .i64 x2) (nI x1.length))) (ixor .u8 x5 x3))) (n := x1.length) (by simp : x1.length = (List.set x1 (tN (irem .i64 (conv .i64 x2) (nI x1.length))) (ixor .u8 x5 x3)).length))⟩, ⟨(le_map e_u8 (Nat.le_of_eq (by simp : x1.length = (List.set x1 (tN (irem .i64 (conv .i64 x2) (nI x1.length))) (ixor .u8 x5 x3)).length)))⟩, ⟨(ok_sum_Sum k ([0, 0, 0] ++ x1) _ e10)⟩, ⟨(part_all e_u8 (l := ([0, 0, 0] ++ x1)) (n := (([0, 0, 0] ++ x1).length)) rfl)⟩, ⟨(le_map e_u8 (Nat.le_refl (([0, 0, 0] ++ x1).length)) : 0 + ([0, 0, 0] ++ x1).length ≤ (List.map e_u8 ([0, 0, 0] ++ x1)).length)⟩, ⟨(app_map e_u8 [0, 0, 0] x1)⟩, ⟨(rfl : eqN 3 3 = true)⟩, ⟨(rfl : (List.map e_u8 [0, 0, 0]).length = 3)⟩, ⟨c9⟩, ⟨(by simp only [List.length_append, List.length_cons, List.length_nil, List.length_take, List.length_drop, List.length_set, List.length_replicate, List.length_map, List.map_nil, List.map_cons] <;> omega : 3 + (List.map e_u8 x1).length = ([0, 0, 0] ++ x1).length)⟩, ⟨(rfl : List.replicate 3 (e_u8 0) = (List.map e_u8 [0, 0, 0]))⟩, ⟨(rfl : eqI 3 0 = false)⟩, ⟨(rfl : lenI 3 1 = true)⟩, ⟨(rfl : (3 : Int) = 3)⟩, ⟨(ok_sum_Sum k x1 _ e8)⟩, ⟨(store_map (e := e_u8) e7 0 [(.int .u8 (ixor .u8 x5 x3))] (ixor .u8 x5 x3) rfl)⟩, ⟨c6⟩, ⟨(cells_map (e := e_u8) e7 1 0 1 (by decide))⟩, ⟨c6⟩, ⟨c3⟩, ⟨c5⟩, ⟨(len_map e_u8 x1)⟩, ⟨c4⟩, ⟨c3⟩, ⟨c3⟩, ⟨c3⟩, ⟨c2⟩, ⟨c2⟩, ⟨(len_map e_u8 x1)⟩, ⟨c2⟩, ⟨c2⟩, ⟨(len_map e_u8 x1)⟩, ⟨(nF c1)⟩, ⟨(ok_law03_alive k _ e0)⟩] (by kernel_rfl)
                  · rw [if_neg c12] at h
                    replace c12 := eqf c12
                    obtain rfl := Option.some.inj h
                    exact Tri.of (x := X7) mixed facts7 [.call ⟨true, []⟩ (.bool x4) [], .d false, .n x1.length, .d false, .d false, .n x1.length, .d false, .d false, .d false, .d false, .d false, .d false, .n x1.length, .d false, .row [(.int .u8 x5)], .rows (List.map e_u8 (List.set x1 (tN (irem .i64 (conv .i64 x2) (nI x1.length))) (ixor .u8 x5 x3))), .call ⟨true, []⟩ (.int .u32 x6) [], .d false, .rows (List.map e_u8 [0, 0, 0]), .n (([0, 0, 0] ++ x1).length), .n 3, .d true, .rows (List.map e_u8 ([0, 0, 0] ++ x1)), .call ⟨true, []⟩ (.int .u32 x7) [], .rows (List.map e_u8 ([0, 0, 0] ++ x1)), .call ⟨true, []⟩ (.int .u32 x8) [], .rows (List.map e_u8 (List.set x1 (tN (irem .i64 (conv .i64 x2) (nI x1.length))) (ixor .u8 x5 x3))), .d true, .d true, .d false, .d true, .d true, .d false, .d true, .d true] [⟨(nT c12)⟩, ⟨(nT c12)⟩, ⟨(rfl : eqI 65536 0 = false)⟩, ⟨(nT c12)⟩, ⟨(nT c12)⟩, ⟨(rfl : eqI 65536 0 = false)⟩, ⟨(nT c12)⟩, ⟨(nT c12)⟩, ⟨(ok_sum_Sum k (List.set x1 (tN (irem .i64 (conv .i64 x2) (nI x1.length))) (ixor .u8 x5 x3)) _ e11)⟩, ⟨(part_all e_u8 (l := (List.set x1 (tN (irem .i64 (conv .i64 x2) (nI x1.length))) (ixor .u8 x5 x3))) (n := x1.length) (by simp : x1.length = (List.set x1 (tN (irem .i64 (conv .i64 x2) (nI x1.length))) (ixor .u8 x5 x3)).length))⟩, ⟨(le_map e_u8 (Nat.le_of_eq (by simp : x1.length = (List.set x1 (tN (irem .i64 (conv .i64 x2) (nI x1.length))) (ixor .u8 x5 x3)).length)))⟩, ⟨(ok_sum_Sum k ([0, 0, 0] ++ x1) _ e10)⟩, ⟨(part_all e_u8 (l := ([0, 0, 0] ++ x1)) (n := (([0, 0, 0] ++ x1).length)) rfl)⟩, ⟨(le_map e_u8 (Nat.le_refl (([0, 0, 0] ++ x1).length)) : 0 + ([0, 0, 0] ++ x1).length ≤ (List.map e_u8 ([0, 0, 0] ++ x1)).length)⟩, ⟨(app_map e_u8 [0, 0, 0] x1)⟩, ⟨(rfl : eqN 3 3 = true)⟩, ⟨(rfl : (List.map e_u8 [0, 0, 0]).length = 3)⟩, ⟨c9⟩, ⟨(by simp only [List.length_append, List.length_cons, List.length_nil, List.length_take, List.length_drop, List.length_set, List.length_replicate, List.length_map, List.map_nil, List.map_cons] <;> omega : 3 + (List.map e_u8 x1).length = ([0, 0, 0] ++ x1).length)⟩, ⟨(rfl : List.replicate 3 (e_u8 0) = (List.map e_u8 [0, 0, 0]))⟩, ⟨(rfl : eqI 3 0 = false)⟩, ⟨(rfl : lenI 3 1 = true)⟩, ⟨(rfl : (3 : Int) = 3)⟩, ⟨(ok_sum_Sum k x1 _ e8)⟩, ⟨(store_map (e := e_u8) e7 0 [(.int .u8 (ixor .u8 x5 x3))] (ixor .u8 x5 x3) rfl)⟩, ⟨c6⟩, ⟨(cells_map (e := e_u8) e7 1 0 1 (by decide))⟩, ⟨c6⟩, ⟨c3⟩, ⟨c5⟩, ⟨(len_map e_u8 x1)⟩, ⟨c4⟩, ⟨c3⟩, ⟨c3⟩, ⟨c3⟩, ⟨c2⟩, ⟨c2⟩, ⟨(len_map e_u8 x1)⟩, ⟨c2⟩, ⟨c2⟩, ⟨(len_map e_u8 x1)⟩, ⟨(nF c1)⟩, ⟨(ok_law03_alive k _ e0)⟩] (by kernel_rfl)
                · rw [if_neg c9] at h
                  replace c9 := eqf c9
                  cases h
              · rw [if_neg c6] at h
                replace c6 := eqf c6
                cases h
            · rw [if_neg c5] at h
              replace c5 := eqf c5
              cases h
    · rw [if_neg c1] at h
      replace c1 := eqf c1
      obtain rfl := Option.some.inj h
      exact Tri.of (x := X7) mixed facts7 [.call ⟨true, []⟩ (.bool x4) [], .d true] [⟨(nT c1)⟩, ⟨(ok_law03_alive k _ e0)⟩] (by kernel_rfl)
end Go.Ws
