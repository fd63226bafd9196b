/-
  law03_SumTurned: what the machine makes of it. (Printed by my own program.)
  Conditions: none.
-/
import Derived.Test.YtmpoiddaolpjgaaZPre
import Derived.Test.YtmpoiddaolpjgaaZPure
import Derived.Test.YtmpoiddaolpjgaaZW10
import Derived.Test.YtmpoiddaolpjgaaZW11_1
import Derived.Test.YtmpoiddaolpjgaaZW15
set_option linter.unusedVariables false
set_option linter.unusedSimpArgs false
namespace Go.Ws
open Go.Proofs
set_option linter.unusedSimpArgs false
set_option linter.unusedVariables false
set_option maxRecDepth 1000000
set_option maxHeartbeats 4000000
noncomputable def X6 : Ctx := ⟨Try.f6, [], true⟩
theorem ok_law03_SumTurned (k : Nat) (x1 : List Int) (x2 : Int) (x3 : Int) (r : Bool) (h : law03_SumTurned k x1 x2 x3 = some r) : Tri Try.prog 6 [(.sl 1 (List.map e_u8 x1)), (.int .u16 x2), (.int .u8 x3)] [] (.bool r) [] := by
    unfold law03_SumTurned at h
    obtain ⟨x4, e0, h⟩ := Option.bind_eq_some_iff.1 h
    by_cases c1 : x4 = true
    · rw [if_pos c1] at h
      by_cases c2 : ltI 300 (nI x1.length) = true
      · rw [if_pos c2] at h
        obtain rfl := Option.some.inj h
        exact Tri.of (x := X6) mixed facts6 [.call ⟨true, []⟩ (.bool x4) [], .d false, .n x1.length, .d true, .d true, .d true, .d true] [⟨(rfl : true = true)⟩, ⟨c2⟩, ⟨c2⟩, ⟨c2⟩, ⟨(len_map e_u8 x1)⟩, ⟨(nF c1)⟩, ⟨(ok_law03_alive k _ e0)⟩] (by kernel_rfl)
      · rw [if_neg c2] at h
        replace c2 := eqf c2
        by_cases c3 : eqI x3 0 = true
        · rw [if_pos c3] at h
          obtain rfl := Option.some.inj h
          exact Tri.of (x := X6) mixed facts6 [.call ⟨true, []⟩ (.bool x4) [], .d false, .n x1.length, .d false, .d false, .d false, .d true] [⟨c3⟩, ⟨c2⟩, ⟨c2⟩, ⟨c2⟩, ⟨(len_map e_u8 x1)⟩, ⟨(nF c1)⟩, ⟨(ok_law03_alive k _ e0)⟩] (by kernel_rfl)
        · rw [if_neg c3] at h
          replace c3 := eqf c3
          obtain ⟨x5, e4, h⟩ := Option.bind_eq_some_iff.1 h
          by_cases c5 : eqI x5.1 0 = true
          · rw [if_pos c5] at h
            by_cases c6 : ltI (nI x5.2.length) 7 = true
            · rw [if_pos c6] at h
              obtain rfl := Option.some.inj h
              exact Tri.of (x := X6) mixed facts6 [.call ⟨true, []⟩ (.bool x4) [], .d false, .n x1.length, .d false, .d false, .d false, .d false, .call ⟨true, []⟩ (.tup [(.ref 1 0 0 0 x5.2.length .virt), (.int .i64 x5.1)]) [(.arr 1 (List.map e_u8 x5.2) 0 0 false)], .d false, .d false, .d false, .d false, .d true] [⟨c6⟩, ⟨(nF c5)⟩, ⟨(nF c5)⟩, ⟨(nF c5)⟩, ⟨(nF c5)⟩, ⟨(ok_sum_Frame_1 k x1 _ e4)⟩, ⟨c3⟩, ⟨c2⟩, ⟨c2⟩, ⟨c2⟩, ⟨(len_map e_u8 x1)⟩, ⟨(nF c1)⟩, ⟨(ok_law03_alive k _ e0)⟩] (by kernel_rfl)
            · rw [if_neg c6] at h
              replace c6 := eqf c6
              by_cases c7 : eqI (isub .i64 (nI x5.2.length) 3) 0 = true
              · rw [if_pos c7] at h
                cases h
              · rw [if_neg c7] at h
                replace c7 := eqf c7
                by_cases c8 : inI (iadd .i64 3 (irem .i64 (conv .i64 x2) (isub .i64 (nI x5.2.length) 3))) x5.2.length = true
                · rw [if_pos c8] at h
                  obtain ⟨x6, e9, h⟩ := Option.bind_eq_some_iff.1 h
                  obtain ⟨x7, e10, h⟩ := Option.bind_eq_some_iff.1 h
                  by_cases c11 : eqI (nI x7.1.length) 0 = true
                  · rw [if_pos c11] at h
                    by_cases c12 : eqI x7.2.1 0 = true
                    · rw [if_pos c12] at h
                      obtain rfl := Option.some.inj h
                      exact Tri.of (x := X6) mixed facts6 [.call ⟨true, []⟩ (.bool x4) [], .d false, .n x1.length, .d false, .d false, .d false, .d false, .call ⟨true, []⟩ (.tup [(.ref 1 0 0 0 x5.2.length .virt), (.int .i64 x5.1)]) [(.arr 1 (List.map e_u8 x5.2) 0 0 false)], .d false, .d false, .d false, .d false, .d false, .d false, .row [(.int .u8 x6)], .rows (List.map e_u8 (List.set x5.2 (tN (iadd .i64 3 (irem .i64 (conv .i64 x2) (isub .i64 (nI x5.2.length) 3)))) (ixor .u8 x6 x3))), .call ⟨true, []⟩ (.tup [(.sl 1 (List.map e_u8 x7.1)), (.int .i64 x7.2.1), (.int .i64 x7.2.2)]) [], .rows (List.map e_u8 (List.set x5.2 (tN (iadd .i64 3 (irem .i64 (conv .i64 x2) (isub .i64 (nI x5.2.length) 3)))) (ixor .u8 x6 x3))), .n x7.1.length, .d true, .d true, .d true, .d true, .d true, .d true, .d true, .d true] [⟨c11⟩, ⟨c12⟩, ⟨c11⟩, ⟨c12⟩, ⟨c12⟩, ⟨c11⟩, ⟨c11⟩, ⟨c11⟩, ⟨(len_map e_u8 x7.1)⟩, ⟨(ok_sum_First k (List.set x5.2 (tN (iadd .i64 3 (irem .i64 (conv .i64 x2) (isub .i64 (nI x5.2.length) 3)))) (ixor .u8 x6 x3)) _ e10)⟩, ⟨(part_all e_u8 (l := (List.set x5.2 (tN (iadd .i64 3 (irem .i64 (conv .i64 x2) (isub .i64 (nI x5.2.length) 3)))) (ixor .u8 x6 x3))) (n := x5.2.length) (by simp : x5.2.length = (List.set x5.2 (tN (iadd .i64 3 (irem .i64 (conv .i64 x2) (isub .i64 (nI x5.2.length) 3)))) (ixor .u8 x6 x3)).length))⟩, ⟨(le_map e_u8 (Nat.le_of_eq (by simp : x5.2.length = (List.set x5.2 (tN (iadd .i64 3 (irem .i64 (conv .i64 x2) (isub .i64 (nI x5.2.length) 3)))) (ixor .u8 x6 x3)).length)))⟩, ⟨(store_map (e := e_u8) e9 0 [(.int .u8 (ixor .u8 x6 x3))] (ixor .u8 x6 x3) rfl)⟩, ⟨c8⟩, ⟨(cells_map (e := e_u8) e9 1 0 1 (by decide))⟩, ⟨c8⟩, ⟨c7⟩, ⟨c6⟩, ⟨(nF c5)⟩, ⟨(nF c5)⟩, ⟨(nF c5)⟩, ⟨(nF c5)⟩, ⟨(ok_sum_Frame_1 k x1 _ e4)⟩, ⟨c3⟩, ⟨c2⟩, ⟨c2⟩, ⟨c2⟩, ⟨(len_map e_u8 x1)⟩, ⟨(nF c1)⟩, ⟨(ok_law03_alive k _ e0)⟩] (by kernel_rfl)
                    · rw [if_neg c12] at h
                      replace c12 := eqf c12
                      obtain rfl := Option.some.inj h
                      exact Tri.of (x := X6) mixed facts6 [.call ⟨true, []⟩ (.bool x4) [], .d false, .n x1.length, .d false, .d false, .d false, .d false, .call ⟨true, []⟩ (.tup [(.ref 1 0 0 0 x5.2.length .virt), (.int .i64 x5.1)]) [(.arr 1 (List.map e_u8 x5.2) 0 0 false)], .d false, .d false, .d false, .d false, .d false, .d false, .row [(.int .u8 x6)], .rows (List.map e_u8 (List.set x5.2 (tN (iadd .i64 3 (irem .i64 (conv .i64 x2) (isub .i64 (nI x5.2.length) 3)))) (ixor .u8 x6 x3))), .call ⟨true, []⟩ (.tup [(.sl 1 (List.map e_u8 x7.1)), (.int .i64 x7.2.1), (.int .i64 x7.2.2)]) [], .rows (List.map e_u8 (List.set x5.2 (tN (iadd .i64 3 (irem .i64 (conv .i64 x2) (isub .i64 (nI x5.2.length) 3)))) (ixor .u8 x6 x3))), .n x7.1.length, .d true, .d true, .d true, .d false, .d false, .d true, .d false, .d true] [⟨c11⟩, ⟨c12⟩, ⟨c11⟩, ⟨c12⟩, ⟨c12⟩, ⟨c11⟩, ⟨c11⟩, ⟨c11⟩, ⟨(len_map e_u8 x7.1)⟩, ⟨(ok_sum_First k (List.set x5.2 (tN (iadd .i64 3 (irem .i64 (conv .i64 x2) (isub .i64 (nI x5.2.length) 3)))) (ixor .u8 x6 x3)) _ e10)⟩, ⟨(part_all e_u8 (l := (List.set x5.2 (tN (iadd .i64 3 (irem .i64 (conv .i64 x2) (isub .i64 (nI x5.2.length) 3)))) (ixor .u8 x6 x3))) (n := x5.2.length) (by simp : x5.2.length = (List.set x5.2 (tN (iadd .i64 3 (irem .i64 (conv .i64 x2) (isub .i64 (nI x5.2.length) 3)))) (ixor .u8 x6 x3)).length))⟩, ⟨(le_map e_u8 (Nat.le_of_eq (by simp : x5.2.length = (List.set x5.2 (tN (iadd .i64 3 (irem .i64 (conv .i64 x2) (isub .i64 (nI x5.2.length) 3)))) (ixor .u8 x6 x3)).length)))⟩, ⟨(store_map (e := e_u8) e9 0 [(.int .u8 (ixor .u8 x6 x3))] (ixor .u8 x6 x3) rfl)⟩, ⟨c8⟩, ⟨(cells_map (e := e_u8) e9 1 0 1 (by decide))⟩, ⟨c8⟩, ⟨c7⟩, ⟨c6⟩, ⟨(nF c5)⟩, ⟨(nF c5)⟩, ⟨(nF c5)⟩, ⟨(nF c5)⟩, ⟨(ok_sum_Frame_1 k x1 _ e4)⟩, ⟨c3⟩, ⟨c2⟩, ⟨c2⟩, ⟨c2⟩, ⟨(len_map e_u8 x1)⟩, ⟨(nF c1)⟩, ⟨(ok_law03_alive k _ e0)⟩] (by kernel_rfl)
                  · rw [if_neg c11] at h
                    replace c11 := eqf c11
                    obtain rfl := Option.some.inj h
                    exact Tri.of (x := X6) mixed facts6 [.call ⟨true, []⟩ (.bool x4) [], .d false, .n x1.length, .d false, .d false, .d false, .d false, .call ⟨true, []⟩ (.tup [(.ref 1 0 0 0 x5.2.length .virt), (.int .i64 x5.1)]) [(.arr 1 (List.map e_u8 x5.2) 0 0 false)], .d false, .d false, .d false, .d false, .d false, .d false, .row [(.int .u8 x6)], .rows (List.map e_u8 (List.set x5.2 (tN (iadd .i64 3 (irem .i64 (conv .i64 x2) (isub .i64 (nI x5.2.length) 3)))) (ixor .u8 x6 x3))), .call ⟨true, []⟩ (.tup [(.sl 1 (List.map e_u8 x7.1)), (.int .i64 x7.2.1), (.int .i64 x7.2.2)]) [], .rows (List.map e_u8 (List.set x5.2 (tN (iadd .i64 3 (irem .i64 (conv .i64 x2) (isub .i64 (nI x5.2.length) 3)))) (ixor .u8 x6 x3))), .n x7.1.length, .d false, .d false, .d false, .d false, .d false] [⟨c11⟩, ⟨c11⟩, ⟨c11⟩, ⟨c11⟩, ⟨c11⟩, ⟨(len_map e_u8 x7.1)⟩, ⟨(ok_sum_First k (List.set x5.2 (tN (iadd .i64 3 (irem .i64 (conv .i64 x2) (isub .i64 (nI x5.2.length) 3)))) (ixor .u8 x6 x3)) _ e10)⟩, ⟨(part_all e_u8 (l := (List.set x5.2 (tN (iadd .i64 3 (irem .i64 (conv .i64 x2) (isub .i64 (nI x5.2.length) 3)))) (ixor .u8 x6 x3))) (n := x5.2.length) (by simp : x5.2.length = (List.set x5.2 (tN (iadd .i64 3 (irem .i64 (conv .i64 x2) (isub .i64 (nI x5.2.length) 3)))) (ixor .u8 x6 x3)).length))⟩, ⟨(le_map e_u8 (Nat.le_of_eq (by simp : x5.2.length = (List.set x5.2 (tN (iadd .i64 3 (irem .i64 (conv .i64 x2) (isub .i64 (nI x5.2.length) 3)))) (ixor .u8 x6 x3)).length)))⟩, ⟨(store_map (e := e_u8) e9 0 [(.int .u8 (ixor .u8 x6 x3))] (ixor .u8 x6 x3) rfl)⟩, ⟨c8⟩, ⟨(cells_map (e := e_u8) e9 1 0 1 (by decide))⟩, ⟨c8⟩, ⟨c7⟩, ⟨c6⟩, ⟨(nF c5)⟩, ⟨(nF c5)⟩, ⟨(nF c5)⟩, ⟨(nF c5)⟩, ⟨(ok_sum_Frame_1 k x1 _ e4)⟩, ⟨c3⟩, ⟨c2⟩, ⟨c2⟩, ⟨c2⟩, ⟨(len_map e_u8 x1)⟩, ⟨(nF c1)⟩, ⟨(ok_law03_alive k _ e0)⟩] (by kernel_rfl)
                · rw [if_neg c8] at h
                  replace c8 := eqf c8
                  cases h
          · rw [if_neg c5] at h
            replace c5 := eqf c5
            obtain rfl := Option.some.inj h
            exact Tri.of (x := X6) mixed facts6 [.call ⟨true, []⟩ (.bool x4) [], .d false, .n x1.length, .d false, .d false, .d false, .d false, .call ⟨true, []⟩ (.tup [(.ref 1 0 0 0 x5.2.length .virt), (.int .i64 x5.1)]) [(.arr 1 (List.map e_u8 x5.2) 0 0 false)], .d true, .d true, .d true, .d true, .d true] [⟨(rfl : true = true)⟩, ⟨(nT c5)⟩, ⟨(nT c5)⟩, ⟨(nT c5)⟩, ⟨(nT c5)⟩, ⟨(ok_sum_Frame_1 k x1 _ e4)⟩, ⟨c3⟩, ⟨c2⟩, ⟨c2⟩, ⟨c2⟩, ⟨(len_map e_u8 x1)⟩, ⟨(nF c1)⟩, ⟨(ok_law03_alive k _ e0)⟩] (by kernel_rfl)
    · rw [if_neg c1] at h
      replace c1 := eqf c1
      obtain rfl := Option.some.inj h
      exact Tri.of (x := X6) mixed facts6 [.call ⟨true, []⟩ (.bool x4) [], .d true] [⟨(nT c1)⟩, ⟨(ok_law03_alive k _ e0)⟩] (by kernel_rfl)
end Go.Ws
