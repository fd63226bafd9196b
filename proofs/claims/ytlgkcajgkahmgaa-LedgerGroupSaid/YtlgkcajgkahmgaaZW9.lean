/-
  law08_alive: what the machine makes of it. (Printed by my own program.)
  Conditions: none.
-/
import Derived.Test.YtlgkcajgkahmgaaZPre
import Derived.Test.YtlgkcajgkahmgaaZPure
import Derived.Test.YtlgkcajgkahmgaaZW14
import Derived.Test.YtlgkcajgkahmgaaZW15
import Derived.Test.YtlgkcajgkahmgaaZW16
set_option linter.unusedVariables false
set_option linter.unusedSimpArgs false
namespace Go.Ws
open Go.Proofs
set_option linter.unusedSimpArgs false
set_option linter.unusedVariables false
set_option maxRecDepth 1000000
set_option maxHeartbeats 4000000
noncomputable def X9 : Ctx := ⟨Try.f9, [], true⟩
theorem ok_law08_alive (k : Nat) (r : Bool) (h : law08_alive k = some r) : Tri Try.prog 9 [] [] (.bool r) [] := by
    unfold law08_alive at h
    obtain ⟨x1, e0, h⟩ := Option.bind_eq_some_iff.1 h
    obtain ⟨x2, e1, h⟩ := Option.bind_eq_some_iff.1 h
    obtain ⟨x3, e2, h⟩ := Option.bind_eq_some_iff.1 h
    obtain ⟨x4, e3, h⟩ := Option.bind_eq_some_iff.1 h
    by_cases c4 : eqI x1.2 0 = true
    · rw [if_pos c4] at h
      obtain ⟨x5, e5, h⟩ := Option.bind_eq_some_iff.1 h
      by_cases c6 : eqI x5 5 = true
      · rw [if_pos c6] at h
        by_cases c7 : eqI x2.2 0 = true
        · rw [if_pos c7] at h
          by_cases c8 : eqI (nI x2.1.length) 0 = true
          · rw [if_pos c8] at h
            by_cases c9 : eqI x3.2 0 = true
            · rw [if_pos c9] at h
              obtain ⟨x6, e10, h⟩ := Option.bind_eq_some_iff.1 h
              by_cases c11 : eqI x6 (-9223372036854775808) = true
              · rw [if_pos c11] at h
                by_cases c12 : eqI x4.2 2 = true
                · rw [if_pos c12] at h
                  obtain ⟨x7, e13, h⟩ := Option.bind_eq_some_iff.1 h
                  obtain rfl := Option.some.inj h
                  exact Tri.of (x := X9) mixed facts9 [.call ⟨true, [[(0, 2)]]⟩ (.tup [(.sl 2 (List.map e_u8_i64 x1.1)), (.int .i64 x1.2)]) [], .call ⟨true, []⟩ (.tup [(.sl 2 (List.map e_u8_i64 x2.1)), (.int .i64 x2.2)]) [], .call ⟨true, []⟩ (.tup [(.sl 2 (List.map e_u8_i64 x3.1)), (.int .i64 x3.2)]) [], .rows (List.map e_u8_i64 [(1, 9223372036854775807)]), .call ⟨true, [[(0, 2)]]⟩ (.tup [(.sl 2 (List.map e_u8_i64 x4.1)), (.int .i64 x4.2)]) [], .d true, .d true, .call ⟨true, []⟩ (.int .i64 x5) [], .d true, .d true, .d true, .d true, .d true, .d true, .d true, .n x2.1.length, .d true, .d true, .d true, .d true, .d true, .d true, .d true, .call ⟨true, []⟩ (.int .i64 x6) [], .d true, .d true, .d true, .d true, .d true, .d true, .d true, .call ⟨true, []⟩ (.bool x7) [], .d true] [⟨c12⟩, ⟨(ok_ledger_Right k x3.1 _ e13)⟩, ⟨c12⟩, ⟨c12⟩, ⟨c11⟩, ⟨c11⟩, ⟨c11⟩, ⟨c9⟩, ⟨c9⟩, ⟨(ok_ledger_Get k x3.1 1 _ e10)⟩, ⟨c9⟩, ⟨c9⟩, ⟨c8⟩, ⟨c8⟩, ⟨c8⟩, ⟨c7⟩, ⟨c7⟩, ⟨(len_map e_u8_i64 x2.1)⟩, ⟨c7⟩, ⟨c7⟩, ⟨c6⟩, ⟨c6⟩, ⟨c6⟩, ⟨c4⟩, ⟨c4⟩, ⟨(ok_ledger_Get k x1.1 3 _ e5)⟩, ⟨c4⟩, ⟨c4⟩, ⟨(ok_ledger_Add k [] 64 1 _ e3)⟩, ⟨(ok_ledger_Add k [(1, 9223372036854775807)] 1 1 _ e2)⟩, ⟨(part_all e_u8_i64 (l := [(1, 9223372036854775807)]) (n := 1) rfl)⟩, ⟨(le_map e_u8_i64 (Nat.le_refl 1) : 0 + 1 ≤ (List.map e_u8_i64 [(1, 9223372036854775807)]).length)⟩, ⟨(ok_ledger_Add k x1.1 3 (-5) _ e1)⟩, ⟨(ok_ledger_Add k [] 3 5 _ e0)⟩] (by kernel_rfl)
                · rw [if_neg c12] at h
                  replace c12 := eqf c12
                  obtain rfl := Option.some.inj h
                  exact Tri.of (x := X9) mixed facts9 [.call ⟨true, [[(0, 2)]]⟩ (.tup [(.sl 2 (List.map e_u8_i64 x1.1)), (.int .i64 x1.2)]) [], .call ⟨true, []⟩ (.tup [(.sl 2 (List.map e_u8_i64 x2.1)), (.int .i64 x2.2)]) [], .call ⟨true, []⟩ (.tup [(.sl 2 (List.map e_u8_i64 x3.1)), (.int .i64 x3.2)]) [], .rows (List.map e_u8_i64 [(1, 9223372036854775807)]), .call ⟨true, [[(0, 2)]]⟩ (.tup [(.sl 2 (List.map e_u8_i64 x4.1)), (.int .i64 x4.2)]) [], .d true, .d true, .call ⟨true, []⟩ (.int .i64 x5) [], .d true, .d true, .d true, .d true, .d true, .d true, .d true, .n x2.1.length, .d true, .d true, .d true, .d true, .d true, .d true, .d true, .call ⟨true, []⟩ (.int .i64 x6) [], .d true, .d true, .d true, .d true, .d true, .d false, .d false, .d false] [⟨c12⟩, ⟨c12⟩, ⟨c12⟩, ⟨c11⟩, ⟨c11⟩, ⟨c11⟩, ⟨c9⟩, ⟨c9⟩, ⟨(ok_ledger_Get k x3.1 1 _ e10)⟩, ⟨c9⟩, ⟨c9⟩, ⟨c8⟩, ⟨c8⟩, ⟨c8⟩, ⟨c7⟩, ⟨c7⟩, ⟨(len_map e_u8_i64 x2.1)⟩, ⟨c7⟩, ⟨c7⟩, ⟨c6⟩, ⟨c6⟩, ⟨c6⟩, ⟨c4⟩, ⟨c4⟩, ⟨(ok_ledger_Get k x1.1 3 _ e5)⟩, ⟨c4⟩, ⟨c4⟩, ⟨(ok_ledger_Add k [] 64 1 _ e3)⟩, ⟨(ok_ledger_Add k [(1, 9223372036854775807)] 1 1 _ e2)⟩, ⟨(part_all e_u8_i64 (l := [(1, 9223372036854775807)]) (n := 1) rfl)⟩, ⟨(le_map e_u8_i64 (Nat.le_refl 1) : 0 + 1 ≤ (List.map e_u8_i64 [(1, 9223372036854775807)]).length)⟩, ⟨(ok_ledger_Add k x1.1 3 (-5) _ e1)⟩, ⟨(ok_ledger_Add k [] 3 5 _ e0)⟩] (by kernel_rfl)
              · rw [if_neg c11] at h
                replace c11 := eqf c11
                obtain rfl := Option.some.inj h
                exact Tri.of (x := X9) mixed facts9 [.call ⟨true, [[(0, 2)]]⟩ (.tup [(.sl 2 (List.map e_u8_i64 x1.1)), (.int .i64 x1.2)]) [], .call ⟨true, []⟩ (.tup [(.sl 2 (List.map e_u8_i64 x2.1)), (.int .i64 x2.2)]) [], .call ⟨true, []⟩ (.tup [(.sl 2 (List.map e_u8_i64 x3.1)), (.int .i64 x3.2)]) [], .rows (List.map e_u8_i64 [(1, 9223372036854775807)]), .call ⟨true, [[(0, 2)]]⟩ (.tup [(.sl 2 (List.map e_u8_i64 x4.1)), (.int .i64 x4.2)]) [], .d true, .d true, .call ⟨true, []⟩ (.int .i64 x5) [], .d true, .d true, .d true, .d true, .d true, .d true, .d true, .n x2.1.length, .d true, .d true, .d true, .d true, .d true, .d true, .d true, .call ⟨true, []⟩ (.int .i64 x6) [], .d true, .d true, .d false, .d false, .d false, .d false, .d false, .d false] [⟨(rfl : false = false)⟩, ⟨(rfl : false = false)⟩, ⟨(rfl : false = false)⟩, ⟨c11⟩, ⟨c11⟩, ⟨c11⟩, ⟨c9⟩, ⟨c9⟩, ⟨(ok_ledger_Get k x3.1 1 _ e10)⟩, ⟨c9⟩, ⟨c9⟩, ⟨c8⟩, ⟨c8⟩, ⟨c8⟩, ⟨c7⟩, ⟨c7⟩, ⟨(len_map e_u8_i64 x2.1)⟩, ⟨c7⟩, ⟨c7⟩, ⟨c6⟩, ⟨c6⟩, ⟨c6⟩, ⟨c4⟩, ⟨c4⟩, ⟨(ok_ledger_Get k x1.1 3 _ e5)⟩, ⟨c4⟩, ⟨c4⟩, ⟨(ok_ledger_Add k [] 64 1 _ e3)⟩, ⟨(ok_ledger_Add k [(1, 9223372036854775807)] 1 1 _ e2)⟩, ⟨(part_all e_u8_i64 (l := [(1, 9223372036854775807)]) (n := 1) rfl)⟩, ⟨(le_map e_u8_i64 (Nat.le_refl 1) : 0 + 1 ≤ (List.map e_u8_i64 [(1, 9223372036854775807)]).length)⟩, ⟨(ok_ledger_Add k x1.1 3 (-5) _ e1)⟩, ⟨(ok_ledger_Add k [] 3 5 _ e0)⟩] (by kernel_rfl)
            · rw [if_neg c9] at h
              replace c9 := eqf c9
              obtain rfl := Option.some.inj h
              exact Tri.of (x := X9) mixed facts9 [.call ⟨true, [[(0, 2)]]⟩ (.tup [(.sl 2 (List.map e_u8_i64 x1.1)), (.int .i64 x1.2)]) [], .call ⟨true, []⟩ (.tup [(.sl 2 (List.map e_u8_i64 x2.1)), (.int .i64 x2.2)]) [], .call ⟨true, []⟩ (.tup [(.sl 2 (List.map e_u8_i64 x3.1)), (.int .i64 x3.2)]) [], .rows (List.map e_u8_i64 [(1, 9223372036854775807)]), .call ⟨true, [[(0, 2)]]⟩ (.tup [(.sl 2 (List.map e_u8_i64 x4.1)), (.int .i64 x4.2)]) [], .d true, .d true, .call ⟨true, []⟩ (.int .i64 x5) [], .d true, .d true, .d true, .d true, .d true, .d true, .d true, .n x2.1.length, .d true, .d true, .d true, .d true, .d true, .d false, .d false, .d false, .d false, .d false, .d false, .d false, .d false, .d false, .d false] [⟨(rfl : false = false)⟩, ⟨(rfl : false = false)⟩, ⟨(rfl : false = false)⟩, ⟨(rfl : false = false)⟩, ⟨(rfl : false = false)⟩, ⟨(rfl : false = false)⟩, ⟨c9⟩, ⟨c9⟩, ⟨c9⟩, ⟨c9⟩, ⟨c8⟩, ⟨c8⟩, ⟨c8⟩, ⟨c7⟩, ⟨c7⟩, ⟨(len_map e_u8_i64 x2.1)⟩, ⟨c7⟩, ⟨c7⟩, ⟨c6⟩, ⟨c6⟩, ⟨c6⟩, ⟨c4⟩, ⟨c4⟩, ⟨(ok_ledger_Get k x1.1 3 _ e5)⟩, ⟨c4⟩, ⟨c4⟩, ⟨(ok_ledger_Add k [] 64 1 _ e3)⟩, ⟨(ok_ledger_Add k [(1, 9223372036854775807)] 1 1 _ e2)⟩, ⟨(part_all e_u8_i64 (l := [(1, 9223372036854775807)]) (n := 1) rfl)⟩, ⟨(le_map e_u8_i64 (Nat.le_refl 1) : 0 + 1 ≤ (List.map e_u8_i64 [(1, 9223372036854775807)]).length)⟩, ⟨(ok_ledger_Add k x1.1 3 (-5) _ e1)⟩, ⟨(ok_ledger_Add k [] 3 5 _ e0)⟩] (by kernel_rfl)
          · rw [if_neg c8] at h
            replace c8 := eqf c8
            obtain rfl := Option.some.inj h
            exact Tri.of (x := X9) mixed facts9 [.call ⟨true, [[(0, 2)]]⟩ (.tup [(.sl 2 (List.map e_u8_i64 x1.1)), (.int .i64 x1.2)]) [], .call ⟨true, []⟩ (.tup [(.sl 2 (List.map e_u8_i64 x2.1)), (.int .i64 x2.2)]) [], .call ⟨true, []⟩ (.tup [(.sl 2 (List.map e_u8_i64 x3.1)), (.int .i64 x3.2)]) [], .rows (List.map e_u8_i64 [(1, 9223372036854775807)]), .call ⟨true, [[(0, 2)]]⟩ (.tup [(.sl 2 (List.map e_u8_i64 x4.1)), (.int .i64 x4.2)]) [], .d true, .d true, .call ⟨true, []⟩ (.int .i64 x5) [], .d true, .d true, .d true, .d true, .d true, .d true, .d true, .n x2.1.length, .d true, .d true, .d false, .d false, .d false, .d false, .d false, .d false, .d false, .d false, .d false, .d false, .d false, .d false, .d false] [⟨(rfl : false = false)⟩, ⟨(rfl : false = false)⟩, ⟨(rfl : false = false)⟩, ⟨(rfl : false = false)⟩, ⟨(rfl : false = false)⟩, ⟨(rfl : false = false)⟩, ⟨(rfl : false = false)⟩, ⟨(rfl : false = false)⟩, ⟨(rfl : false = false)⟩, ⟨(rfl : false = false)⟩, ⟨c8⟩, ⟨c8⟩, ⟨c8⟩, ⟨c7⟩, ⟨c7⟩, ⟨(len_map e_u8_i64 x2.1)⟩, ⟨c7⟩, ⟨c7⟩, ⟨c6⟩, ⟨c6⟩, ⟨c6⟩, ⟨c4⟩, ⟨c4⟩, ⟨(ok_ledger_Get k x1.1 3 _ e5)⟩, ⟨c4⟩, ⟨c4⟩, ⟨(ok_ledger_Add k [] 64 1 _ e3)⟩, ⟨(ok_ledger_Add k [(1, 9223372036854775807)] 1 1 _ e2)⟩, ⟨(part_all e_u8_i64 (l := [(1, 9223372036854775807)]) (n := 1) rfl)⟩, ⟨(le_map e_u8_i64 (Nat.le_refl 1) : 0 + 1 ≤ (List.map e_u8_i64 [(1, 9223372036854775807)]).length)⟩, ⟨(ok_ledger_Add k x1.1 3 (-5) _ e1)⟩, ⟨(ok_ledger_Add k [] 3 5 _ e0)⟩] (by kernel_rfl)
        · rw [if_neg c7] at h
          replace c7 := eqf c7
          obtain rfl := Option.some.inj h
          exact Tri.of (x := X9) mixed facts9 [.call ⟨true, [[(0, 2)]]⟩ (.tup [(.sl 2 (List.map e_u8_i64 x1.1)), (.int .i64 x1.2)]) [], .call ⟨true, []⟩ (.tup [(.sl 2 (List.map e_u8_i64 x2.1)), (.int .i64 x2.2)]) [], .call ⟨true, []⟩ (.tup [(.sl 2 (List.map e_u8_i64 x3.1)), (.int .i64 x3.2)]) [], .rows (List.map e_u8_i64 [(1, 9223372036854775807)]), .call ⟨true, [[(0, 2)]]⟩ (.tup [(.sl 2 (List.map e_u8_i64 x4.1)), (.int .i64 x4.2)]) [], .d true, .d true, .call ⟨true, []⟩ (.int .i64 x5) [], .d true, .d true, .d true, .d true, .d true, .d false, .d false, .d false, .d false, .d false, .d false, .d false, .d false, .d false, .d false, .d false, .d false, .d false, .d false, .d false, .d false, .d false] [⟨(rfl : false = false)⟩, ⟨(rfl : false = false)⟩, ⟨(rfl : false = false)⟩, ⟨(rfl : false = false)⟩, ⟨(rfl : false = false)⟩, ⟨(rfl : false = false)⟩, ⟨(rfl : false = false)⟩, ⟨(rfl : false = false)⟩, ⟨(rfl : false = false)⟩, ⟨(rfl : false = false)⟩, ⟨(rfl : false = false)⟩, ⟨(rfl : false = false)⟩, ⟨(rfl : false = false)⟩, ⟨c7⟩, ⟨c7⟩, ⟨c7⟩, ⟨c7⟩, ⟨c6⟩, ⟨c6⟩, ⟨c6⟩, ⟨c4⟩, ⟨c4⟩, ⟨(ok_ledger_Get k x1.1 3 _ e5)⟩, ⟨c4⟩, ⟨c4⟩, ⟨(ok_ledger_Add k [] 64 1 _ e3)⟩, ⟨(ok_ledger_Add k [(1, 9223372036854775807)] 1 1 _ e2)⟩, ⟨(part_all e_u8_i64 (l := [(1, 9223372036854775807)]) (n := 1) rfl)⟩, ⟨(le_map e_u8_i64 (Nat.le_refl 1) : 0 + 1 ≤ (List.map e_u8_i64 [(1, 9223372036854775807)]).length)⟩, ⟨(ok_ledger_Add k x1.1 3 (-5) _ e1)⟩, ⟨(ok_ledger_Add k [] 3 5 _ e0)⟩] (by kernel_rfl)
      · rw [if_neg c6] at h
        replace c6 := eqf c6
        obtain rfl := Option.some.inj h
        exact Tri.of (x := X9) mixed facts9 [.call ⟨true, [[(0, 2)]]⟩ (.tup [(.sl 2 (List.map e_u8_i64 x1.1)), (.int .i64 x1.2)]) [], .call ⟨true, []⟩ (.tup [(.sl 2 (List.map e_u8_i64 x2.1)), (.int .i64 x2.2)]) [], .call ⟨true, []⟩ (.tup [(.sl 2 (List.map e_u8_i64 x3.1)), (.int .i64 x3.2)]) [], .rows (List.map e_u8_i64 [(1, 9223372036854775807)]), .call ⟨true, [[(0, 2)]]⟩ (.tup [(.sl 2 (List.map e_u8_i64 x4.1)), (.int .i64 x4.2)]) [], .d true, .d true, .call ⟨true, []⟩ (.int .i64 x5) [], .d true, .d true, .d false, .d false, .d false, .d false, .d false, .d false, .d false, .d false, .d false, .d false, .d false, .d false, .d false, .d false, .d false, .d false, .d false, .d false, .d false, .d false] [⟨(rfl : false = false)⟩, ⟨(rfl : false = false)⟩, ⟨(rfl : false = false)⟩, ⟨(rfl : false = false)⟩, ⟨(rfl : false = false)⟩, ⟨(rfl : false = false)⟩, ⟨(rfl : false = false)⟩, ⟨(rfl : false = false)⟩, ⟨(rfl : false = false)⟩, ⟨(rfl : false = false)⟩, ⟨(rfl : false = false)⟩, ⟨(rfl : false = false)⟩, ⟨(rfl : false = false)⟩, ⟨(rfl : false = false)⟩, ⟨(rfl : false = false)⟩, ⟨(rfl : false = false)⟩, ⟨(rfl : false = false)⟩, ⟨c6⟩, ⟨c6⟩, ⟨c6⟩, ⟨c4⟩, ⟨c4⟩, ⟨(ok_ledger_Get k x1.1 3 _ e5)⟩, ⟨c4⟩, ⟨c4⟩, ⟨(ok_ledger_Add k [] 64 1 _ e3)⟩, ⟨(ok_ledger_Add k [(1, 9223372036854775807)] 1 1 _ e2)⟩, ⟨(part_all e_u8_i64 (l := [(1, 9223372036854775807)]) (n := 1) rfl)⟩, ⟨(le_map e_u8_i64 (Nat.le_refl 1) : 0 + 1 ≤ (List.map e_u8_i64 [(1, 9223372036854775807)]).length)⟩, ⟨(ok_ledger_Add k x1.1 3 (-5) _ e1)⟩, ⟨(ok_ledger_Add k [] 3 5 _ e0)⟩] (by kernel_rfl)
    · rw [if_neg c4] at h
      replace c4 := eqf c4
      obtain rfl := Option.some.inj h
      exact Tri.of (x := X9) mixed facts9 [.call ⟨true, [[(0, 2)]]⟩ (.tup [(.sl 2 (List.map e_u8_i64 x1.1)), (.int .i64 x1.2)]) [], .call ⟨true, []⟩ (.tup [(.sl 2 (List.map e_u8_i64 x2.1)), (.int .i64 x2.2)]) [], .call ⟨true, []⟩ (.tup [(.sl 2 (List.map e_u8_i64 x3.1)), (.int .i64 x3.2)]) [], .rows (List.map e_u8_i64 [(1, 9223372036854775807)]), .call ⟨true, [[(0, 2)]]⟩ (.tup [(.sl 2 (List.map e_u8_i64 x4.1)), (.int .i64 x4.2)]) [], .d false, .d false, .d false, .d false, .d false, .d false, .d false, .d false, .d false, .d false, .d false, .d false, .d false, .d false, .d false, .d false, .d false, .d false, .d false, .d false, .d false, .d false, .d false, .d false] [⟨(rfl : false = false)⟩, ⟨(rfl : false = false)⟩, ⟨(rfl : false = false)⟩, ⟨(rfl : false = false)⟩, ⟨(rfl : false = false)⟩, ⟨(rfl : false = false)⟩, ⟨(rfl : false = false)⟩, ⟨(rfl : false = false)⟩, ⟨(rfl : false = false)⟩, ⟨(rfl : false = false)⟩, ⟨(rfl : false = false)⟩, ⟨(rfl : false = false)⟩, ⟨(rfl : false = false)⟩, ⟨(rfl : false = false)⟩, ⟨(rfl : false = false)⟩, ⟨(rfl : false = false)⟩, ⟨(rfl : false = false)⟩, ⟨(rfl : false = false)⟩, ⟨(rfl : false = false)⟩, ⟨(rfl : false = false)⟩, ⟨c4⟩, ⟨c4⟩, ⟨c4⟩, ⟨c4⟩, ⟨(ok_ledger_Add k [] 64 1 _ e3)⟩, ⟨(ok_ledger_Add k [(1, 9223372036854775807)] 1 1 _ e2)⟩, ⟨(part_all e_u8_i64 (l := [(1, 9223372036854775807)]) (n := 1) rfl)⟩, ⟨(le_map e_u8_i64 (Nat.le_refl 1) : 0 + 1 ≤ (List.map e_u8_i64 [(1, 9223372036854775807)]).length)⟩, ⟨(ok_ledger_Add k x1.1 3 (-5) _ e1)⟩, ⟨(ok_ledger_Add k [] 3 5 _ e0)⟩] (by kernel_rfl)
end Go.Ws
