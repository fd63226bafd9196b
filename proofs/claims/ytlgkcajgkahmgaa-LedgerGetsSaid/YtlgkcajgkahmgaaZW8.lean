/-
  law08_LedgerGets: what the machine makes of it. (Printed by my own program.)
  Conditions: none.
-/
import Derived.Test.YtlgkcajgkahmgaaZPre
import Derived.Test.YtlgkcajgkahmgaaZPure
import Derived.Test.YtlgkcajgkahmgaaZW10
import Derived.Test.YtlgkcajgkahmgaaZW14
import Derived.Test.YtlgkcajgkahmgaaZW16
import Derived.Test.YtlgkcajgkahmgaaZW18
import Derived.Test.YtlgkcajgkahmgaaZW20
import Derived.Test.YtlgkcajgkahmgaaZW9
set_option linter.unusedVariables false
set_option linter.unusedSimpArgs false
namespace Go.Ws
open Go.Proofs
set_option linter.unusedSimpArgs false
set_option linter.unusedVariables false
set_option maxRecDepth 1000000
set_option maxHeartbeats 4000000
noncomputable def X8 : Ctx := ⟨Try.f8, [], true⟩
theorem ok_law08_LedgerGets (k : Nat) (x1 : List (Int × Int)) (x2 : List (Int × Int)) (x3 : Int) (r : Bool) (h : law08_LedgerGets k x1 x2 x3 = some r) : Tri Try.prog 8 [(.sl 2 (List.map e_u8_i64 x1)), (.sl 2 (List.map e_u8_i64 x2)), (.int .u8 x3)] [] (.bool r) [] := by
    unfold law08_LedgerGets at h
    obtain ⟨x4, e0, h⟩ := Option.bind_eq_some_iff.1 h
    by_cases c1 : x4 = true
    · rw [if_pos c1] at h
      by_cases c2 : ltI 100 (nI x1.length) = true
      · rw [if_pos c2] at h
        obtain rfl := Option.some.inj h
        exact Tri.of (x := X8) mixed facts8 [.call ⟨true, []⟩ (.bool x4) [], .d false, .n x1.length, .d true, .d true, .d true, .d true, .d true, .d true, .d true, .d true, .d true, .d true, .d true, .d true, .d true] [⟨(rfl : true = true)⟩, ⟨(rfl : true = true)⟩, ⟨(rfl : true = true)⟩, ⟨(rfl : true = true)⟩, ⟨(rfl : true = true)⟩, ⟨(rfl : true = true)⟩, ⟨(rfl : true = true)⟩, ⟨(rfl : true = true)⟩, ⟨(rfl : true = true)⟩, ⟨c2⟩, ⟨c2⟩, ⟨c2⟩, ⟨c2⟩, ⟨(len_map e_u8_i64 x1)⟩, ⟨(nF c1)⟩, ⟨(ok_law08_alive k _ e0)⟩] (by kernel_rfl)
      · rw [if_neg c2] at h
        replace c2 := eqf c2
        by_cases c3 : ltI 100 (nI x2.length) = true
        · rw [if_pos c3] at h
          obtain rfl := Option.some.inj h
          exact Tri.of (x := X8) mixed facts8 [.call ⟨true, []⟩ (.bool x4) [], .d false, .n x1.length, .d false, .d false, .n x2.length, .d false, .d false, .d true, .d true, .d true, .d true, .d true, .d true, .d true, .d true, .d true] [⟨(rfl : true = true)⟩, ⟨(rfl : true = true)⟩, ⟨(rfl : true = true)⟩, ⟨(rfl : true = true)⟩, ⟨(rfl : true = true)⟩, ⟨c3⟩, ⟨c3⟩, ⟨c3⟩, ⟨c3⟩, ⟨c2⟩, ⟨c2⟩, ⟨(len_map e_u8_i64 x2)⟩, ⟨c2⟩, ⟨c2⟩, ⟨(len_map e_u8_i64 x1)⟩, ⟨(nF c1)⟩, ⟨(ok_law08_alive k _ e0)⟩] (by kernel_rfl)
        · rw [if_neg c3] at h
          replace c3 := eqf c3
          obtain ⟨x5, e4, h⟩ := Option.bind_eq_some_iff.1 h
          by_cases c5 : x5 = true
          · rw [if_pos c5] at h
            obtain ⟨x6, e6, h⟩ := Option.bind_eq_some_iff.1 h
            by_cases c7 : x6 = true
            · rw [if_pos c7] at h
              obtain ⟨x7, e8, h⟩ := Option.bind_eq_some_iff.1 h
              obtain ⟨x8, e9, h⟩ := Option.bind_eq_some_iff.1 h
              by_cases c10 : eqI x7.2 0 = true
              · rw [if_pos c10] at h
                by_cases c11 : eqI x8.2 0 = true
                · rw [if_pos c11] at h
                  obtain ⟨x9, e12, h⟩ := Option.bind_eq_some_iff.1 h
                  obtain ⟨x10, e13, h⟩ := Option.bind_eq_some_iff.1 h
                  obtain ⟨x11, e14, h⟩ := Option.bind_eq_some_iff.1 h
                  by_cases c15 : eqI x9 (iadd .i64 x10 x11) = true
                  · rw [if_pos c15] at h
                    obtain ⟨x12, e16, h⟩ := Option.bind_eq_some_iff.1 h
                    obtain ⟨x13, e17, h⟩ := Option.bind_eq_some_iff.1 h
                    by_cases c18 : eqI x12 (ineg .i64 x13) = true
                    · rw [if_pos c18] at h
                      obtain ⟨x14, e19, h⟩ := Option.bind_eq_some_iff.1 h
                      by_cases c20 : x14 = true
                      · rw [if_pos c20] at h
                        obtain ⟨x15, e21, h⟩ := Option.bind_eq_some_iff.1 h
                        obtain rfl := Option.some.inj h
                        exact Tri.of (x := X8) mixed facts8 [.call ⟨true, []⟩ (.bool x4) [], .d false, .n x1.length, .d false, .d false, .n x2.length, .d false, .d false, .d false, .d false, .call ⟨true, []⟩ (.bool x5) [], .d false, .d false, .d false, .d false, .call ⟨true, []⟩ (.bool x6) [], .d false, .d false, .d false, .call ⟨true, []⟩ (.tup [(.sl 2 (List.map e_u8_i64 x7.1)), (.int .i64 x7.2)]) [], .call ⟨true, []⟩ (.tup [(.sl 2 (List.map e_u8_i64 x8.1)), (.int .i64 x8.2)]) [], .d true, .d true, .d true, .d true, .d true, .d true, .call ⟨true, []⟩ (.int .i64 x9) [], .d true, .d true, .d true, .call ⟨true, []⟩ (.int .i64 x10) [], .d true, .d true, .d true, .call ⟨true, []⟩ (.int .i64 x11) [], .d true, .d true, .d true, .d true, .d true, .d true, .call ⟨true, []⟩ (.int .i64 x12) [], .d true, .d true, .d true, .call ⟨true, []⟩ (.int .i64 x13) [], .d true, .d true, .d true, .d true, .d true, .call ⟨true, []⟩ (.bool x14) [], .d true, .d true, .d true, .call ⟨true, []⟩ (.bool x15) [], .d true] [⟨c20⟩, ⟨(ok_ledger_Right k x8.1 _ e21)⟩, ⟨c20⟩, ⟨c20⟩, ⟨c18⟩, ⟨(ok_ledger_Right k x7.1 _ e19)⟩, ⟨c18⟩, ⟨c18⟩, ⟨c15⟩, ⟨c15⟩, ⟨c15⟩, ⟨(ok_ledger_Get k x1 x3 _ e17)⟩, ⟨c15⟩, ⟨c15⟩, ⟨c15⟩, ⟨(ok_ledger_Get k x8.1 x3 _ e16)⟩, ⟨c15⟩, ⟨c15⟩, ⟨c15⟩, ⟨c11⟩, ⟨c11⟩, ⟨c11⟩, ⟨(ok_ledger_Get k x2 x3 _ e14)⟩, ⟨c11⟩, ⟨c11⟩, ⟨c11⟩, ⟨(ok_ledger_Get k x1 x3 _ e13)⟩, ⟨c11⟩, ⟨c11⟩, ⟨c11⟩, ⟨(ok_ledger_Get k x7.1 x3 _ e12)⟩, ⟨c11⟩, ⟨c11⟩, ⟨c11⟩, ⟨c10⟩, ⟨c10⟩, ⟨c10⟩, ⟨(ok_ledger_Less k x1 _ e9)⟩, ⟨(ok_ledger_Sum k x1 x2 _ e8)⟩, ⟨(nF c7)⟩, ⟨(nF c5)⟩, ⟨(nF c5)⟩, ⟨(ok_ref08_Right k x2 _ e6)⟩, ⟨(nF c5)⟩, ⟨(nF c5)⟩, ⟨c3⟩, ⟨c3⟩, ⟨(ok_ref08_Right k x1 _ e4)⟩, ⟨c3⟩, ⟨c3⟩, ⟨c2⟩, ⟨c2⟩, ⟨(len_map e_u8_i64 x2)⟩, ⟨c2⟩, ⟨c2⟩, ⟨(len_map e_u8_i64 x1)⟩, ⟨(nF c1)⟩, ⟨(ok_law08_alive k _ e0)⟩] (by kernel_rfl)
                      · rw [if_neg c20] at h
                        replace c20 := eqf c20
                        obtain rfl := Option.some.inj h
                        exact Tri.of (x := X8) mixed facts8 [.call ⟨true, []⟩ (.bool x4) [], .d false, .n x1.length, .d false, .d false, .n x2.length, .d false, .d false, .d false, .d false, .call ⟨true, []⟩ (.bool x5) [], .d false, .d false, .d false, .d false, .call ⟨true, []⟩ (.bool x6) [], .d false, .d false, .d false, .call ⟨true, []⟩ (.tup [(.sl 2 (List.map e_u8_i64 x7.1)), (.int .i64 x7.2)]) [], .call ⟨true, []⟩ (.tup [(.sl 2 (List.map e_u8_i64 x8.1)), (.int .i64 x8.2)]) [], .d true, .d true, .d true, .d true, .d true, .d true, .call ⟨true, []⟩ (.int .i64 x9) [], .d true, .d true, .d true, .call ⟨true, []⟩ (.int .i64 x10) [], .d true, .d true, .d true, .call ⟨true, []⟩ (.int .i64 x11) [], .d true, .d true, .d true, .d true, .d true, .d true, .call ⟨true, []⟩ (.int .i64 x12) [], .d true, .d true, .d true, .call ⟨true, []⟩ (.int .i64 x13) [], .d true, .d true, .d true, .d true, .d true, .call ⟨true, []⟩ (.bool x14) [], .d true, .d false, .d false, .d false] [⟨c20⟩, ⟨c20⟩, ⟨c20⟩, ⟨c18⟩, ⟨(ok_ledger_Right k x7.1 _ e19)⟩, ⟨c18⟩, ⟨c18⟩, ⟨c15⟩, ⟨c15⟩, ⟨c15⟩, ⟨(ok_ledger_Get k x1 x3 _ e17)⟩, ⟨c15⟩, ⟨c15⟩, ⟨c15⟩, ⟨(ok_ledger_Get k x8.1 x3 _ e16)⟩, ⟨c15⟩, ⟨c15⟩, ⟨c15⟩, ⟨c11⟩, ⟨c11⟩, ⟨c11⟩, ⟨(ok_ledger_Get k x2 x3 _ e14)⟩, ⟨c11⟩, ⟨c11⟩, ⟨c11⟩, ⟨(ok_ledger_Get k x1 x3 _ e13)⟩, ⟨c11⟩, ⟨c11⟩, ⟨c11⟩, ⟨(ok_ledger_Get k x7.1 x3 _ e12)⟩, ⟨c11⟩, ⟨c11⟩, ⟨c11⟩, ⟨c10⟩, ⟨c10⟩, ⟨c10⟩, ⟨(ok_ledger_Less k x1 _ e9)⟩, ⟨(ok_ledger_Sum k x1 x2 _ e8)⟩, ⟨(nF c7)⟩, ⟨(nF c5)⟩, ⟨(nF c5)⟩, ⟨(ok_ref08_Right k x2 _ e6)⟩, ⟨(nF c5)⟩, ⟨(nF c5)⟩, ⟨c3⟩, ⟨c3⟩, ⟨(ok_ref08_Right k x1 _ e4)⟩, ⟨c3⟩, ⟨c3⟩, ⟨c2⟩, ⟨c2⟩, ⟨(len_map e_u8_i64 x2)⟩, ⟨c2⟩, ⟨c2⟩, ⟨(len_map e_u8_i64 x1)⟩, ⟨(nF c1)⟩, ⟨(ok_law08_alive k _ e0)⟩] (by kernel_rfl)
                    · rw [if_neg c18] at h
                      replace c18 := eqf c18
                      obtain rfl := Option.some.inj h
                      exact Tri.of (x := X8) mixed facts8 [.call ⟨true, []⟩ (.bool x4) [], .d false, .n x1.length, .d false, .d false, .n x2.length, .d false, .d false, .d false, .d false, .call ⟨true, []⟩ (.bool x5) [], .d false, .d false, .d false, .d false, .call ⟨true, []⟩ (.bool x6) [], .d false, .d false, .d false, .call ⟨true, []⟩ (.tup [(.sl 2 (List.map e_u8_i64 x7.1)), (.int .i64 x7.2)]) [], .call ⟨true, []⟩ (.tup [(.sl 2 (List.map e_u8_i64 x8.1)), (.int .i64 x8.2)]) [], .d true, .d true, .d true, .d true, .d true, .d true, .call ⟨true, []⟩ (.int .i64 x9) [], .d true, .d true, .d true, .call ⟨true, []⟩ (.int .i64 x10) [], .d true, .d true, .d true, .call ⟨true, []⟩ (.int .i64 x11) [], .d true, .d true, .d true, .d true, .d true, .d true, .call ⟨true, []⟩ (.int .i64 x12) [], .d true, .d true, .d true, .call ⟨true, []⟩ (.int .i64 x13) [], .d true, .d true, .d true, .d false, .d false, .d false, .d false, .d false, .d false] [⟨(rfl : false = false)⟩, ⟨(rfl : false = false)⟩, ⟨(rfl : false = false)⟩, ⟨c18⟩, ⟨c18⟩, ⟨c18⟩, ⟨c15⟩, ⟨c15⟩, ⟨c15⟩, ⟨(ok_ledger_Get k x1 x3 _ e17)⟩, ⟨c15⟩, ⟨c15⟩, ⟨c15⟩, ⟨(ok_ledger_Get k x8.1 x3 _ e16)⟩, ⟨c15⟩, ⟨c15⟩, ⟨c15⟩, ⟨c11⟩, ⟨c11⟩, ⟨c11⟩, ⟨(ok_ledger_Get k x2 x3 _ e14)⟩, ⟨c11⟩, ⟨c11⟩, ⟨c11⟩, ⟨(ok_ledger_Get k x1 x3 _ e13)⟩, ⟨c11⟩, ⟨c11⟩, ⟨c11⟩, ⟨(ok_ledger_Get k x7.1 x3 _ e12)⟩, ⟨c11⟩, ⟨c11⟩, ⟨c11⟩, ⟨c10⟩, ⟨c10⟩, ⟨c10⟩, ⟨(ok_ledger_Less k x1 _ e9)⟩, ⟨(ok_ledger_Sum k x1 x2 _ e8)⟩, ⟨(nF c7)⟩, ⟨(nF c5)⟩, ⟨(nF c5)⟩, ⟨(ok_ref08_Right k x2 _ e6)⟩, ⟨(nF c5)⟩, ⟨(nF c5)⟩, ⟨c3⟩, ⟨c3⟩, ⟨(ok_ref08_Right k x1 _ e4)⟩, ⟨c3⟩, ⟨c3⟩, ⟨c2⟩, ⟨c2⟩, ⟨(len_map e_u8_i64 x2)⟩, ⟨c2⟩, ⟨c2⟩, ⟨(len_map e_u8_i64 x1)⟩, ⟨(nF c1)⟩, ⟨(ok_law08_alive k _ e0)⟩] (by kernel_rfl)
                  · rw [if_neg c15] at h
                    replace c15 := eqf c15
                    obtain rfl := Option.some.inj h
                    exact Tri.of (x := X8) mixed facts8 [.call ⟨true, []⟩ (.bool x4) [], .d false, .n x1.length, .d false, .d false, .n x2.length, .d false, .d false, .d false, .d false, .call ⟨true, []⟩ (.bool x5) [], .d false, .d false, .d false, .d false, .call ⟨true, []⟩ (.bool x6) [], .d false, .d false, .d false, .call ⟨true, []⟩ (.tup [(.sl 2 (List.map e_u8_i64 x7.1)), (.int .i64 x7.2)]) [], .call ⟨true, []⟩ (.tup [(.sl 2 (List.map e_u8_i64 x8.1)), (.int .i64 x8.2)]) [], .d true, .d true, .d true, .d true, .d true, .d true, .call ⟨true, []⟩ (.int .i64 x9) [], .d true, .d true, .d true, .call ⟨true, []⟩ (.int .i64 x10) [], .d true, .d true, .d true, .call ⟨true, []⟩ (.int .i64 x11) [], .d true, .d true, .d true, .d false, .d false, .d false, .d false, .d false, .d false, .d false, .d false, .d false, .d false, .d false, .d false, .d false, .d false, .d false] [⟨(rfl : false = false)⟩, ⟨(rfl : false = false)⟩, ⟨(rfl : false = false)⟩, ⟨(rfl : false = false)⟩, ⟨(rfl : false = false)⟩, ⟨(rfl : false = false)⟩, ⟨c15⟩, ⟨c15⟩, ⟨c15⟩, ⟨c15⟩, ⟨c15⟩, ⟨c15⟩, ⟨c15⟩, ⟨c15⟩, ⟨c15⟩, ⟨c11⟩, ⟨c11⟩, ⟨c11⟩, ⟨(ok_ledger_Get k x2 x3 _ e14)⟩, ⟨c11⟩, ⟨c11⟩, ⟨c11⟩, ⟨(ok_ledger_Get k x1 x3 _ e13)⟩, ⟨c11⟩, ⟨c11⟩, ⟨c11⟩, ⟨(ok_ledger_Get k x7.1 x3 _ e12)⟩, ⟨c11⟩, ⟨c11⟩, ⟨c11⟩, ⟨c10⟩, ⟨c10⟩, ⟨c10⟩, ⟨(ok_ledger_Less k x1 _ e9)⟩, ⟨(ok_ledger_Sum k x1 x2 _ e8)⟩, ⟨(nF c7)⟩, ⟨(nF c5)⟩, ⟨(nF c5)⟩, ⟨(ok_ref08_Right k x2 _ e6)⟩, ⟨(nF c5)⟩, ⟨(nF c5)⟩, ⟨c3⟩, ⟨c3⟩, ⟨(ok_ref08_Right k x1 _ e4)⟩, ⟨c3⟩, ⟨c3⟩, ⟨c2⟩, ⟨c2⟩, ⟨(len_map e_u8_i64 x2)⟩, ⟨c2⟩, ⟨c2⟩, ⟨(len_map e_u8_i64 x1)⟩, ⟨(nF c1)⟩, ⟨(ok_law08_alive k _ e0)⟩] (by kernel_rfl)
                · rw [if_neg c11] at h
                  replace c11 := eqf c11
                  obtain rfl := Option.some.inj h
                  exact Tri.of (x := X8) mixed facts8 [.call ⟨true, []⟩ (.bool x4) [], .d false, .n x1.length, .d false, .d false, .n x2.length, .d false, .d false, .d false, .d false, .call ⟨true, []⟩ (.bool x5) [], .d false, .d false, .d false, .d false, .call ⟨true, []⟩ (.bool x6) [], .d false, .d false, .d false, .call ⟨true, []⟩ (.tup [(.sl 2 (List.map e_u8_i64 x7.1)), (.int .i64 x7.2)]) [], .call ⟨true, []⟩ (.tup [(.sl 2 (List.map e_u8_i64 x8.1)), (.int .i64 x8.2)]) [], .d true, .d true, .d true, .d false, .d false, .d false, .d false, .d false, .d false, .d false, .d false, .d false, .d false, .d false, .d false, .d false, .d false, .d false, .d false, .d false, .d false, .d false, .d false, .d false, .d false, .d false, .d false, .d false, .d false, .d false] [⟨(rfl : false = false)⟩, ⟨(rfl : false = false)⟩, ⟨(rfl : false = false)⟩, ⟨(rfl : false = false)⟩, ⟨(rfl : false = false)⟩, ⟨(rfl : false = false)⟩, ⟨(rfl : false = false)⟩, ⟨(rfl : false = false)⟩, ⟨(rfl : false = false)⟩, ⟨(rfl : false = false)⟩, ⟨(rfl : false = false)⟩, ⟨(rfl : false = false)⟩, ⟨(rfl : false = false)⟩, ⟨(rfl : false = false)⟩, ⟨(rfl : false = false)⟩, ⟨c11⟩, ⟨c11⟩, ⟨c11⟩, ⟨c11⟩, ⟨c11⟩, ⟨c11⟩, ⟨c11⟩, ⟨c11⟩, ⟨c11⟩, ⟨c11⟩, ⟨c11⟩, ⟨c11⟩, ⟨c10⟩, ⟨c10⟩, ⟨c10⟩, ⟨(ok_ledger_Less k x1 _ e9)⟩, ⟨(ok_ledger_Sum k x1 x2 _ e8)⟩, ⟨(nF c7)⟩, ⟨(nF c5)⟩, ⟨(nF c5)⟩, ⟨(ok_ref08_Right k x2 _ e6)⟩, ⟨(nF c5)⟩, ⟨(nF c5)⟩, ⟨c3⟩, ⟨c3⟩, ⟨(ok_ref08_Right k x1 _ e4)⟩, ⟨c3⟩, ⟨c3⟩, ⟨c2⟩, ⟨c2⟩, ⟨(len_map e_u8_i64 x2)⟩, ⟨c2⟩, ⟨c2⟩, ⟨(len_map e_u8_i64 x1)⟩, ⟨(nF c1)⟩, ⟨(ok_law08_alive k _ e0)⟩] (by kernel_rfl)
              · rw [if_neg c10] at h
                replace c10 := eqf c10
                obtain rfl := Option.some.inj h
                exact Tri.of (x := X8) mixed facts8 [.call ⟨true, []⟩ (.bool x4) [], .d false, .n x1.length, .d false, .d false, .n x2.length, .d false, .d false, .d false, .d false, .call ⟨true, []⟩ (.bool x5) [], .d false, .d false, .d false, .d false, .call ⟨true, []⟩ (.bool x6) [], .d false, .d false, .d false, .call ⟨true, []⟩ (.tup [(.sl 2 (List.map e_u8_i64 x7.1)), (.int .i64 x7.2)]) [], .call ⟨true, []⟩ (.tup [(.sl 2 (List.map e_u8_i64 x8.1)), (.int .i64 x8.2)]) [], .d false, .d false, .d false, .d false, .d false, .d false, .d false, .d false, .d false, .d false, .d false, .d false, .d false, .d false, .d false, .d false, .d false, .d false, .d false, .d false, .d false, .d false, .d false, .d false, .d false, .d false, .d false, .d false, .d false, .d false] [⟨(rfl : false = false)⟩, ⟨(rfl : false = false)⟩, ⟨(rfl : false = false)⟩, ⟨(rfl : false = false)⟩, ⟨(rfl : false = false)⟩, ⟨(rfl : false = false)⟩, ⟨(rfl : false = false)⟩, ⟨(rfl : false = false)⟩, ⟨(rfl : false = false)⟩, ⟨(rfl : false = false)⟩, ⟨(rfl : false = false)⟩, ⟨(rfl : false = false)⟩, ⟨(rfl : false = false)⟩, ⟨(rfl : false = false)⟩, ⟨(rfl : false = false)⟩, ⟨(rfl : false = false)⟩, ⟨(rfl : false = false)⟩, ⟨(rfl : false = false)⟩, ⟨(rfl : false = false)⟩, ⟨(rfl : false = false)⟩, ⟨(rfl : false = false)⟩, ⟨(rfl : false = false)⟩, ⟨(rfl : false = false)⟩, ⟨(rfl : false = false)⟩, ⟨(rfl : false = false)⟩, ⟨(rfl : false = false)⟩, ⟨(rfl : false = false)⟩, ⟨c10⟩, ⟨c10⟩, ⟨c10⟩, ⟨(ok_ledger_Less k x1 _ e9)⟩, ⟨(ok_ledger_Sum k x1 x2 _ e8)⟩, ⟨(nF c7)⟩, ⟨(nF c5)⟩, ⟨(nF c5)⟩, ⟨(ok_ref08_Right k x2 _ e6)⟩, ⟨(nF c5)⟩, ⟨(nF c5)⟩, ⟨c3⟩, ⟨c3⟩, ⟨(ok_ref08_Right k x1 _ e4)⟩, ⟨c3⟩, ⟨c3⟩, ⟨c2⟩, ⟨c2⟩, ⟨(len_map e_u8_i64 x2)⟩, ⟨c2⟩, ⟨c2⟩, ⟨(len_map e_u8_i64 x1)⟩, ⟨(nF c1)⟩, ⟨(ok_law08_alive k _ e0)⟩] (by kernel_rfl)
            · rw [if_neg c7] at h
              replace c7 := eqf c7
              obtain rfl := Option.some.inj h
              exact Tri.of (x := X8) mixed facts8 [.call ⟨true, []⟩ (.bool x4) [], .d false, .n x1.length, .d false, .d false, .n x2.length, .d false, .d false, .d false, .d false, .call ⟨true, []⟩ (.bool x5) [], .d false, .d false, .d false, .d false, .call ⟨true, []⟩ (.bool x6) [], .d false, .d false, .d true] [⟨(nT c7)⟩, ⟨(nF c5)⟩, ⟨(nF c5)⟩, ⟨(ok_ref08_Right k x2 _ e6)⟩, ⟨(nF c5)⟩, ⟨(nF c5)⟩, ⟨c3⟩, ⟨c3⟩, ⟨(ok_ref08_Right k x1 _ e4)⟩, ⟨c3⟩, ⟨c3⟩, ⟨c2⟩, ⟨c2⟩, ⟨(len_map e_u8_i64 x2)⟩, ⟨c2⟩, ⟨c2⟩, ⟨(len_map e_u8_i64 x1)⟩, ⟨(nF c1)⟩, ⟨(ok_law08_alive k _ e0)⟩] (by kernel_rfl)
          · rw [if_neg c5] at h
            replace c5 := eqf c5
            obtain rfl := Option.some.inj h
            exact Tri.of (x := X8) mixed facts8 [.call ⟨true, []⟩ (.bool x4) [], .d false, .n x1.length, .d false, .d false, .n x2.length, .d false, .d false, .d false, .d false, .call ⟨true, []⟩ (.bool x5) [], .d false, .d false, .d true, .d true, .d true, .d true, .d true] [⟨(rfl : true = true)⟩, ⟨(nT c5)⟩, ⟨(nT c5)⟩, ⟨(nT c5)⟩, ⟨(nT c5)⟩, ⟨c3⟩, ⟨c3⟩, ⟨(ok_ref08_Right k x1 _ e4)⟩, ⟨c3⟩, ⟨c3⟩, ⟨c2⟩, ⟨c2⟩, ⟨(len_map e_u8_i64 x2)⟩, ⟨c2⟩, ⟨c2⟩, ⟨(len_map e_u8_i64 x1)⟩, ⟨(nF c1)⟩, ⟨(ok_law08_alive k _ e0)⟩] (by kernel_rfl)
    · rw [if_neg c1] at h
      replace c1 := eqf c1
      obtain rfl := Option.some.inj h
      exact Tri.of (x := X8) mixed facts8 [.call ⟨true, []⟩ (.bool x4) [], .d true] [⟨(nT c1)⟩, ⟨(ok_law08_alive k _ e0)⟩] (by kernel_rfl)
end Go.Ws
