/-
  law04_DiskRenews: what the machine makes of it. (Printed by my own program.)
  Conditions: none.
-/
import Derived.Test.YtaddlnmhjlmneaaZPre
import Derived.Test.YtaddlnmhjlmneaaZPure
import Derived.Test.YtaddlnmhjlmneaaZW10
import Derived.Test.YtaddlnmhjlmneaaZW13
import Derived.Test.YtaddlnmhjlmneaaZW15
import Derived.Test.YtaddlnmhjlmneaaZW16
import Derived.Test.YtaddlnmhjlmneaaZW19
import Derived.Test.YtaddlnmhjlmneaaZW23
import Derived.Test.YtaddlnmhjlmneaaZW24
import Derived.Test.YtaddlnmhjlmneaaZW25
import Derived.Test.YtaddlnmhjlmneaaZW9
set_option linter.unusedVariables false
set_option linter.unusedSimpArgs false
namespace Go.Ws
open Go.Proofs
set_option linter.unusedSimpArgs false
set_option linter.unusedVariables false
set_option maxRecDepth 1000000
set_option maxHeartbeats 4000000
noncomputable def X4 : Ctx := ⟨Try.f4, [], true⟩
theorem ok_law04_DiskRenews (k : Nat) (x1 : List Int) (x2 : Int) (x3 : Int) (x4 : List (List Int)) (x5 : Int) (r : Bool) (h : law04_DiskRenews k x1 x2 x3 x4 x5 = some r) : Tri Try.prog 4 [(.agg [(.sl 1 (List.map e_u8 x1)), (.int .i64 x2), (.int .i64 x3)]), (.sl 1 (List.map e_Lu8E x4)), (.int .u16 x5)] [] (.bool r) [] := by
    unfold law04_DiskRenews at h
    obtain ⟨x6, e0, h⟩ := Option.bind_eq_some_iff.1 h
    by_cases c1 : x6 = true
    · rw [if_pos c1] at h
      by_cases c2 : ltI 9000 (nI x1.length) = true
      · rw [if_pos c2] at h
        obtain rfl := Option.some.inj h
        exact Tri.of (x := X4) mixed facts4 [.call ⟨true, []⟩ (.bool x6) [], .d false, .n x1.length, .d true, .d true, .d true, .d true, .d true, .d true, .d true, .d true, .d true] [⟨(rfl : true = true)⟩, ⟨(rfl : true = true)⟩, ⟨(rfl : true = true)⟩, ⟨(rfl : true = true)⟩, ⟨(rfl : true = true)⟩, ⟨c2⟩, ⟨c2⟩, ⟨c2⟩, ⟨c2⟩, ⟨(len_map e_u8 x1)⟩, ⟨(nF c1)⟩, ⟨(ok_law04_alive k _ e0)⟩] (by kernel_rfl)
      · rw [if_neg c2] at h
        replace c2 := eqf c2
        obtain ⟨x7, e3, h⟩ := Option.bind_eq_some_iff.1 h
        by_cases c4 : x7 = true
        · rw [if_pos c4] at h
          by_cases c5 : (ref04_Right x1 x2 x3) = true
          · rw [if_pos c5] at h
            obtain ⟨x8, e6, h⟩ := Option.bind_eq_some_iff.1 h
            obtain ⟨x9, e7, h⟩ := Option.bind_eq_some_iff.1 h
            by_cases c8 : (ref04_Same x8.1 x8.2.1 x8.2.2.1 x9.1 x9.2.1 x9.2.2.1) = true
            · rw [if_pos c8] at h
              by_cases c9 : eqI x8.2.2.2 x9.2.2.2 = true
              · rw [if_pos c9] at h
                by_cases c10 : eqI x8.2.2.2 0 = true
                · rw [if_pos c10] at h
                  obtain ⟨x10, e11, h⟩ := Option.bind_eq_some_iff.1 h
                  obtain ⟨x11, e12, h⟩ := Option.bind_eq_some_iff.1 h
                  obtain ⟨x12, e13, h⟩ := Option.bind_eq_some_iff.1 h
                  by_cases c14 : x12 = true
                  · rw [if_pos c14] at h
                    obtain rfl := Option.some.inj h
                    exact Tri.of (x := X4) mixed facts4 [.call ⟨true, []⟩ (.bool x6) [], .d false, .n x1.length, .d false, .d false, .call ⟨true, []⟩ (.bool x7) [], .d false, .d false, .d false, .d false, .call ⟨true, []⟩ (.bool (ref04_Right x1 x2 x3)) [], .d false, .d false, .d false, .call ⟨true, []⟩ (.tup [(.agg [(.sl 1 (List.map e_u8 x8.1)), (.int .i64 x8.2.1), (.int .i64 x8.2.2.1)]), (.int .i64 x8.2.2.2)]) [], .call ⟨true, []⟩ (.tup [(.agg [(.sl 1 (List.map e_u8 x9.1)), (.int .i64 x9.2.1), (.int .i64 x9.2.2.1)]), (.int .i64 x9.2.2.2)]) [], .call ⟨true, []⟩ (.bool (ref04_Same x8.1 x8.2.1 x8.2.2.1 x9.1 x9.2.1 x9.2.2.1)) [], .d false, .d false, .d false, .d false, .d false, .d false, .call ⟨true, []⟩ (.agg [(.sl 1 (List.map e_u8 x10.1)), (.int .i64 x10.2.1), (.int .i64 x10.2.2)]) [], .call ⟨true, []⟩ (.tup [(.sl 1 (List.map e_Lu8E x11.1)), (.int .i64 x11.2)]) [], .call ⟨true, []⟩ (.bool x12) [], .d true, .d true, .d true, .d true, .n x8.1.length, .d true, .d true] [⟨c14⟩, ⟨c14⟩, ⟨(len_map e_u8 x8.1)⟩, ⟨c14⟩, ⟨c14⟩, ⟨c14⟩, ⟨c14⟩, ⟨(ok_law04_same k x11.1 x4 _ e13)⟩, ⟨(ok_disk_Records k x10.1 x10.2.1 x10.2.2 _ e12)⟩, ⟨(ok_disk_Crash k x8.1 x8.2.1 x8.2.2.1 x5 _ e11)⟩, ⟨(nF c10)⟩, ⟨(nF c9)⟩, ⟨(nF c8)⟩, ⟨(nF c8)⟩, ⟨(nF c8)⟩, ⟨(nF c8)⟩, ⟨(ok_ref04_Same x8.1 x8.2.1 x8.2.2.1 x9.1 x9.2.1 x9.2.2.1)⟩, ⟨(ok_ref04_Renew k x1 x2 x3 x4 _ e7)⟩, ⟨(ok_disk_Renew k x1 x2 x3 x4 _ e6)⟩, ⟨(nF c5)⟩, ⟨(nF c4)⟩, ⟨(nF c4)⟩, ⟨(ok_ref04_Right x1 x2 x3)⟩, ⟨(nF c4)⟩, ⟨(nF c4)⟩, ⟨c2⟩, ⟨c2⟩, ⟨(ok_law04_few k x4 _ e3)⟩, ⟨c2⟩, ⟨c2⟩, ⟨(len_map e_u8 x1)⟩, ⟨(nF c1)⟩, ⟨(ok_law04_alive k _ e0)⟩] (by kernel_rfl)
                  · rw [if_neg c14] at h
                    replace c14 := eqf c14
                    obtain rfl := Option.some.inj h
                    exact Tri.of (x := X4) mixed facts4 [.call ⟨true, []⟩ (.bool x6) [], .d false, .n x1.length, .d false, .d false, .call ⟨true, []⟩ (.bool x7) [], .d false, .d false, .d false, .d false, .call ⟨true, []⟩ (.bool (ref04_Right x1 x2 x3)) [], .d false, .d false, .d false, .call ⟨true, []⟩ (.tup [(.agg [(.sl 1 (List.map e_u8 x8.1)), (.int .i64 x8.2.1), (.int .i64 x8.2.2.1)]), (.int .i64 x8.2.2.2)]) [], .call ⟨true, []⟩ (.tup [(.agg [(.sl 1 (List.map e_u8 x9.1)), (.int .i64 x9.2.1), (.int .i64 x9.2.2.1)]), (.int .i64 x9.2.2.2)]) [], .call ⟨true, []⟩ (.bool (ref04_Same x8.1 x8.2.1 x8.2.2.1 x9.1 x9.2.1 x9.2.2.1)) [], .d false, .d false, .d false, .d false, .d false, .d false, .call ⟨true, []⟩ (.agg [(.sl 1 (List.map e_u8 x10.1)), (.int .i64 x10.2.1), (.int .i64 x10.2.2)]) [], .call ⟨true, []⟩ (.tup [(.sl 1 (List.map e_Lu8E x11.1)), (.int .i64 x11.2)]) [], .call ⟨true, []⟩ (.bool x12) [], .d false, .d false, .d false, .d false, .d false, .d false] [⟨c14⟩, ⟨c14⟩, ⟨c14⟩, ⟨c14⟩, ⟨c14⟩, ⟨c14⟩, ⟨(ok_law04_same k x11.1 x4 _ e13)⟩, ⟨(ok_disk_Records k x10.1 x10.2.1 x10.2.2 _ e12)⟩, ⟨(ok_disk_Crash k x8.1 x8.2.1 x8.2.2.1 x5 _ e11)⟩, ⟨(nF c10)⟩, ⟨(nF c9)⟩, ⟨(nF c8)⟩, ⟨(nF c8)⟩, ⟨(nF c8)⟩, ⟨(nF c8)⟩, ⟨(ok_ref04_Same x8.1 x8.2.1 x8.2.2.1 x9.1 x9.2.1 x9.2.2.1)⟩, ⟨(ok_ref04_Renew k x1 x2 x3 x4 _ e7)⟩, ⟨(ok_disk_Renew k x1 x2 x3 x4 _ e6)⟩, ⟨(nF c5)⟩, ⟨(nF c4)⟩, ⟨(nF c4)⟩, ⟨(ok_ref04_Right x1 x2 x3)⟩, ⟨(nF c4)⟩, ⟨(nF c4)⟩, ⟨c2⟩, ⟨c2⟩, ⟨(ok_law04_few k x4 _ e3)⟩, ⟨c2⟩, ⟨c2⟩, ⟨(len_map e_u8 x1)⟩, ⟨(nF c1)⟩, ⟨(ok_law04_alive k _ e0)⟩] (by kernel_rfl)
                · rw [if_neg c10] at h
                  replace c10 := eqf c10
                  obtain rfl := Option.some.inj h
                  exact Tri.of (x := X4) mixed facts4 [.call ⟨true, []⟩ (.bool x6) [], .d false, .n x1.length, .d false, .d false, .call ⟨true, []⟩ (.bool x7) [], .d false, .d false, .d false, .d false, .call ⟨true, []⟩ (.bool (ref04_Right x1 x2 x3)) [], .d false, .d false, .d false, .call ⟨true, []⟩ (.tup [(.agg [(.sl 1 (List.map e_u8 x8.1)), (.int .i64 x8.2.1), (.int .i64 x8.2.2.1)]), (.int .i64 x8.2.2.2)]) [], .call ⟨true, []⟩ (.tup [(.agg [(.sl 1 (List.map e_u8 x9.1)), (.int .i64 x9.2.1), (.int .i64 x9.2.2.1)]), (.int .i64 x9.2.2.2)]) [], .call ⟨true, []⟩ (.bool (ref04_Same x8.1 x8.2.1 x8.2.2.1 x9.1 x9.2.1 x9.2.2.1)) [], .d false, .d false, .d false, .d false, .d false, .d true] [⟨(nT c10)⟩, ⟨(nF c9)⟩, ⟨(nF c8)⟩, ⟨(nF c8)⟩, ⟨(nF c8)⟩, ⟨(nF c8)⟩, ⟨(ok_ref04_Same x8.1 x8.2.1 x8.2.2.1 x9.1 x9.2.1 x9.2.2.1)⟩, ⟨(ok_ref04_Renew k x1 x2 x3 x4 _ e7)⟩, ⟨(ok_disk_Renew k x1 x2 x3 x4 _ e6)⟩, ⟨(nF c5)⟩, ⟨(nF c4)⟩, ⟨(nF c4)⟩, ⟨(ok_ref04_Right x1 x2 x3)⟩, ⟨(nF c4)⟩, ⟨(nF c4)⟩, ⟨c2⟩, ⟨c2⟩, ⟨(ok_law04_few k x4 _ e3)⟩, ⟨c2⟩, ⟨c2⟩, ⟨(len_map e_u8 x1)⟩, ⟨(nF c1)⟩, ⟨(ok_law04_alive k _ e0)⟩] (by kernel_rfl)
              · rw [if_neg c9] at h
                replace c9 := eqf c9
                obtain rfl := Option.some.inj h
                exact Tri.of (x := X4) mixed facts4 [.call ⟨true, []⟩ (.bool x6) [], .d false, .n x1.length, .d false, .d false, .call ⟨true, []⟩ (.bool x7) [], .d false, .d false, .d false, .d false, .call ⟨true, []⟩ (.bool (ref04_Right x1 x2 x3)) [], .d false, .d false, .d false, .call ⟨true, []⟩ (.tup [(.agg [(.sl 1 (List.map e_u8 x8.1)), (.int .i64 x8.2.1), (.int .i64 x8.2.2.1)]), (.int .i64 x8.2.2.2)]) [], .call ⟨true, []⟩ (.tup [(.agg [(.sl 1 (List.map e_u8 x9.1)), (.int .i64 x9.2.1), (.int .i64 x9.2.2.1)]), (.int .i64 x9.2.2.2)]) [], .call ⟨true, []⟩ (.bool (ref04_Same x8.1 x8.2.1 x8.2.2.1 x9.1 x9.2.1 x9.2.2.1)) [], .d false, .d false, .d false, .d false, .d true] [⟨(nT c9)⟩, ⟨(nF c8)⟩, ⟨(nF c8)⟩, ⟨(nF c8)⟩, ⟨(nF c8)⟩, ⟨(ok_ref04_Same x8.1 x8.2.1 x8.2.2.1 x9.1 x9.2.1 x9.2.2.1)⟩, ⟨(ok_ref04_Renew k x1 x2 x3 x4 _ e7)⟩, ⟨(ok_disk_Renew k x1 x2 x3 x4 _ e6)⟩, ⟨(nF c5)⟩, ⟨(nF c4)⟩, ⟨(nF c4)⟩, ⟨(ok_ref04_Right x1 x2 x3)⟩, ⟨(nF c4)⟩, ⟨(nF c4)⟩, ⟨c2⟩, ⟨c2⟩, ⟨(ok_law04_few k x4 _ e3)⟩, ⟨c2⟩, ⟨c2⟩, ⟨(len_map e_u8 x1)⟩, ⟨(nF c1)⟩, ⟨(ok_law04_alive k _ e0)⟩] (by kernel_rfl)
            · rw [if_neg c8] at h
              replace c8 := eqf c8
              obtain rfl := Option.some.inj h
              exact Tri.of (x := X4) mixed facts4 [.call ⟨true, []⟩ (.bool x6) [], .d false, .n x1.length, .d false, .d false, .call ⟨true, []⟩ (.bool x7) [], .d false, .d false, .d false, .d false, .call ⟨true, []⟩ (.bool (ref04_Right x1 x2 x3)) [], .d false, .d false, .d false, .call ⟨true, []⟩ (.tup [(.agg [(.sl 1 (List.map e_u8 x8.1)), (.int .i64 x8.2.1), (.int .i64 x8.2.2.1)]), (.int .i64 x8.2.2.2)]) [], .call ⟨true, []⟩ (.tup [(.agg [(.sl 1 (List.map e_u8 x9.1)), (.int .i64 x9.2.1), (.int .i64 x9.2.2.1)]), (.int .i64 x9.2.2.2)]) [], .call ⟨true, []⟩ (.bool (ref04_Same x8.1 x8.2.1 x8.2.2.1 x9.1 x9.2.1 x9.2.2.1)) [], .d true, .d true, .d true, .d true, .d true] [⟨(rfl : true = true)⟩, ⟨(nT c8)⟩, ⟨(nT c8)⟩, ⟨(nT c8)⟩, ⟨(nT c8)⟩, ⟨(ok_ref04_Same x8.1 x8.2.1 x8.2.2.1 x9.1 x9.2.1 x9.2.2.1)⟩, ⟨(ok_ref04_Renew k x1 x2 x3 x4 _ e7)⟩, ⟨(ok_disk_Renew k x1 x2 x3 x4 _ e6)⟩, ⟨(nF c5)⟩, ⟨(nF c4)⟩, ⟨(nF c4)⟩, ⟨(ok_ref04_Right x1 x2 x3)⟩, ⟨(nF c4)⟩, ⟨(nF c4)⟩, ⟨c2⟩, ⟨c2⟩, ⟨(ok_law04_few k x4 _ e3)⟩, ⟨c2⟩, ⟨c2⟩, ⟨(len_map e_u8 x1)⟩, ⟨(nF c1)⟩, ⟨(ok_law04_alive k _ e0)⟩] (by kernel_rfl)
          · rw [if_neg c5] at h
            replace c5 := eqf c5
            obtain rfl := Option.some.inj h
            exact Tri.of (x := X4) mixed facts4 [.call ⟨true, []⟩ (.bool x6) [], .d false, .n x1.length, .d false, .d false, .call ⟨true, []⟩ (.bool x7) [], .d false, .d false, .d false, .d false, .call ⟨true, []⟩ (.bool (ref04_Right x1 x2 x3)) [], .d false, .d false, .d true] [⟨(nT c5)⟩, ⟨(nF c4)⟩, ⟨(nF c4)⟩, ⟨(ok_ref04_Right x1 x2 x3)⟩, ⟨(nF c4)⟩, ⟨(nF c4)⟩, ⟨c2⟩, ⟨c2⟩, ⟨(ok_law04_few k x4 _ e3)⟩, ⟨c2⟩, ⟨c2⟩, ⟨(len_map e_u8 x1)⟩, ⟨(nF c1)⟩, ⟨(ok_law04_alive k _ e0)⟩] (by kernel_rfl)
        · rw [if_neg c4] at h
          replace c4 := eqf c4
          obtain rfl := Option.some.inj h
          exact Tri.of (x := X4) mixed facts4 [.call ⟨true, []⟩ (.bool x6) [], .d false, .n x1.length, .d false, .d false, .call ⟨true, []⟩ (.bool x7) [], .d false, .d false, .d true, .d true, .d true, .d true, .d true] [⟨(rfl : true = true)⟩, ⟨(nT c4)⟩, ⟨(nT c4)⟩, ⟨(nT c4)⟩, ⟨(nT c4)⟩, ⟨c2⟩, ⟨c2⟩, ⟨(ok_law04_few k x4 _ e3)⟩, ⟨c2⟩, ⟨c2⟩, ⟨(len_map e_u8 x1)⟩, ⟨(nF c1)⟩, ⟨(ok_law04_alive k _ e0)⟩] (by kernel_rfl)
    · rw [if_neg c1] at h
      replace c1 := eqf c1
      obtain rfl := Option.some.inj h
      exact Tri.of (x := X4) mixed facts4 [.call ⟨true, []⟩ (.bool x6) [], .d true] [⟨(nT c1)⟩, ⟨(ok_law04_alive k _ e0)⟩] (by kernel_rfl)
end Go.Ws
