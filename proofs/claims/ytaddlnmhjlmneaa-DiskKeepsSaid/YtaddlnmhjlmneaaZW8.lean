/-
  law04_DiskKeeps: what the machine makes of it. (Printed by my own program.)
  Conditions: none.
-/
import Derived.Test.YtaddlnmhjlmneaaZPre
import Derived.Test.YtaddlnmhjlmneaaZPure
import Derived.Test.YtaddlnmhjlmneaaZW10
import Derived.Test.YtaddlnmhjlmneaaZW13
import Derived.Test.YtaddlnmhjlmneaaZW16
import Derived.Test.YtaddlnmhjlmneaaZW19
import Derived.Test.YtaddlnmhjlmneaaZW9
set_option linter.unusedVariables false
set_option linter.unusedSimpArgs false
namespace Go.Ws
open Go.Proofs
set_option linter.unusedSimpArgs false
set_option linter.unusedVariables false
set_option maxRecDepth 1000000
set_option maxHeartbeats 4000000
noncomputable def X8 : Ctx := ⟨Try.f8, [], true⟩
theorem ok_law04_DiskKeeps (k : Nat) (x1 : List Int) (x2 : Int) (x3 : Int) (x4 : Int) (x5 : Int) (r : Bool) (h : law04_DiskKeeps k x1 x2 x3 x4 x5 = some r) : Tri Try.prog 8 [(.agg [(.sl 1 (List.map e_u8 x1)), (.int .i64 x2), (.int .i64 x3)]), (.agg [(.int .u16 x4), (.int .u16 x5)])] [] (.bool r) [] := by
    unfold law04_DiskKeeps at h
    obtain ⟨x6, e0, h⟩ := Option.bind_eq_some_iff.1 h
    by_cases c1 : x6 = true
    · rw [if_pos c1] at h
      by_cases c2 : ltI 9000 (nI x1.length) = true
      · rw [if_pos c2] at h
        obtain rfl := Option.some.inj h
        exact Tri.of (x := X8) mixed facts8 [.call ⟨true, []⟩ (.bool x6) [], .d false, .n x1.length, .d true, .d true, .d true, .d true, .d true] [⟨(rfl : true = true)⟩, ⟨c2⟩, ⟨c2⟩, ⟨c2⟩, ⟨c2⟩, ⟨(len_map e_u8 x1)⟩, ⟨(nF c1)⟩, ⟨(ok_law04_alive k _ e0)⟩] (by kernel_rfl)
      · rw [if_neg c2] at h
        replace c2 := eqf c2
        by_cases c3 : (ref04_Right x1 x2 x3) = true
        · rw [if_pos c3] at h
          by_cases c4 : eqI (iadd .i64 (isub .i64 (nI x1.length) x2) 1) 0 = true
          · rw [if_pos c4] at h
            cases h
          · rw [if_neg c4] at h
            replace c4 := eqf c4
            obtain ⟨x7, e5, h⟩ := Option.bind_eq_some_iff.1 h
            obtain ⟨x8, e6, h⟩ := Option.bind_eq_some_iff.1 h
            obtain ⟨x9, e7, h⟩ := Option.bind_eq_some_iff.1 h
            obtain ⟨x10, e8, h⟩ := Option.bind_eq_some_iff.1 h
            by_cases c9 : ltI (nI x10.1.length) (nI x8.1.length) = true
            · rw [if_pos c9] at h
              obtain rfl := Option.some.inj h
              exact Tri.of (x := X8) mixed facts8 [.call ⟨true, []⟩ (.bool x6) [], .d false, .n x1.length, .d false, .d false, .call ⟨true, []⟩ (.bool (ref04_Right x1 x2 x3)) [], .d false, .d false, .d false, .n x1.length, .d false, .d false, .call ⟨true, []⟩ (.agg [(.sl 1 (List.map e_u8 x7.1)), (.int .i64 x7.2.1), (.int .i64 x7.2.2)]) [], .call ⟨true, []⟩ (.tup [(.sl 1 (List.map e_Lu8E x8.1)), (.int .i64 x8.2)]) [], .call ⟨true, []⟩ (.agg [(.sl 1 (List.map e_u8 x9.1)), (.int .i64 x9.2.1), (.int .i64 x9.2.2)]) [], .call ⟨true, []⟩ (.tup [(.sl 1 (List.map e_Lu8E x10.1)), (.int .i64 x10.2)]) [], .n x8.1.length, .n x10.1.length, .d false, .d false, .d false, .d false, .d false, .d false, .d false] [⟨(nF c9)⟩, ⟨(nF c9)⟩, ⟨(nF c9)⟩, ⟨(nF c9)⟩, ⟨(nF c9)⟩, ⟨(nF c9)⟩, ⟨(nF c9)⟩, ⟨(len_map e_Lu8E x10.1)⟩, ⟨(len_map e_Lu8E x8.1)⟩, ⟨(ok_disk_Records k x9.1 x9.2.1 x9.2.2 _ e8)⟩, ⟨(ok_disk_Crash k x1 x2 x3 (conv .u16 (imax (irem .i64 (conv .i64 x4) (iadd .i64 (isub .i64 (nI x1.length) x2) 1)) (irem .i64 (conv .i64 x5) (iadd .i64 (isub .i64 (nI x1.length) x2) 1)))) _ e7)⟩, ⟨(ok_disk_Records k x7.1 x7.2.1 x7.2.2 _ e6)⟩, ⟨(ok_disk_Crash k x1 x2 x3 (conv .u16 (imin (irem .i64 (conv .i64 x4) (iadd .i64 (isub .i64 (nI x1.length) x2) 1)) (irem .i64 (conv .i64 x5) (iadd .i64 (isub .i64 (nI x1.length) x2) 1)))) _ e5)⟩, ⟨c4⟩, ⟨c4⟩, ⟨(len_map e_u8 x1)⟩, ⟨(nF c3)⟩, ⟨c2⟩, ⟨c2⟩, ⟨(ok_ref04_Right x1 x2 x3)⟩, ⟨c2⟩, ⟨c2⟩, ⟨(len_map e_u8 x1)⟩, ⟨(nF c1)⟩, ⟨(ok_law04_alive k _ e0)⟩] (by kernel_rfl)
            · rw [if_neg c9] at h
              replace c9 := eqf c9
              by_cases c10 : leI (nI x8.1.length) x10.1.length = true
              · rw [if_pos c10] at h
                obtain ⟨x11, e11, h⟩ := Option.bind_eq_some_iff.1 h
                obtain rfl := Option.some.inj h
                exact Tri.of (x := X8) mixed facts8 [.call ⟨true, []⟩ (.bool x6) [], .d false, .n x1.length, .d false, .d false, .call ⟨true, []⟩ (.bool (ref04_Right x1 x2 x3)) [], .d false, .d false, .d false, .n x1.length, .d false, .d false, .call ⟨true, []⟩ (.agg [(.sl 1 (List.map e_u8 x7.1)), (.int .i64 x7.2.1), (.int .i64 x7.2.2)]) [], .call ⟨true, []⟩ (.tup [(.sl 1 (List.map e_Lu8E x8.1)), (.int .i64 x8.2)]) [], .call ⟨true, []⟩ (.agg [(.sl 1 (List.map e_u8 x9.1)), (.int .i64 x9.2.1), (.int .i64 x9.2.2)]) [], .call ⟨true, []⟩ (.tup [(.sl 1 (List.map e_Lu8E x10.1)), (.int .i64 x10.2)]) [], .n x8.1.length, .n x10.1.length, .d true, .d true, .d true, .d true, .n x8.1.length, .d true, .n x10.1.length, .rows (List.map e_Lu8E (List.take x8.1.length x10.1)), .d true, .call ⟨true, []⟩ (.bool x11) [], .d true] [⟨(nT c9)⟩, ⟨(ok_law04_same k x8.1 (List.take x8.1.length x10.1) _ e11)⟩, ⟨(nT c9)⟩, ⟨(cut_take e_Lu8E x10.1 x8.1.length)⟩, ⟨c10⟩, ⟨(len_map e_Lu8E x10.1)⟩, ⟨(nT c9)⟩, ⟨(len_map e_Lu8E x8.1)⟩, ⟨(nT c9)⟩, ⟨(nT c9)⟩, ⟨(nT c9)⟩, ⟨(nT c9)⟩, ⟨(len_map e_Lu8E x10.1)⟩, ⟨(len_map e_Lu8E x8.1)⟩, ⟨(ok_disk_Records k x9.1 x9.2.1 x9.2.2 _ e8)⟩, ⟨(ok_disk_Crash k x1 x2 x3 (conv .u16 (imax (irem .i64 (conv .i64 x4) (iadd .i64 (isub .i64 (nI x1.length) x2) 1)) (irem .i64 (conv .i64 x5) (iadd .i64 (isub .i64 (nI x1.length) x2) 1)))) _ e7)⟩, ⟨(ok_disk_Records k x7.1 x7.2.1 x7.2.2 _ e6)⟩, ⟨(ok_disk_Crash k x1 x2 x3 (conv .u16 (imin (irem .i64 (conv .i64 x4) (iadd .i64 (isub .i64 (nI x1.length) x2) 1)) (irem .i64 (conv .i64 x5) (iadd .i64 (isub .i64 (nI x1.length) x2) 1)))) _ e5)⟩, ⟨c4⟩, ⟨c4⟩, ⟨(len_map e_u8 x1)⟩, ⟨(nF c3)⟩, ⟨c2⟩, ⟨c2⟩, ⟨(ok_ref04_Right x1 x2 x3)⟩, ⟨c2⟩, ⟨c2⟩, ⟨(len_map e_u8 x1)⟩, ⟨(nF c1)⟩, ⟨(ok_law04_alive k _ e0)⟩] (by kernel_rfl)
              · rw [if_neg c10] at h
                replace c10 := eqf c10
                cases h
        · rw [if_neg c3] at h
          replace c3 := eqf c3
          obtain rfl := Option.some.inj h
          exact Tri.of (x := X8) mixed facts8 [.call ⟨true, []⟩ (.bool x6) [], .d false, .n x1.length, .d false, .d false, .call ⟨true, []⟩ (.bool (ref04_Right x1 x2 x3)) [], .d false, .d false, .d true] [⟨(nT c3)⟩, ⟨c2⟩, ⟨c2⟩, ⟨(ok_ref04_Right x1 x2 x3)⟩, ⟨c2⟩, ⟨c2⟩, ⟨(len_map e_u8 x1)⟩, ⟨(nF c1)⟩, ⟨(ok_law04_alive k _ e0)⟩] (by kernel_rfl)
    · rw [if_neg c1] at h
      replace c1 := eqf c1
      obtain rfl := Option.some.inj h
      exact Tri.of (x := X8) mixed facts8 [.call ⟨true, []⟩ (.bool x6) [], .d true] [⟨(nT c1)⟩, ⟨(ok_law04_alive k _ e0)⟩] (by kernel_rfl)
end Go.Ws
