/-
  law09_PartSame: what the machine makes of it. (Printed by my own program.)
  Conditions: none.
-/
import Derived.Test.YtnokdedppgmliaaZPre
import Derived.Test.YtnokdedppgmliaaZPure
import Derived.Test.YtnokdedppgmliaaZW13
import Derived.Test.YtnokdedppgmliaaZW17_3
import Derived.Test.YtnokdedppgmliaaZW18
import Derived.Test.YtnokdedppgmliaaZW19
import Derived.Test.YtnokdedppgmliaaZW20
import Derived.Test.YtnokdedppgmliaaZW9
set_option linter.unusedVariables false
set_option linter.unusedSimpArgs false
namespace Go.Ws
open Go.Proofs
set_option linter.unusedSimpArgs false
set_option linter.unusedVariables false
set_option maxRecDepth 1000000
set_option maxHeartbeats 4000000
noncomputable def X7 : Ctx := ⟨Try.f7, [], true⟩
theorem ok_law09_PartSame (k : Nat) (x1 : Int) (x2 : List (Int × Int)) (x3 : Bool) (x4 : Int) (x5 : Int) (r : Bool) (h : law09_PartSame k x1 x2 x3 x4 x5 = some r) : Tri Try.prog 7 [(.agg [(.int .i64 x1), (.sl 2 (List.map e_u8_i64 x2)), (.bool x3), (.int .i64 x4)]), (.int .u8 x5)] [] (.bool r) [] := by
    unfold law09_PartSame at h
    obtain ⟨x6, e0, h⟩ := Option.bind_eq_some_iff.1 h
    by_cases c1 : x6 = true
    · rw [if_pos c1] at h
      by_cases c2 : ltI 80 (nI x2.length) = true
      · rw [if_pos c2] at h
        obtain rfl := Option.some.inj h
        exact Tri.of (x := X7) mixed facts7 [.call ⟨true, []⟩ (.bool x6) [], .d false, .n x2.length, .d true, .d true, .d true, .d true, .d true, .d true, .d true, .d true, .d true, .d true, .d true, .d true] [⟨(rfl : true = true)⟩, ⟨(rfl : true = true)⟩, ⟨(rfl : true = true)⟩, ⟨(rfl : true = true)⟩, ⟨(rfl : true = true)⟩, ⟨(rfl : true = true)⟩, ⟨(rfl : true = true)⟩, ⟨(rfl : true = true)⟩, ⟨c2⟩, ⟨c2⟩, ⟨c2⟩, ⟨c2⟩, ⟨(len_map e_u8_i64 x2)⟩, ⟨(nF c1)⟩, ⟨(ok_law09_alive k _ e0)⟩] (by kernel_rfl)
      · rw [if_neg c2] at h
        replace c2 := eqf c2
        obtain ⟨x7, e3, h⟩ := Option.bind_eq_some_iff.1 h
        by_cases c4 : x7 = true
        · rw [if_pos c4] at h
          by_cases c5 : eqI x1 1 = true
          · rw [if_pos c5] at h
            by_cases c6 : x3 = true
            · rw [if_pos c6] at h
              obtain rfl := Option.some.inj h
              exact Tri.of (x := X7) mixed facts7 [.call ⟨true, []⟩ (.bool x6) [], .d false, .n x2.length, .d false, .d false, .call ⟨true, []⟩ (.bool x7) [], .d false, .d false, .d false, .d false, .d false, .d false, .d false, .d false, .d false, .d true] [⟨c6⟩, ⟨(nF c5)⟩, ⟨(nF c5)⟩, ⟨(nF c5)⟩, ⟨(nF c4)⟩, ⟨(nF c4)⟩, ⟨(nF c4)⟩, ⟨(nF c4)⟩, ⟨c2⟩, ⟨c2⟩, ⟨(ok_ref09_Right k x1 x2 x3 x4 _ e3)⟩, ⟨c2⟩, ⟨c2⟩, ⟨(len_map e_u8_i64 x2)⟩, ⟨(nF c1)⟩, ⟨(ok_law09_alive k _ e0)⟩] (by kernel_rfl)
            · rw [if_neg c6] at h
              replace c6 := eqf c6
              obtain ⟨x8, e7, h⟩ := Option.bind_eq_some_iff.1 h
              obtain ⟨x9, e8, h⟩ := Option.bind_eq_some_iff.1 h
              obtain ⟨x10, e9, h⟩ := Option.bind_eq_some_iff.1 h
              by_cases c10 : eqI x8.2.2.2.2.2 0 = true
              · rw [if_pos c10] at h
                by_cases c11 : eqI x9.2.2.2.2.2 0 = true
                · rw [if_pos c11] at h
                  by_cases c12 : eqI x10.2.2.2.2.2 0 = true
                  · rw [if_pos c12] at h
                    by_cases c13 : eqI x8.2.2.2.1 x10.2.2.2.1 = true
                    · rw [if_pos c13] at h
                      by_cases c14 : eqI x8.1 x10.1 = true
                      · rw [if_pos c14] at h
                        obtain ⟨x11, e15, h⟩ := Option.bind_eq_some_iff.1 h
                        by_cases c16 : roomI (x9.2.2.2.2.1.length * 16) = true
                        · rw [if_pos c16] at h
                          by_cases c17 : roomI (((x9.2.2.2.2.1 ++ x10.2.2.2.2.1).length) * 16) = true
                          · rw [if_pos c17] at h
                            obtain ⟨x12, e18, h⟩ := Option.bind_eq_some_iff.1 h
                            obtain ⟨x13, e19, h⟩ := Option.bind_eq_some_iff.1 h
                            obtain rfl := Option.some.inj h
                            exact Tri.of (x := X7) mixed facts7 [.call ⟨true, []⟩ (.bool x6) [], .d false, .n x2.length, .d false, .d false, .call ⟨true, []⟩ (.bool x7) [], .d false, .d false, .d false, .d false, .d false, .d false, .d false, .d false, .d false, .d false, .d false, .call ⟨true, []⟩ (.tup [(.agg [(.int .i64 x8.1), (.sl 2 (List.map e_u8_i64 x8.2.1)), (.bool x8.2.2.1), (.int .i64 x8.2.2.2.1)]), (.sl 2 (List.map e_u8_i64 x8.2.2.2.2.1)), (.int .i64 x8.2.2.2.2.2)]) [], .call ⟨true, []⟩ (.tup [(.agg [(.int .i64 x9.1), (.sl 2 (List.map e_u8_i64 x9.2.1)), (.bool x9.2.2.1), (.int .i64 x9.2.2.2.1)]), (.sl 2 (List.map e_u8_i64 x9.2.2.2.2.1)), (.int .i64 x9.2.2.2.2.2)]) [], .call ⟨true, []⟩ (.tup [(.agg [(.int .i64 x10.1), (.sl 2 (List.map e_u8_i64 x10.2.1)), (.bool x10.2.2.1), (.int .i64 x10.2.2.2.1)]), (.sl 2 (List.map e_u8_i64 x10.2.2.2.2.1)), (.int .i64 x10.2.2.2.2.2)]) [], .d false, .d false, .d false, .d false, .d false, .d false, .d false, .d false, .d false, .d false, .d false, .d false, .d false, .d false, .d false, .d false, .d false, .d false, .d false, .call ⟨true, []⟩ (.sl 2 (List.map e_u8_i64 x11)) [], .n x9.2.2.2.2.1.length, .n ((x9.2.2.2.2.1 ++ x10.2.2.2.2.1).length), .n x9.2.2.2.2.1.length, .d true, .rows (List.map e_u8_i64 (x9.2.2.2.2.1 ++ x10.2.2.2.2.1)), .call ⟨true, []⟩ (.sl 2 (List.map e_u8_i64 x12)) [], .rows (List.map e_u8_i64 (x9.2.2.2.2.1 ++ x10.2.2.2.2.1)), .call ⟨true, []⟩ (.bool x13) []] [⟨(ok_ref08_Same k x11 x12 _ e19)⟩, ⟨(ok_ref08_Of_3 k (x9.2.2.2.2.1 ++ x10.2.2.2.2.1) _ e18)⟩, ⟨(part_all e_u8_i64 (l := (x9.2.2.2.2.1 ++ x10.2.2.2.2.1)) (n := ((x9.2.2.2.2.1 ++ x10.2.2.2.2.1).length)) rfl)⟩, ⟨(le_map e_u8_i64 (Nat.le_refl ((x9.2.2.2.2.1 ++ x10.2.2.2.2.1).length)) : 0 + (x9.2.2.2.2.1 ++ x10.2.2.2.2.1).length ≤ (List.map e_u8_i64 (x9.2.2.2.2.1 ++ x10.2.2.2.2.1)).length)⟩, ⟨(app_map e_u8_i64 x9.2.2.2.2.1 x10.2.2.2.2.1)⟩, ⟨(eqN_self x9.2.2.2.2.1.length)⟩, ⟨(len_map e_u8_i64 x9.2.2.2.2.1)⟩, ⟨c17⟩, ⟨(by simp only [List.length_append, List.length_cons, List.length_nil, List.length_take, List.length_drop, List.length_set, List.length_replicate, List.length_map, List.map_nil, List.map_cons] <;> omega : x9.2.2.2.2.1.length + (List.map e_u8_i64 x10.2.2.2.2.1).length = (x9.2.2.2.2.1 ++ x10.2.2.2.2.1).length)⟩, ⟨c16⟩, ⟨(len_map e_u8_i64 x9.2.2.2.2.1)⟩, ⟨(ok_ref08_Of_3 k x8.2.2.2.2.1 _ e15)⟩, ⟨(nF c14)⟩, ⟨(nF c13)⟩, ⟨(nF c13)⟩, ⟨(nF c13)⟩, ⟨(nF c13)⟩, ⟨(nF c13)⟩, ⟨(nF c13)⟩, ⟨(nF c12)⟩, ⟨(nF c12)⟩, ⟨(nF c12)⟩, ⟨(nF c12)⟩, ⟨(nF c12)⟩, ⟨(nF c12)⟩, ⟨(nF c11)⟩, ⟨(nF c11)⟩, ⟨(nF c11)⟩, ⟨(nF c10)⟩, ⟨(nF c10)⟩, ⟨(nF c10)⟩, ⟨(ok_part_Decide k x9.1 x9.2.1 x9.2.2.1 x9.2.2.2.1 (iadd .i64 (conv .i64 (irem .u8 x5 2)) 1) _ e9)⟩, ⟨(ok_part_Local k x1 x2 x3 x4 _ e8)⟩, ⟨(ok_part_Decide k x1 x2 x3 x4 (iadd .i64 (conv .i64 (irem .u8 x5 2)) 1) _ e7)⟩, ⟨(rfl : eqI 2 0 = false)⟩, ⟨c6⟩, ⟨(nF c5)⟩, ⟨(nF c5)⟩, ⟨(nF c5)⟩, ⟨(nF c4)⟩, ⟨(nF c4)⟩, ⟨(nF c4)⟩, ⟨(nF c4)⟩, ⟨c2⟩, ⟨c2⟩, ⟨(ok_ref09_Right k x1 x2 x3 x4 _ e3)⟩, ⟨c2⟩, ⟨c2⟩, ⟨(len_map e_u8_i64 x2)⟩, ⟨(nF c1)⟩, ⟨(ok_law09_alive k _ e0)⟩] (by kernel_rfl)
                          · rw [if_neg c17] at h
                            replace c17 := eqf c17
                            cases h
                        · rw [if_neg c16] at h
                          replace c16 := eqf c16
                          cases h
                      · rw [if_neg c14] at h
                        replace c14 := eqf c14
                        obtain rfl := Option.some.inj h
                        exact Tri.of (x := X7) mixed facts7 [.call ⟨true, []⟩ (.bool x6) [], .d false, .n x2.length, .d false, .d false, .call ⟨true, []⟩ (.bool x7) [], .d false, .d false, .d false, .d false, .d false, .d false, .d false, .d false, .d false, .d false, .d false, .call ⟨true, []⟩ (.tup [(.agg [(.int .i64 x8.1), (.sl 2 (List.map e_u8_i64 x8.2.1)), (.bool x8.2.2.1), (.int .i64 x8.2.2.2.1)]), (.sl 2 (List.map e_u8_i64 x8.2.2.2.2.1)), (.int .i64 x8.2.2.2.2.2)]) [], .call ⟨true, []⟩ (.tup [(.agg [(.int .i64 x9.1), (.sl 2 (List.map e_u8_i64 x9.2.1)), (.bool x9.2.2.1), (.int .i64 x9.2.2.2.1)]), (.sl 2 (List.map e_u8_i64 x9.2.2.2.2.1)), (.int .i64 x9.2.2.2.2.2)]) [], .call ⟨true, []⟩ (.tup [(.agg [(.int .i64 x10.1), (.sl 2 (List.map e_u8_i64 x10.2.1)), (.bool x10.2.2.1), (.int .i64 x10.2.2.2.1)]), (.sl 2 (List.map e_u8_i64 x10.2.2.2.2.1)), (.int .i64 x10.2.2.2.2.2)]) [], .d false, .d false, .d false, .d false, .d false, .d false, .d false, .d false, .d false, .d false, .d false, .d false, .d false, .d false, .d false, .d false, .d false, .d false, .d true] [⟨(nT c14)⟩, ⟨(nF c13)⟩, ⟨(nF c13)⟩, ⟨(nF c13)⟩, ⟨(nF c13)⟩, ⟨(nF c13)⟩, ⟨(nF c13)⟩, ⟨(nF c12)⟩, ⟨(nF c12)⟩, ⟨(nF c12)⟩, ⟨(nF c12)⟩, ⟨(nF c12)⟩, ⟨(nF c12)⟩, ⟨(nF c11)⟩, ⟨(nF c11)⟩, ⟨(nF c11)⟩, ⟨(nF c10)⟩, ⟨(nF c10)⟩, ⟨(nF c10)⟩, ⟨(ok_part_Decide k x9.1 x9.2.1 x9.2.2.1 x9.2.2.2.1 (iadd .i64 (conv .i64 (irem .u8 x5 2)) 1) _ e9)⟩, ⟨(ok_part_Local k x1 x2 x3 x4 _ e8)⟩, ⟨(ok_part_Decide k x1 x2 x3 x4 (iadd .i64 (conv .i64 (irem .u8 x5 2)) 1) _ e7)⟩, ⟨(rfl : eqI 2 0 = false)⟩, ⟨c6⟩, ⟨(nF c5)⟩, ⟨(nF c5)⟩, ⟨(nF c5)⟩, ⟨(nF c4)⟩, ⟨(nF c4)⟩, ⟨(nF c4)⟩, ⟨(nF c4)⟩, ⟨c2⟩, ⟨c2⟩, ⟨(ok_ref09_Right k x1 x2 x3 x4 _ e3)⟩, ⟨c2⟩, ⟨c2⟩, ⟨(len_map e_u8_i64 x2)⟩, ⟨(nF c1)⟩, ⟨(ok_law09_alive k _ e0)⟩] (by kernel_rfl)
                    · rw [if_neg c13] at h
                      replace c13 := eqf c13
                      obtain rfl := Option.some.inj h
                      exact Tri.of (x := X7) mixed facts7 [.call ⟨true, []⟩ (.bool x6) [], .d false, .n x2.length, .d false, .d false, .call ⟨true, []⟩ (.bool x7) [], .d false, .d false, .d false, .d false, .d false, .d false, .d false, .d false, .d false, .d false, .d false, .call ⟨true, []⟩ (.tup [(.agg [(.int .i64 x8.1), (.sl 2 (List.map e_u8_i64 x8.2.1)), (.bool x8.2.2.1), (.int .i64 x8.2.2.2.1)]), (.sl 2 (List.map e_u8_i64 x8.2.2.2.2.1)), (.int .i64 x8.2.2.2.2.2)]) [], .call ⟨true, []⟩ (.tup [(.agg [(.int .i64 x9.1), (.sl 2 (List.map e_u8_i64 x9.2.1)), (.bool x9.2.2.1), (.int .i64 x9.2.2.2.1)]), (.sl 2 (List.map e_u8_i64 x9.2.2.2.2.1)), (.int .i64 x9.2.2.2.2.2)]) [], .call ⟨true, []⟩ (.tup [(.agg [(.int .i64 x10.1), (.sl 2 (List.map e_u8_i64 x10.2.1)), (.bool x10.2.2.1), (.int .i64 x10.2.2.2.1)]), (.sl 2 (List.map e_u8_i64 x10.2.2.2.2.1)), (.int .i64 x10.2.2.2.2.2)]) [], .d false, .d false, .d false, .d false, .d false, .d false, .d false, .d false, .d false, .d false, .d false, .d false, .d true, .d true, .d true, .d true, .d true, .d true, .d true] [⟨(rfl : true = true)⟩, ⟨(nT c13)⟩, ⟨(nT c13)⟩, ⟨(nT c13)⟩, ⟨(nT c13)⟩, ⟨(nT c13)⟩, ⟨(nT c13)⟩, ⟨(nF c12)⟩, ⟨(nF c12)⟩, ⟨(nF c12)⟩, ⟨(nF c12)⟩, ⟨(nF c12)⟩, ⟨(nF c12)⟩, ⟨(nF c11)⟩, ⟨(nF c11)⟩, ⟨(nF c11)⟩, ⟨(nF c10)⟩, ⟨(nF c10)⟩, ⟨(nF c10)⟩, ⟨(ok_part_Decide k x9.1 x9.2.1 x9.2.2.1 x9.2.2.2.1 (iadd .i64 (conv .i64 (irem .u8 x5 2)) 1) _ e9)⟩, ⟨(ok_part_Local k x1 x2 x3 x4 _ e8)⟩, ⟨(ok_part_Decide k x1 x2 x3 x4 (iadd .i64 (conv .i64 (irem .u8 x5 2)) 1) _ e7)⟩, ⟨(rfl : eqI 2 0 = false)⟩, ⟨c6⟩, ⟨(nF c5)⟩, ⟨(nF c5)⟩, ⟨(nF c5)⟩, ⟨(nF c4)⟩, ⟨(nF c4)⟩, ⟨(nF c4)⟩, ⟨(nF c4)⟩, ⟨c2⟩, ⟨c2⟩, ⟨(ok_ref09_Right k x1 x2 x3 x4 _ e3)⟩, ⟨c2⟩, ⟨c2⟩, ⟨(len_map e_u8_i64 x2)⟩, ⟨(nF c1)⟩, ⟨(ok_law09_alive k _ e0)⟩] (by kernel_rfl)
                  · rw [if_neg c12] at h
                    replace c12 := eqf c12
                    obtain rfl := Option.some.inj h
                    exact Tri.of (x := X7) mixed facts7 [.call ⟨true, []⟩ (.bool x6) [], .d false, .n x2.length, .d false, .d false, .call ⟨true, []⟩ (.bool x7) [], .d false, .d false, .d false, .d false, .d false, .d false, .d false, .d false, .d false, .d false, .d false, .call ⟨true, []⟩ (.tup [(.agg [(.int .i64 x8.1), (.sl 2 (List.map e_u8_i64 x8.2.1)), (.bool x8.2.2.1), (.int .i64 x8.2.2.2.1)]), (.sl 2 (List.map e_u8_i64 x8.2.2.2.2.1)), (.int .i64 x8.2.2.2.2.2)]) [], .call ⟨true, []⟩ (.tup [(.agg [(.int .i64 x9.1), (.sl 2 (List.map e_u8_i64 x9.2.1)), (.bool x9.2.2.1), (.int .i64 x9.2.2.2.1)]), (.sl 2 (List.map e_u8_i64 x9.2.2.2.2.1)), (.int .i64 x9.2.2.2.2.2)]) [], .call ⟨true, []⟩ (.tup [(.agg [(.int .i64 x10.1), (.sl 2 (List.map e_u8_i64 x10.2.1)), (.bool x10.2.2.1), (.int .i64 x10.2.2.2.1)]), (.sl 2 (List.map e_u8_i64 x10.2.2.2.2.1)), (.int .i64 x10.2.2.2.2.2)]) [], .d false, .d false, .d false, .d false, .d false, .d false, .d true, .d true, .d true, .d true, .d true, .d true, .d true, .d true, .d true, .d true, .d true, .d true, .d true] [⟨(rfl : true = true)⟩, ⟨(rfl : true = true)⟩, ⟨(rfl : true = true)⟩, ⟨(rfl : true = true)⟩, ⟨(rfl : true = true)⟩, ⟨(rfl : true = true)⟩, ⟨(rfl : true = true)⟩, ⟨(nT c12)⟩, ⟨(nT c12)⟩, ⟨(nT c12)⟩, ⟨(nT c12)⟩, ⟨(nT c12)⟩, ⟨(nT c12)⟩, ⟨(nF c11)⟩, ⟨(nF c11)⟩, ⟨(nF c11)⟩, ⟨(nF c10)⟩, ⟨(nF c10)⟩, ⟨(nF c10)⟩, ⟨(ok_part_Decide k x9.1 x9.2.1 x9.2.2.1 x9.2.2.2.1 (iadd .i64 (conv .i64 (irem .u8 x5 2)) 1) _ e9)⟩, ⟨(ok_part_Local k x1 x2 x3 x4 _ e8)⟩, ⟨(ok_part_Decide k x1 x2 x3 x4 (iadd .i64 (conv .i64 (irem .u8 x5 2)) 1) _ e7)⟩, ⟨(rfl : eqI 2 0 = false)⟩, ⟨c6⟩, ⟨(nF c5)⟩, ⟨(nF c5)⟩, ⟨(nF c5)⟩, ⟨(nF c4)⟩, ⟨(nF c4)⟩, ⟨(nF c4)⟩, ⟨(nF c4)⟩, ⟨c2⟩, ⟨c2⟩, ⟨(ok_ref09_Right k x1 x2 x3 x4 _ e3)⟩, ⟨c2⟩, ⟨c2⟩, ⟨(len_map e_u8_i64 x2)⟩, ⟨(nF c1)⟩, ⟨(ok_law09_alive k _ e0)⟩] (by kernel_rfl)
                · rw [if_neg c11] at h
                  replace c11 := eqf c11
                  obtain rfl := Option.some.inj h
                  exact Tri.of (x := X7) mixed facts7 [.call ⟨true, []⟩ (.bool x6) [], .d false, .n x2.length, .d false, .d false, .call ⟨true, []⟩ (.bool x7) [], .d false, .d false, .d false, .d false, .d false, .d false, .d false, .d false, .d false, .d false, .d false, .call ⟨true, []⟩ (.tup [(.agg [(.int .i64 x8.1), (.sl 2 (List.map e_u8_i64 x8.2.1)), (.bool x8.2.2.1), (.int .i64 x8.2.2.2.1)]), (.sl 2 (List.map e_u8_i64 x8.2.2.2.2.1)), (.int .i64 x8.2.2.2.2.2)]) [], .call ⟨true, []⟩ (.tup [(.agg [(.int .i64 x9.1), (.sl 2 (List.map e_u8_i64 x9.2.1)), (.bool x9.2.2.1), (.int .i64 x9.2.2.2.1)]), (.sl 2 (List.map e_u8_i64 x9.2.2.2.2.1)), (.int .i64 x9.2.2.2.2.2)]) [], .call ⟨true, []⟩ (.tup [(.agg [(.int .i64 x10.1), (.sl 2 (List.map e_u8_i64 x10.2.1)), (.bool x10.2.2.1), (.int .i64 x10.2.2.2.1)]), (.sl 2 (List.map e_u8_i64 x10.2.2.2.2.1)), (.int .i64 x10.2.2.2.2.2)]) [], .d false, .d false, .d false, .d true, .d true, .d true, .d true, .d true, .d true, .d true, .d true, .d true, .d true, .d true, .d true, .d true, .d true, .d true, .d true] [⟨(rfl : true = true)⟩, ⟨(rfl : true = true)⟩, ⟨(rfl : true = true)⟩, ⟨(rfl : true = true)⟩, ⟨(rfl : true = true)⟩, ⟨(rfl : true = true)⟩, ⟨(rfl : true = true)⟩, ⟨(rfl : true = true)⟩, ⟨(rfl : true = true)⟩, ⟨(rfl : true = true)⟩, ⟨(rfl : true = true)⟩, ⟨(rfl : true = true)⟩, ⟨(rfl : true = true)⟩, ⟨(nT c11)⟩, ⟨(nT c11)⟩, ⟨(nT c11)⟩, ⟨(nF c10)⟩, ⟨(nF c10)⟩, ⟨(nF c10)⟩, ⟨(ok_part_Decide k x9.1 x9.2.1 x9.2.2.1 x9.2.2.2.1 (iadd .i64 (conv .i64 (irem .u8 x5 2)) 1) _ e9)⟩, ⟨(ok_part_Local k x1 x2 x3 x4 _ e8)⟩, ⟨(ok_part_Decide k x1 x2 x3 x4 (iadd .i64 (conv .i64 (irem .u8 x5 2)) 1) _ e7)⟩, ⟨(rfl : eqI 2 0 = false)⟩, ⟨c6⟩, ⟨(nF c5)⟩, ⟨(nF c5)⟩, ⟨(nF c5)⟩, ⟨(nF c4)⟩, ⟨(nF c4)⟩, ⟨(nF c4)⟩, ⟨(nF c4)⟩, ⟨c2⟩, ⟨c2⟩, ⟨(ok_ref09_Right k x1 x2 x3 x4 _ e3)⟩, ⟨c2⟩, ⟨c2⟩, ⟨(len_map e_u8_i64 x2)⟩, ⟨(nF c1)⟩, ⟨(ok_law09_alive k _ e0)⟩] (by kernel_rfl)
              · rw [if_neg c10] at h
                replace c10 := eqf c10
                obtain rfl := Option.some.inj h
                exact Tri.of (x := X7) mixed facts7 [.call ⟨true, []⟩ (.bool x6) [], .d false, .n x2.length, .d false, .d false, .call ⟨true, []⟩ (.bool x7) [], .d false, .d false, .d false, .d false, .d false, .d false, .d false, .d false, .d false, .d false, .d false, .call ⟨true, []⟩ (.tup [(.agg [(.int .i64 x8.1), (.sl 2 (List.map e_u8_i64 x8.2.1)), (.bool x8.2.2.1), (.int .i64 x8.2.2.2.1)]), (.sl 2 (List.map e_u8_i64 x8.2.2.2.2.1)), (.int .i64 x8.2.2.2.2.2)]) [], .call ⟨true, []⟩ (.tup [(.agg [(.int .i64 x9.1), (.sl 2 (List.map e_u8_i64 x9.2.1)), (.bool x9.2.2.1), (.int .i64 x9.2.2.2.1)]), (.sl 2 (List.map e_u8_i64 x9.2.2.2.2.1)), (.int .i64 x9.2.2.2.2.2)]) [], .call ⟨true, []⟩ (.tup [(.agg [(.int .i64 x10.1), (.sl 2 (List.map e_u8_i64 x10.2.1)), (.bool x10.2.2.1), (.int .i64 x10.2.2.2.1)]), (.sl 2 (List.map e_u8_i64 x10.2.2.2.2.1)), (.int .i64 x10.2.2.2.2.2)]) [], .d true, .d true, .d true, .d true, .d true, .d true, .d true, .d true, .d true, .d true, .d true, .d true, .d true, .d true, .d true, .d true, .d true, .d true, .d true] [⟨(rfl : true = true)⟩, ⟨(rfl : true = true)⟩, ⟨(rfl : true = true)⟩, ⟨(rfl : true = true)⟩, ⟨(rfl : true = true)⟩, ⟨(rfl : true = true)⟩, ⟨(rfl : true = true)⟩, ⟨(rfl : true = true)⟩, ⟨(rfl : true = true)⟩, ⟨(rfl : true = true)⟩, ⟨(rfl : true = true)⟩, ⟨(rfl : true = true)⟩, ⟨(rfl : true = true)⟩, ⟨(rfl : true = true)⟩, ⟨(rfl : true = true)⟩, ⟨(rfl : true = true)⟩, ⟨(nT c10)⟩, ⟨(nT c10)⟩, ⟨(nT c10)⟩, ⟨(ok_part_Decide k x9.1 x9.2.1 x9.2.2.1 x9.2.2.2.1 (iadd .i64 (conv .i64 (irem .u8 x5 2)) 1) _ e9)⟩, ⟨(ok_part_Local k x1 x2 x3 x4 _ e8)⟩, ⟨(ok_part_Decide k x1 x2 x3 x4 (iadd .i64 (conv .i64 (irem .u8 x5 2)) 1) _ e7)⟩, ⟨(rfl : eqI 2 0 = false)⟩, ⟨c6⟩, ⟨(nF c5)⟩, ⟨(nF c5)⟩, ⟨(nF c5)⟩, ⟨(nF c4)⟩, ⟨(nF c4)⟩, ⟨(nF c4)⟩, ⟨(nF c4)⟩, ⟨c2⟩, ⟨c2⟩, ⟨(ok_ref09_Right k x1 x2 x3 x4 _ e3)⟩, ⟨c2⟩, ⟨c2⟩, ⟨(len_map e_u8_i64 x2)⟩, ⟨(nF c1)⟩, ⟨(ok_law09_alive k _ e0)⟩] (by kernel_rfl)
          · rw [if_neg c5] at h
            replace c5 := eqf c5
            obtain rfl := Option.some.inj h
            exact Tri.of (x := X7) mixed facts7 [.call ⟨true, []⟩ (.bool x6) [], .d false, .n x2.length, .d false, .d false, .call ⟨true, []⟩ (.bool x7) [], .d false, .d false, .d false, .d false, .d false, .d false, .d true, .d true, .d true, .d true] [⟨(rfl : true = true)⟩, ⟨(nT c5)⟩, ⟨(nT c5)⟩, ⟨(nT c5)⟩, ⟨(nF c4)⟩, ⟨(nF c4)⟩, ⟨(nF c4)⟩, ⟨(nF c4)⟩, ⟨c2⟩, ⟨c2⟩, ⟨(ok_ref09_Right k x1 x2 x3 x4 _ e3)⟩, ⟨c2⟩, ⟨c2⟩, ⟨(len_map e_u8_i64 x2)⟩, ⟨(nF c1)⟩, ⟨(ok_law09_alive k _ e0)⟩] (by kernel_rfl)
        · rw [if_neg c4] at h
          replace c4 := eqf c4
          obtain rfl := Option.some.inj h
          exact Tri.of (x := X7) mixed facts7 [.call ⟨true, []⟩ (.bool x6) [], .d false, .n x2.length, .d false, .d false, .call ⟨true, []⟩ (.bool x7) [], .d false, .d false, .d true, .d true, .d true, .d true, .d true, .d true, .d true, .d true] [⟨(rfl : true = true)⟩, ⟨(rfl : true = true)⟩, ⟨(rfl : true = true)⟩, ⟨(rfl : true = true)⟩, ⟨(nT c4)⟩, ⟨(nT c4)⟩, ⟨(nT c4)⟩, ⟨(nT c4)⟩, ⟨c2⟩, ⟨c2⟩, ⟨(ok_ref09_Right k x1 x2 x3 x4 _ e3)⟩, ⟨c2⟩, ⟨c2⟩, ⟨(len_map e_u8_i64 x2)⟩, ⟨(nF c1)⟩, ⟨(ok_law09_alive k _ e0)⟩] (by kernel_rfl)
    · rw [if_neg c1] at h
      replace c1 := eqf c1
      obtain rfl := Option.some.inj h
      exact Tri.of (x := X7) mixed facts7 [.call ⟨true, []⟩ (.bool x6) [], .d true] [⟨(nT c1)⟩, ⟨(ok_law09_alive k _ e0)⟩] (by kernel_rfl)
end Go.Ws
