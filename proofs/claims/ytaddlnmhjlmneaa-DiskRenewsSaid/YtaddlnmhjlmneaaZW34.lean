/-
  sum_First: what the machine makes of it. (Printed by my own program.)
  Conditions: none.
-/
import Derived.Test.YtaddlnmhjlmneaaZPre
import Derived.Test.YtaddlnmhjlmneaaZPure
import Derived.Test.YtaddlnmhjlmneaaZW31
import Derived.Test.YtaddlnmhjlmneaaZW32
set_option linter.unusedVariables false
set_option linter.unusedSimpArgs false
namespace Go.Ws
open Go.Proofs
set_option linter.unusedSimpArgs false
set_option linter.unusedVariables false
set_option maxRecDepth 1000000
set_option maxHeartbeats 4000000
noncomputable def X34 : Ctx := ⟨Try.f34, [], true⟩
theorem ok_sum_First (k : Nat) (x1 : List Int) (r : (List Int) × Int × Int) (h : sum_First k x1 = some r) : Tri Try.prog 34 [(.sl 1 (List.map e_u8 x1))] [] (.tup [(.sl 1 (List.map e_u8 r.1)), (.int .i64 r.2.1), (.int .i64 r.2.2)]) [] := by
    unfold sum_First at h
    by_cases c0 : eqI (nI x1.length) 0 = true
    · rw [if_pos c0] at h
      obtain rfl := Option.some.inj h
      exact Tri.of (x := X34) mixed facts34 [.n x1.length, .d true, .norm 0 ⟨[(2, [(0, 1)]), (3, []), (4, [])], [], false, [], []⟩] [⟨c0⟩, ⟨(len_map e_u8 x1)⟩] (by kernel_rfl)
    · rw [if_neg c0] at h
      replace c0 := eqf c0
      by_cases c1 : inI 0 x1.length = true
      · rw [if_pos c1] at h
        obtain ⟨x2, e2, h⟩ := Option.bind_eq_some_iff.1 h
        by_cases c3 : eqI x2 1 = true
        · rw [if_pos c3] at h
          by_cases c4 : ltI (nI x1.length) 3 = true
          · rw [if_pos c4] at h
            obtain rfl := Option.some.inj h
            exact Tri.of (x := X34) mixed facts34 [.n x1.length, .d false, .n x1.length, .row [(.int .u8 x2)], .d false, .d false, .n x1.length, .d false, .d false, .d true, .norm 0 ⟨[(2, [(0, 1)]), (3, []), (4, [])], [], false, [], []⟩] [⟨c4⟩, ⟨(nF c3)⟩, ⟨(nF c3)⟩, ⟨(len_map e_u8 x1)⟩, ⟨(nF c3)⟩, ⟨(nF c3)⟩, ⟨(cells_map (e := e_u8) e2 1 0 1 (by decide))⟩, ⟨c1⟩, ⟨(len_map e_u8 x1)⟩, ⟨c0⟩, ⟨(len_map e_u8 x1)⟩] (by kernel_rfl)
          · rw [if_neg c4] at h
            replace c4 := eqf c4
            by_cases c5 : inI 1 x1.length = true
            · rw [if_pos c5] at h
              obtain ⟨x3, e6, h⟩ := Option.bind_eq_some_iff.1 h
              by_cases c7 : inI 2 x1.length = true
              · rw [if_pos c7] at h
                obtain ⟨x4, e8, h⟩ := Option.bind_eq_some_iff.1 h
                by_cases c9 : ltI 4003 (iadd .i64 (iadd .i64 3 (ishl .i64 (conv .i64 x3) 8)) (conv .i64 x4)) = true
                · rw [if_pos c9] at h
                  obtain rfl := Option.some.inj h
                  exact Tri.of (x := X34) mixed facts34 [.n x1.length, .d false, .n x1.length, .row [(.int .u8 x2)], .d false, .d false, .n x1.length, .d false, .d false, .d false, .n x1.length, .row [(.int .u8 x3)], .n x1.length, .row [(.int .u8 x4)], .d true, .d true, .d true, .d true, .d true, .d true, .d true, .norm 0 ⟨[(2, [(0, 1)]), (3, []), (4, [])], [], false, [], []⟩] [⟨(rfl : true = true)⟩, ⟨c9⟩, ⟨c9⟩, ⟨c9⟩, ⟨c9⟩, ⟨c9⟩, ⟨c9⟩, ⟨(cells_map (e := e_u8) e8 1 0 1 (by decide))⟩, ⟨c7⟩, ⟨(len_map e_u8 x1)⟩, ⟨(cells_map (e := e_u8) e6 1 0 1 (by decide))⟩, ⟨c5⟩, ⟨(len_map e_u8 x1)⟩, ⟨c4⟩, ⟨(nF c3)⟩, ⟨(nF c3)⟩, ⟨(len_map e_u8 x1)⟩, ⟨(nF c3)⟩, ⟨(nF c3)⟩, ⟨(cells_map (e := e_u8) e2 1 0 1 (by decide))⟩, ⟨c1⟩, ⟨(len_map e_u8 x1)⟩, ⟨c0⟩, ⟨(len_map e_u8 x1)⟩] (by kernel_rfl)
                · rw [if_neg c9] at h
                  replace c9 := eqf c9
                  by_cases c10 : ltI (nI x1.length) (iadd .i64 (iadd .i64 (iadd .i64 3 (ishl .i64 (conv .i64 x3) 8)) (conv .i64 x4)) 4) = true
                  · rw [if_pos c10] at h
                    obtain rfl := Option.some.inj h
                    exact Tri.of (x := X34) mixed facts34 [.n x1.length, .d false, .n x1.length, .row [(.int .u8 x2)], .d false, .d false, .n x1.length, .d false, .d false, .d false, .n x1.length, .row [(.int .u8 x3)], .n x1.length, .row [(.int .u8 x4)], .d false, .d false, .n x1.length, .d false, .d false, .d false, .d false, .d true, .norm 0 ⟨[(2, [(0, 1)]), (3, []), (4, [])], [], false, [], []⟩] [⟨c10⟩, ⟨c9⟩, ⟨c9⟩, ⟨c9⟩, ⟨c9⟩, ⟨(len_map e_u8 x1)⟩, ⟨c9⟩, ⟨c9⟩, ⟨(cells_map (e := e_u8) e8 1 0 1 (by decide))⟩, ⟨c7⟩, ⟨(len_map e_u8 x1)⟩, ⟨(cells_map (e := e_u8) e6 1 0 1 (by decide))⟩, ⟨c5⟩, ⟨(len_map e_u8 x1)⟩, ⟨c4⟩, ⟨(nF c3)⟩, ⟨(nF c3)⟩, ⟨(len_map e_u8 x1)⟩, ⟨(nF c3)⟩, ⟨(nF c3)⟩, ⟨(cells_map (e := e_u8) e2 1 0 1 (by decide))⟩, ⟨c1⟩, ⟨(len_map e_u8 x1)⟩, ⟨c0⟩, ⟨(len_map e_u8 x1)⟩] (by kernel_rfl)
                  · rw [if_neg c10] at h
                    replace c10 := eqf c10
                    by_cases c11 : leI (iadd .i64 (iadd .i64 3 (ishl .i64 (conv .i64 x3) 8)) (conv .i64 x4)) x1.length = true
                    · rw [if_pos c11] at h
                      obtain ⟨x5, e12, h⟩ := Option.bind_eq_some_iff.1 h
                      by_cases c13 : capI 4 (x1.length - (tN (iadd .i64 (iadd .i64 3 (ishl .i64 (conv .i64 x3) 8)) (conv .i64 x4)))) = true
                      · rw [if_pos c13] at h
                        obtain ⟨x6, e14, h⟩ := Option.bind_eq_some_iff.1 h
                        obtain ⟨x7, e15, h⟩ := Option.bind_eq_some_iff.1 h
                        obtain ⟨x8, e16, h⟩ := Option.bind_eq_some_iff.1 h
                        obtain ⟨x9, e17, h⟩ := Option.bind_eq_some_iff.1 h
                        by_cases c18 : eqI x6 (conv .u8 (ishr .u32 x5 24)) = true
                        · rw [if_pos c18] at h
                          by_cases c19 : eqI x7 (conv .u8 (ishr .u32 x5 16)) = true
                          · rw [if_pos c19] at h
                            by_cases c20 : eqI x8 (conv .u8 (ishr .u32 x5 8)) = true
                            · rw [if_pos c20] at h
                              by_cases c21 : eqI x9 (conv .u8 x5) = true
                              · rw [if_pos c21] at h
                                by_cases c22 : leI (iadd .i64 (iadd .i64 3 (ishl .i64 (conv .i64 x3) 8)) (conv .i64 x4)) (tN (iadd .i64 (iadd .i64 3 (ishl .i64 (conv .i64 x3) 8)) (conv .i64 x4))) = true
                                · rw [if_pos c22] at h
                                  by_cases c23 : leI 3 (tN (iadd .i64 (iadd .i64 3 (ishl .i64 (conv .i64 x3) 8)) (conv .i64 x4))) = true
                                  · rw [if_pos c23] at h
                                    by_cases c24 : eqN (tN (iadd .i64 (iadd .i64 3 (ishl .i64 (conv .i64 x3) 8)) (conv .i64 x4))) 3 = true
                                    · rw [if_pos c24] at h
                                      obtain ⟨x10, e25, h⟩ := Option.bind_eq_some_iff.1 h
                                      obtain rfl := Option.some.inj h
                                      exact Tri.of (x := X34) mixed facts34 [.n x1.length, .d false, .n x1.length, .row [(.int .u8 x2)], .d false, .d false, .n x1.length, .d false, .d false, .d false, .n x1.length, .row [(.int .u8 x3)], .n x1.length, .row [(.int .u8 x4)], .d false, .d false, .n x1.length, .d false, .d false, .d false, .d false, .d false, .n x1.length, .rows (List.map e_u8 (List.take (tN (iadd .i64 (iadd .i64 3 (ishl .i64 (conv .i64 x3) 8)) (conv .i64 x4))) x1)), .call ⟨true, []⟩ (.int .u32 x5) [], .n x1.length, .rows (List.map e_u8 (List.drop (tN (iadd .i64 (iadd .i64 3 (ishl .i64 (conv .i64 x3) 8)) (conv .i64 x4))) x1)), .n (x1.length - (tN (iadd .i64 (iadd .i64 3 (ishl .i64 (conv .i64 x3) 8)) (conv .i64 x4)))), .row [(.int .u8 x6), (.int .u8 x7), (.int .u8 x8), (.int .u8 x9)], .d false, .n x1.length, .d true, .call ⟨true, [[(0, 1)]]⟩ (.ref 1 0 0 0 0 .virt) [(.arr 1 (List.map e_u8 []) 0 0 false)], .rows (List.map e_u8 [])] [⟨(part_all e_u8 (l := []) (n := 0) rfl)⟩, ⟨(le_map e_u8 (Nat.le_refl 0) : 0 + 0 ≤ (List.map e_u8 []).length)⟩, ⟨(ok_slices_Clone k [] _ e25)⟩, ⟨c24⟩, ⟨c23⟩, ⟨c22⟩, ⟨c11⟩, ⟨(len_map e_u8 x1)⟩, ⟨(nF (aT c18 (aT c19 (aT c20 c21))))⟩, ⟨(cells_arr4 e14 e15 e16 e17)⟩, ⟨c13⟩, ⟨(len_mapE e_u8 ((by simp : x1.length - (tN (iadd .i64 (iadd .i64 3 (ishl .i64 (conv .i64 x3) 8)) (conv .i64 x4))) = (List.drop (tN (iadd .i64 (iadd .i64 3 (ishl .i64 (conv .i64 x3) 8)) (conv .i64 x4))) x1).length)).symm)⟩, ⟨(cut_drop e_u8 (l := x1) (n := x1.length) rfl (tN (iadd .i64 (iadd .i64 3 (ishl .i64 (conv .i64 x3) 8)) (conv .i64 x4))))⟩, ⟨c11⟩, ⟨(len_map e_u8 x1)⟩, ⟨(ok_sum_Sum k (List.take (tN (iadd .i64 (iadd .i64 3 (ishl .i64 (conv .i64 x3) 8)) (conv .i64 x4))) x1) _ e12)⟩, ⟨(cut_take e_u8 x1 (tN (iadd .i64 (iadd .i64 3 (ishl .i64 (conv .i64 x3) 8)) (conv .i64 x4))))⟩, ⟨c11⟩, ⟨(len_map e_u8 x1)⟩, ⟨c10⟩, ⟨c9⟩, ⟨c9⟩, ⟨c9⟩, ⟨c9⟩, ⟨(len_map e_u8 x1)⟩, ⟨c9⟩, ⟨c9⟩, ⟨(cells_map (e := e_u8) e8 1 0 1 (by decide))⟩, ⟨c7⟩, ⟨(len_map e_u8 x1)⟩, ⟨(cells_map (e := e_u8) e6 1 0 1 (by decide))⟩, ⟨c5⟩, ⟨(len_map e_u8 x1)⟩, ⟨c4⟩, ⟨(nF c3)⟩, ⟨(nF c3)⟩, ⟨(len_map e_u8 x1)⟩, ⟨(nF c3)⟩, ⟨(nF c3)⟩, ⟨(cells_map (e := e_u8) e2 1 0 1 (by decide))⟩, ⟨c1⟩, ⟨(len_map e_u8 x1)⟩, ⟨c0⟩, ⟨(len_map e_u8 x1)⟩] (by kernel_rfl)
                                    · rw [if_neg c24] at h
                                      replace c24 := eqf c24
                                      obtain ⟨x10, e25, h⟩ := Option.bind_eq_some_iff.1 h
                                      obtain rfl := Option.some.inj h
                                      exact Tri.of (x := X34) mixed facts34 [.n x1.length, .d false, .n x1.length, .row [(.int .u8 x2)], .d false, .d false, .n x1.length, .d false, .d false, .d false, .n x1.length, .row [(.int .u8 x3)], .n x1.length, .row [(.int .u8 x4)], .d false, .d false, .n x1.length, .d false, .d false, .d false, .d false, .d false, .n x1.length, .rows (List.map e_u8 (List.take (tN (iadd .i64 (iadd .i64 3 (ishl .i64 (conv .i64 x3) 8)) (conv .i64 x4))) x1)), .call ⟨true, []⟩ (.int .u32 x5) [], .n x1.length, .rows (List.map e_u8 (List.drop (tN (iadd .i64 (iadd .i64 3 (ishl .i64 (conv .i64 x3) 8)) (conv .i64 x4))) x1)), .n (x1.length - (tN (iadd .i64 (iadd .i64 3 (ishl .i64 (conv .i64 x3) 8)) (conv .i64 x4)))), .row [(.int .u8 x6), (.int .u8 x7), (.int .u8 x8), (.int .u8 x9)], .d false, .n x1.length, .d false, .rows (List.map e_u8 (List.take ((tN (iadd .i64 (iadd .i64 3 (ishl .i64 (conv .i64 x3) 8)) (conv .i64 x4))) - 3) (List.drop 3 x1))), .call ⟨true, []⟩ (.ref 1 0 0 0 ((List.take ((tN (iadd .i64 (iadd .i64 3 (ishl .i64 (conv .i64 x3) 8)) (conv .i64 x4))) - 3) (List.drop 3 x1)).length) .virt) [(.arr 1 (List.map e_u8 (List.take ((tN (iadd .i64 (iadd .i64 3 (ishl .i64 (conv .i64 x3) 8)) (conv .i64 x4))) - 3) (List.drop 3 x1))) 0 0 false)], .rows (List.map e_u8 (List.take ((tN (iadd .i64 (iadd .i64 3 (ishl .i64 (conv .i64 x3) 8)) (conv .i64 x4))) - 3) (List.drop 3 x1)))] [⟨(part_all e_u8 (l := (List.take ((tN (iadd .i64 (iadd .i64 3 (ishl .i64 (conv .i64 x3) 8)) (conv .i64 x4))) - 3) (List.drop 3 x1))) (n := ((List.take ((tN (iadd .i64 (iadd .i64 3 (ishl .i64 (conv .i64 x3) 8)) (conv .i64 x4))) - 3) (List.drop 3 x1)).length)) rfl)⟩, ⟨(le_map e_u8 (Nat.le_refl ((List.take ((tN (iadd .i64 (iadd .i64 3 (ishl .i64 (conv .i64 x3) 8)) (conv .i64 x4))) - 3) (List.drop 3 x1)).length)) : 0 + (List.take ((tN (iadd .i64 (iadd .i64 3 (ishl .i64 (conv .i64 x3) 8)) (conv .i64 x4))) - 3) (List.drop 3 x1)).length ≤ (List.map e_u8 (List.take ((tN (iadd .i64 (iadd .i64 3 (ishl .i64 (conv .i64 x3) 8)) (conv .i64 x4))) - 3) (List.drop 3 x1))).length)⟩, ⟨(ok_slices_Clone k (List.take ((tN (iadd .i64 (iadd .i64 3 (ishl .i64 (conv .i64 x3) 8)) (conv .i64 x4))) - 3) (List.drop 3 x1)) _ e25)⟩, ⟨(cut_both e_u8 x1 3 (tN (iadd .i64 (iadd .i64 3 (ishl .i64 (conv .i64 x3) 8)) (conv .i64 x4))))⟩, ⟨c24⟩, ⟨c23⟩, ⟨c22⟩, ⟨c11⟩, ⟨(len_map e_u8 x1)⟩, ⟨(nF (aT c18 (aT c19 (aT c20 c21))))⟩, ⟨(cells_arr4 e14 e15 e16 e17)⟩, ⟨c13⟩, ⟨(len_mapE e_u8 ((by simp : x1.length - (tN (iadd .i64 (iadd .i64 3 (ishl .i64 (conv .i64 x3) 8)) (conv .i64 x4))) = (List.drop (tN (iadd .i64 (iadd .i64 3 (ishl .i64 (conv .i64 x3) 8)) (conv .i64 x4))) x1).length)).symm)⟩, ⟨(cut_drop e_u8 (l := x1) (n := x1.length) rfl (tN (iadd .i64 (iadd .i64 3 (ishl .i64 (conv .i64 x3) 8)) (conv .i64 x4))))⟩, ⟨c11⟩, ⟨(len_map e_u8 x1)⟩, ⟨(ok_sum_Sum k (List.take (tN (iadd .i64 (iadd .i64 3 (ishl .i64 (conv .i64 x3) 8)) (conv .i64 x4))) x1) _ e12)⟩, ⟨(cut_take e_u8 x1 (tN (iadd .i64 (iadd .i64 3 (ishl .i64 (conv .i64 x3) 8)) (conv .i64 x4))))⟩, ⟨c11⟩, ⟨(len_map e_u8 x1)⟩, ⟨c10⟩, ⟨c9⟩, ⟨c9⟩, ⟨c9⟩, ⟨c9⟩, ⟨(len_map e_u8 x1)⟩, ⟨c9⟩, ⟨c9⟩, ⟨(cells_map (e := e_u8) e8 1 0 1 (by decide))⟩, ⟨c7⟩, ⟨(len_map e_u8 x1)⟩, ⟨(cells_map (e := e_u8) e6 1 0 1 (by decide))⟩, ⟨c5⟩, ⟨(len_map e_u8 x1)⟩, ⟨c4⟩, ⟨(nF c3)⟩, ⟨(nF c3)⟩, ⟨(len_map e_u8 x1)⟩, ⟨(nF c3)⟩, ⟨(nF c3)⟩, ⟨(cells_map (e := e_u8) e2 1 0 1 (by decide))⟩, ⟨c1⟩, ⟨(len_map e_u8 x1)⟩, ⟨c0⟩, ⟨(len_map e_u8 x1)⟩] (by kernel_rfl)
                                  · rw [if_neg c23] at h
                                    replace c23 := eqf c23
                                    cases h
                                · rw [if_neg c22] at h
                                  replace c22 := eqf c22
                                  cases h
                              · rw [if_neg c21] at h
                                replace c21 := eqf c21
                                obtain rfl := Option.some.inj h
                                exact Tri.of (x := X34) mixed facts34 [.n x1.length, .d false, .n x1.length, .row [(.int .u8 x2)], .d false, .d false, .n x1.length, .d false, .d false, .d false, .n x1.length, .row [(.int .u8 x3)], .n x1.length, .row [(.int .u8 x4)], .d false, .d false, .n x1.length, .d false, .d false, .d false, .d false, .d false, .n x1.length, .rows (List.map e_u8 (List.take (tN (iadd .i64 (iadd .i64 3 (ishl .i64 (conv .i64 x3) 8)) (conv .i64 x4))) x1)), .call ⟨true, []⟩ (.int .u32 x5) [], .n x1.length, .rows (List.map e_u8 (List.drop (tN (iadd .i64 (iadd .i64 3 (ishl .i64 (conv .i64 x3) 8)) (conv .i64 x4))) x1)), .n (x1.length - (tN (iadd .i64 (iadd .i64 3 (ishl .i64 (conv .i64 x3) 8)) (conv .i64 x4)))), .row [(.int .u8 x6), (.int .u8 x7), (.int .u8 x8), (.int .u8 x9)], .d true, .norm 0 ⟨[(2, [(0, 1)]), (3, []), (4, [])], [], false, [], []⟩] [⟨(nT (aF2 c18 (aF2 c19 (aF2 c20 c21))))⟩, ⟨(cells_arr4 e14 e15 e16 e17)⟩, ⟨c13⟩, ⟨(len_mapE e_u8 ((by simp : x1.length - (tN (iadd .i64 (iadd .i64 3 (ishl .i64 (conv .i64 x3) 8)) (conv .i64 x4))) = (List.drop (tN (iadd .i64 (iadd .i64 3 (ishl .i64 (conv .i64 x3) 8)) (conv .i64 x4))) x1).length)).symm)⟩, ⟨(cut_drop e_u8 (l := x1) (n := x1.length) rfl (tN (iadd .i64 (iadd .i64 3 (ishl .i64 (conv .i64 x3) 8)) (conv .i64 x4))))⟩, ⟨c11⟩, ⟨(len_map e_u8 x1)⟩, ⟨(ok_sum_Sum k (List.take (tN (iadd .i64 (iadd .i64 3 (ishl .i64 (conv .i64 x3) 8)) (conv .i64 x4))) x1) _ e12)⟩, ⟨(cut_take e_u8 x1 (tN (iadd .i64 (iadd .i64 3 (ishl .i64 (conv .i64 x3) 8)) (conv .i64 x4))))⟩, ⟨c11⟩, ⟨(len_map e_u8 x1)⟩, ⟨c10⟩, ⟨c9⟩, ⟨c9⟩, ⟨c9⟩, ⟨c9⟩, ⟨(len_map e_u8 x1)⟩, ⟨c9⟩, ⟨c9⟩, ⟨(cells_map (e := e_u8) e8 1 0 1 (by decide))⟩, ⟨c7⟩, ⟨(len_map e_u8 x1)⟩, ⟨(cells_map (e := e_u8) e6 1 0 1 (by decide))⟩, ⟨c5⟩, ⟨(len_map e_u8 x1)⟩, ⟨c4⟩, ⟨(nF c3)⟩, ⟨(nF c3)⟩, ⟨(len_map e_u8 x1)⟩, ⟨(nF c3)⟩, ⟨(nF c3)⟩, ⟨(cells_map (e := e_u8) e2 1 0 1 (by decide))⟩, ⟨c1⟩, ⟨(len_map e_u8 x1)⟩, ⟨c0⟩, ⟨(len_map e_u8 x1)⟩] (by kernel_rfl)
                            · rw [if_neg c20] at h
                              replace c20 := eqf c20
                              obtain rfl := Option.some.inj h
                              exact Tri.of (x := X34) mixed facts34 [.n x1.length, .d false, .n x1.length, .row [(.int .u8 x2)], .d false, .d false, .n x1.length, .d false, .d false, .d false, .n x1.length, .row [(.int .u8 x3)], .n x1.length, .row [(.int .u8 x4)], .d false, .d false, .n x1.length, .d false, .d false, .d false, .d false, .d false, .n x1.length, .rows (List.map e_u8 (List.take (tN (iadd .i64 (iadd .i64 3 (ishl .i64 (conv .i64 x3) 8)) (conv .i64 x4))) x1)), .call ⟨true, []⟩ (.int .u32 x5) [], .n x1.length, .rows (List.map e_u8 (List.drop (tN (iadd .i64 (iadd .i64 3 (ishl .i64 (conv .i64 x3) 8)) (conv .i64 x4))) x1)), .n (x1.length - (tN (iadd .i64 (iadd .i64 3 (ishl .i64 (conv .i64 x3) 8)) (conv .i64 x4)))), .row [(.int .u8 x6), (.int .u8 x7), (.int .u8 x8), (.int .u8 x9)], .d true, .norm 0 ⟨[(2, [(0, 1)]), (3, []), (4, [])], [], false, [], []⟩] [⟨(nT (aF2 c18 (aF2 c19 (aF1 (b := eqI x9 (conv .u8 x5)) c20))))⟩, ⟨(cells_arr4 e14 e15 e16 e17)⟩, ⟨c13⟩, ⟨(len_mapE e_u8 ((by simp : x1.length - (tN (iadd .i64 (iadd .i64 3 (ishl .i64 (conv .i64 x3) 8)) (conv .i64 x4))) = (List.drop (tN (iadd .i64 (iadd .i64 3 (ishl .i64 (conv .i64 x3) 8)) (conv .i64 x4))) x1).length)).symm)⟩, ⟨(cut_drop e_u8 (l := x1) (n := x1.length) rfl (tN (iadd .i64 (iadd .i64 3 (ishl .i64 (conv .i64 x3) 8)) (conv .i64 x4))))⟩, ⟨c11⟩, ⟨(len_map e_u8 x1)⟩, ⟨(ok_sum_Sum k (List.take (tN (iadd .i64 (iadd .i64 3 (ishl .i64 (conv .i64 x3) 8)) (conv .i64 x4))) x1) _ e12)⟩, ⟨(cut_take e_u8 x1 (tN (iadd .i64 (iadd .i64 3 (ishl .i64 (conv .i64 x3) 8)) (conv .i64 x4))))⟩, ⟨c11⟩, ⟨(len_map e_u8 x1)⟩, ⟨c10⟩, ⟨c9⟩, ⟨c9⟩, ⟨c9⟩, ⟨c9⟩, ⟨(len_map e_u8 x1)⟩, ⟨c9⟩, ⟨c9⟩, ⟨(cells_map (e := e_u8) e8 1 0 1 (by decide))⟩, ⟨c7⟩, ⟨(len_map e_u8 x1)⟩, ⟨(cells_map (e := e_u8) e6 1 0 1 (by decide))⟩, ⟨c5⟩, ⟨(len_map e_u8 x1)⟩, ⟨c4⟩, ⟨(nF c3)⟩, ⟨(nF c3)⟩, ⟨(len_map e_u8 x1)⟩, ⟨(nF c3)⟩, ⟨(nF c3)⟩, ⟨(cells_map (e := e_u8) e2 1 0 1 (by decide))⟩, ⟨c1⟩, ⟨(len_map e_u8 x1)⟩, ⟨c0⟩, ⟨(len_map e_u8 x1)⟩] (by kernel_rfl)
                          · rw [if_neg c19] at h
                            replace c19 := eqf c19
                            obtain rfl := Option.some.inj h
                            exact Tri.of (x := X34) mixed facts34 [.n x1.length, .d false, .n x1.length, .row [(.int .u8 x2)], .d false, .d false, .n x1.length, .d false, .d false, .d false, .n x1.length, .row [(.int .u8 x3)], .n x1.length, .row [(.int .u8 x4)], .d false, .d false, .n x1.length, .d false, .d false, .d false, .d false, .d false, .n x1.length, .rows (List.map e_u8 (List.take (tN (iadd .i64 (iadd .i64 3 (ishl .i64 (conv .i64 x3) 8)) (conv .i64 x4))) x1)), .call ⟨true, []⟩ (.int .u32 x5) [], .n x1.length, .rows (List.map e_u8 (List.drop (tN (iadd .i64 (iadd .i64 3 (ishl .i64 (conv .i64 x3) 8)) (conv .i64 x4))) x1)), .n (x1.length - (tN (iadd .i64 (iadd .i64 3 (ishl .i64 (conv .i64 x3) 8)) (conv .i64 x4)))), .row [(.int .u8 x6), (.int .u8 x7), (.int .u8 x8), (.int .u8 x9)], .d true, .norm 0 ⟨[(2, [(0, 1)]), (3, []), (4, [])], [], false, [], []⟩] [⟨(nT (aF2 c18 (aF1 (b := (eqI x8 (conv .u8 (ishr .u32 x5 8)) && eqI x9 (conv .u8 x5))) c19)))⟩, ⟨(cells_arr4 e14 e15 e16 e17)⟩, ⟨c13⟩, ⟨(len_mapE e_u8 ((by simp : x1.length - (tN (iadd .i64 (iadd .i64 3 (ishl .i64 (conv .i64 x3) 8)) (conv .i64 x4))) = (List.drop (tN (iadd .i64 (iadd .i64 3 (ishl .i64 (conv .i64 x3) 8)) (conv .i64 x4))) x1).length)).symm)⟩, ⟨(cut_drop e_u8 (l := x1) (n := x1.length) rfl (tN (iadd .i64 (iadd .i64 3 (ishl .i64 (conv .i64 x3) 8)) (conv .i64 x4))))⟩, ⟨c11⟩, ⟨(len_map e_u8 x1)⟩, ⟨(ok_sum_Sum k (List.take (tN (iadd .i64 (iadd .i64 3 (ishl .i64 (conv .i64 x3) 8)) (conv .i64 x4))) x1) _ e12)⟩, ⟨(cut_take e_u8 x1 (tN (iadd .i64 (iadd .i64 3 (ishl .i64 (conv .i64 x3) 8)) (conv .i64 x4))))⟩, ⟨c11⟩, ⟨(len_map e_u8 x1)⟩, ⟨c10⟩, ⟨c9⟩, ⟨c9⟩, ⟨c9⟩, ⟨c9⟩, ⟨(len_map e_u8 x1)⟩, ⟨c9⟩, ⟨c9⟩, ⟨(cells_map (e := e_u8) e8 1 0 1 (by decide))⟩, ⟨c7⟩, ⟨(len_map e_u8 x1)⟩, ⟨(cells_map (e := e_u8) e6 1 0 1 (by decide))⟩, ⟨c5⟩, ⟨(len_map e_u8 x1)⟩, ⟨c4⟩, ⟨(nF c3)⟩, ⟨(nF c3)⟩, ⟨(len_map e_u8 x1)⟩, ⟨(nF c3)⟩, ⟨(nF c3)⟩, ⟨(cells_map (e := e_u8) e2 1 0 1 (by decide))⟩, ⟨c1⟩, ⟨(len_map e_u8 x1)⟩, ⟨c0⟩, ⟨(len_map e_u8 x1)⟩] (by kernel_rfl)
                        · rw [if_neg c18] at h
                          replace c18 := eqf c18
                          obtain rfl := Option.some.inj h
                          exact Tri.of (x := X34) mixed facts34 [.n x1.length, .d false, .n x1.length, .row [(.int .u8 x2)], .d false, .d false, .n x1.length, .d false, .d false, .d false, .n x1.length, .row [(.int .u8 x3)], .n x1.length, .row [(.int .u8 x4)], .d false, .d false, .n x1.length, .d false, .d false, .d false, .d false, .d false, .n x1.length, .rows (List.map e_u8 (List.take (tN (iadd .i64 (iadd .i64 3 (ishl .i64 (conv .i64 x3) 8)) (conv .i64 x4))) x1)), .call ⟨true, []⟩ (.int .u32 x5) [], .n x1.length, .rows (List.map e_u8 (List.drop (tN (iadd .i64 (iadd .i64 3 (ishl .i64 (conv .i64 x3) 8)) (conv .i64 x4))) x1)), .n (x1.length - (tN (iadd .i64 (iadd .i64 3 (ishl .i64 (conv .i64 x3) 8)) (conv .i64 x4)))), .row [(.int .u8 x6), (.int .u8 x7), (.int .u8 x8), (.int .u8 x9)], .d true, .norm 0 ⟨[(2, [(0, 1)]), (3, []), (4, [])], [], false, [], []⟩] [⟨(nT (aF1 (b := (eqI x7 (conv .u8 (ishr .u32 x5 16)) && (eqI x8 (conv .u8 (ishr .u32 x5 8)) && eqI x9 (conv .u8 x5)))) c18))⟩, ⟨(cells_arr4 e14 e15 e16 e17)⟩, ⟨c13⟩, ⟨(len_mapE e_u8 ((by simp : x1.length - (tN (iadd .i64 (iadd .i64 3 (ishl .i64 (conv .i64 x3) 8)) (conv .i64 x4))) = (List.drop (tN (iadd .i64 (iadd .i64 3 (ishl .i64 (conv .i64 x3) 8)) (conv .i64 x4))) x1).length)).symm)⟩, ⟨(cut_drop e_u8 (l := x1) (n := x1.length) rfl (tN (iadd .i64 (iadd .i64 3 (ishl .i64 (conv .i64 x3) 8)) (conv .i64 x4))))⟩, ⟨c11⟩, ⟨(len_map e_u8 x1)⟩, ⟨(ok_sum_Sum k (List.take (tN (iadd .i64 (iadd .i64 3 (ishl .i64 (conv .i64 x3) 8)) (conv .i64 x4))) x1) _ e12)⟩, ⟨(cut_take e_u8 x1 (tN (iadd .i64 (iadd .i64 3 (ishl .i64 (conv .i64 x3) 8)) (conv .i64 x4))))⟩, ⟨c11⟩, ⟨(len_map e_u8 x1)⟩, ⟨c10⟩, ⟨c9⟩, ⟨c9⟩, ⟨c9⟩, ⟨c9⟩, ⟨(len_map e_u8 x1)⟩, ⟨c9⟩, ⟨c9⟩, ⟨(cells_map (e := e_u8) e8 1 0 1 (by decide))⟩, ⟨c7⟩, ⟨(len_map e_u8 x1)⟩, ⟨(cells_map (e := e_u8) e6 1 0 1 (by decide))⟩, ⟨c5⟩, ⟨(len_map e_u8 x1)⟩, ⟨c4⟩, ⟨(nF c3)⟩, ⟨(nF c3)⟩, ⟨(len_map e_u8 x1)⟩, ⟨(nF c3)⟩, ⟨(nF c3)⟩, ⟨(cells_map (e := e_u8) e2 1 0 1 (by decide))⟩, ⟨c1⟩, ⟨(len_map e_u8 x1)⟩, ⟨c0⟩, ⟨(len_map e_u8 x1)⟩] (by kernel_rfl)
                      · rw [if_neg c13] at h
                        replace c13 := eqf c13
                        cases h
                    · rw [if_neg c11] at h
                      replace c11 := eqf c11
                      cases h
              · rw [if_neg c7] at h
                replace c7 := eqf c7
                cases h
            · rw [if_neg c5] at h
              replace c5 := eqf c5
              cases h
        · rw [if_neg c3] at h
          replace c3 := eqf c3
          obtain rfl := Option.some.inj h
          exact Tri.of (x := X34) mixed facts34 [.n x1.length, .d false, .n x1.length, .row [(.int .u8 x2)], .d true, .d true, .d true, .d true, .d true, .norm 0 ⟨[(2, [(0, 1)]), (3, []), (4, [])], [], false, [], []⟩] [⟨(rfl : true = true)⟩, ⟨(nT c3)⟩, ⟨(nT c3)⟩, ⟨(nT c3)⟩, ⟨(nT c3)⟩, ⟨(cells_map (e := e_u8) e2 1 0 1 (by decide))⟩, ⟨c1⟩, ⟨(len_map e_u8 x1)⟩, ⟨c0⟩, ⟨(len_map e_u8 x1)⟩] (by kernel_rfl)
      · rw [if_neg c1] at h
        replace c1 := eqf c1
        cases h
end Go.Ws
