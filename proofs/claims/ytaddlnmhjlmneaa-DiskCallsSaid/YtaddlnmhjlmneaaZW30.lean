/-
  ref03_First: what the machine makes of it. (Printed by my own program.)
  Conditions: none.
-/
import Derived.Test.YtaddlnmhjlmneaaZPre
import Derived.Test.YtaddlnmhjlmneaaZPure
import Derived.Test.YtaddlnmhjlmneaaZW28
set_option linter.unusedVariables false
set_option linter.unusedSimpArgs false
namespace Go.Ws
open Go.Proofs
set_option linter.unusedSimpArgs false
set_option linter.unusedVariables false
set_option maxRecDepth 1000000
set_option maxHeartbeats 4000000
noncomputable def X30 : Ctx := ⟨Try.f30, [], true⟩
theorem ok_ref03_First (k : Nat) (x1 : List Int) (r : (List Int) × Int × Int) (h : ref03_First k x1 = some r) : Tri Try.prog 30 [(.sl 1 (List.map e_u8 x1))] [] (.tup [(.sl 1 (List.map e_u8 r.1)), (.int .i64 r.2.1), (.int .i64 r.2.2)]) [] := by
    unfold ref03_First at h
    by_cases c0 : eqI (nI x1.length) 0 = true
    · rw [if_pos c0] at h
      obtain rfl := Option.some.inj h
      exact Tri.of (x := X30) mixed facts30 [.n x1.length, .d true, .norm 0 ⟨[(2, [(0, 1)]), (3, []), (4, [])], [], false, [], []⟩] [⟨c0⟩, ⟨(len_map e_u8 x1)⟩] (by kernel_rfl)
    · rw [if_neg c0] at h
      replace c0 := eqf c0
      by_cases c1 : inI 0 x1.length = true
      · rw [if_pos c1] at h
        obtain ⟨x2, e2, h⟩ := Option.bind_eq_some_iff.1 h
        by_cases c3 : eqI x2 1 = true
        · rw [if_pos c3] at h
          by_cases c4 : ltI (nI x1.length) 3 = true
          · rw [if_pos c4] at h
            obtain rfl := Option.some.inj h
            exact Tri.of (x := X30) mixed facts30 [.n x1.length, .d false, .n x1.length, .row [(.int .u8 x2)], .d false, .d false, .n x1.length, .d false, .d false, .d true, .norm 0 ⟨[(2, [(0, 1)]), (3, []), (4, [])], [], false, [], []⟩] [⟨c4⟩, ⟨(nF c3)⟩, ⟨(nF c3)⟩, ⟨(len_map e_u8 x1)⟩, ⟨(nF c3)⟩, ⟨(nF c3)⟩, ⟨(cells_map (e := e_u8) e2 1 0 1 (by decide))⟩, ⟨c1⟩, ⟨(len_map e_u8 x1)⟩, ⟨c0⟩, ⟨(len_map e_u8 x1)⟩] (by kernel_rfl)
          · rw [if_neg c4] at h
            replace c4 := eqf c4
            by_cases c5 : inI 1 x1.length = true
            · rw [if_pos c5] at h
              obtain ⟨x3, e6, h⟩ := Option.bind_eq_some_iff.1 h
              by_cases c7 : inI 2 x1.length = true
              · rw [if_pos c7] at h
                obtain ⟨x4, e8, h⟩ := Option.bind_eq_some_iff.1 h
                by_cases c9 : ltI 4000 (iadd .i64 (imul .i64 (conv .i64 x3) 256) (conv .i64 x4)) = true
                · rw [if_pos c9] at h
                  obtain rfl := Option.some.inj h
                  exact Tri.of (x := X30) mixed facts30 [.n x1.length, .d false, .n x1.length, .row [(.int .u8 x2)], .d false, .d false, .n x1.length, .d false, .d false, .d false, .n x1.length, .row [(.int .u8 x3)], .n x1.length, .row [(.int .u8 x4)], .d true, .d true, .d true, .d true, .d true, .d true, .d true, .norm 0 ⟨[(2, [(0, 1)]), (3, []), (4, [])], [], false, [], []⟩] [⟨(rfl : true = true)⟩, ⟨c9⟩, ⟨c9⟩, ⟨c9⟩, ⟨c9⟩, ⟨c9⟩, ⟨c9⟩, ⟨(cells_map (e := e_u8) e8 1 0 1 (by decide))⟩, ⟨c7⟩, ⟨(len_map e_u8 x1)⟩, ⟨(cells_map (e := e_u8) e6 1 0 1 (by decide))⟩, ⟨c5⟩, ⟨(len_map e_u8 x1)⟩, ⟨c4⟩, ⟨(nF c3)⟩, ⟨(nF c3)⟩, ⟨(len_map e_u8 x1)⟩, ⟨(nF c3)⟩, ⟨(nF c3)⟩, ⟨(cells_map (e := e_u8) e2 1 0 1 (by decide))⟩, ⟨c1⟩, ⟨(len_map e_u8 x1)⟩, ⟨c0⟩, ⟨(len_map e_u8 x1)⟩] (by kernel_rfl)
                · rw [if_neg c9] at h
                  replace c9 := eqf c9
                  by_cases c10 : ltI (nI x1.length) (iadd .i64 (iadd .i64 (imul .i64 (conv .i64 x3) 256) (conv .i64 x4)) 7) = true
                  · rw [if_pos c10] at h
                    obtain rfl := Option.some.inj h
                    exact Tri.of (x := X30) mixed facts30 [.n x1.length, .d false, .n x1.length, .row [(.int .u8 x2)], .d false, .d false, .n x1.length, .d false, .d false, .d false, .n x1.length, .row [(.int .u8 x3)], .n x1.length, .row [(.int .u8 x4)], .d false, .d false, .n x1.length, .d false, .d false, .d false, .d false, .d true, .norm 0 ⟨[(2, [(0, 1)]), (3, []), (4, [])], [], false, [], []⟩] [⟨c10⟩, ⟨c9⟩, ⟨c9⟩, ⟨c9⟩, ⟨c9⟩, ⟨(len_map e_u8 x1)⟩, ⟨c9⟩, ⟨c9⟩, ⟨(cells_map (e := e_u8) e8 1 0 1 (by decide))⟩, ⟨c7⟩, ⟨(len_map e_u8 x1)⟩, ⟨(cells_map (e := e_u8) e6 1 0 1 (by decide))⟩, ⟨c5⟩, ⟨(len_map e_u8 x1)⟩, ⟨c4⟩, ⟨(nF c3)⟩, ⟨(nF c3)⟩, ⟨(len_map e_u8 x1)⟩, ⟨(nF c3)⟩, ⟨(nF c3)⟩, ⟨(cells_map (e := e_u8) e2 1 0 1 (by decide))⟩, ⟨c1⟩, ⟨(len_map e_u8 x1)⟩, ⟨c0⟩, ⟨(len_map e_u8 x1)⟩] (by kernel_rfl)
                  · rw [if_neg c10] at h
                    replace c10 := eqf c10
                    by_cases c11 : leI (iadd .i64 (iadd .i64 (imul .i64 (conv .i64 x3) 256) (conv .i64 x4)) 3) x1.length = true
                    · rw [if_pos c11] at h
                      by_cases c12 : leI 3 (tN (iadd .i64 (iadd .i64 (imul .i64 (conv .i64 x3) 256) (conv .i64 x4)) 3)) = true
                      · rw [if_pos c12] at h
                        obtain ⟨x5, e13, h⟩ := Option.bind_eq_some_iff.1 h
                        by_cases c14 : leI (iadd .i64 (iadd .i64 (imul .i64 (conv .i64 x3) 256) (conv .i64 x4)) 7) x1.length = true
                        · rw [if_pos c14] at h
                          by_cases c15 : eqS (strOf x5.1) (strOf (List.take (tN (iadd .i64 (iadd .i64 (imul .i64 (conv .i64 x3) 256) (conv .i64 x4)) 7)) x1)) = true
                          · rw [if_pos c15] at h
                            obtain rfl := Option.some.inj h
                            exact Tri.of (x := X30) mixed facts30 [.n x1.length, .d false, .n x1.length, .row [(.int .u8 x2)], .d false, .d false, .n x1.length, .d false, .d false, .d false, .n x1.length, .row [(.int .u8 x3)], .n x1.length, .row [(.int .u8 x4)], .d false, .d false, .n x1.length, .d false, .d false, .d false, .d false, .d false, .n x1.length, .rows (List.map e_u8 (List.take ((tN (iadd .i64 (iadd .i64 (imul .i64 (conv .i64 x3) 256) (conv .i64 x4)) 3)) - 3) (List.drop 3 x1))), .call ⟨true, []⟩ (.tup [(.sl 1 (List.map e_u8 x5.1)), (.int .i64 x5.2)]) [], .s (strOf x5.1), .n x1.length, .rows (List.map e_u8 (List.take (tN (iadd .i64 (iadd .i64 (imul .i64 (conv .i64 x3) 256) (conv .i64 x4)) 7)) x1)), .s (strOf (List.take (tN (iadd .i64 (iadd .i64 (imul .i64 (conv .i64 x3) 256) (conv .i64 x4)) 7)) x1)), .d false, .n x1.length, .rows (List.map e_u8 (List.take ((tN (iadd .i64 (iadd .i64 (imul .i64 (conv .i64 x3) 256) (conv .i64 x4)) 3)) - 3) (List.drop 3 x1)))] [⟨(cut_both e_u8 x1 3 (tN (iadd .i64 (iadd .i64 (imul .i64 (conv .i64 x3) 256) (conv .i64 x4)) 3)))⟩, ⟨c12⟩, ⟨c11⟩, ⟨(len_map e_u8 x1)⟩, ⟨(nF c15)⟩, ⟨(strRows_u8 (List.take (tN (iadd .i64 (iadd .i64 (imul .i64 (conv .i64 x3) 256) (conv .i64 x4)) 7)) x1))⟩, ⟨(cut_take e_u8 x1 (tN (iadd .i64 (iadd .i64 (imul .i64 (conv .i64 x3) 256) (conv .i64 x4)) 7)))⟩, ⟨c14⟩, ⟨(len_map e_u8 x1)⟩, ⟨(strRows_u8 x5.1)⟩, ⟨(ok_ref03_Frame k (List.take ((tN (iadd .i64 (iadd .i64 (imul .i64 (conv .i64 x3) 256) (conv .i64 x4)) 3)) - 3) (List.drop 3 x1)) _ e13)⟩, ⟨(cut_both e_u8 x1 3 (tN (iadd .i64 (iadd .i64 (imul .i64 (conv .i64 x3) 256) (conv .i64 x4)) 3)))⟩, ⟨c12⟩, ⟨c11⟩, ⟨(len_map e_u8 x1)⟩, ⟨c10⟩, ⟨c9⟩, ⟨c9⟩, ⟨c9⟩, ⟨c9⟩, ⟨(len_map e_u8 x1)⟩, ⟨c9⟩, ⟨c9⟩, ⟨(cells_map (e := e_u8) e8 1 0 1 (by decide))⟩, ⟨c7⟩, ⟨(len_map e_u8 x1)⟩, ⟨(cells_map (e := e_u8) e6 1 0 1 (by decide))⟩, ⟨c5⟩, ⟨(len_map e_u8 x1)⟩, ⟨c4⟩, ⟨(nF c3)⟩, ⟨(nF c3)⟩, ⟨(len_map e_u8 x1)⟩, ⟨(nF c3)⟩, ⟨(nF c3)⟩, ⟨(cells_map (e := e_u8) e2 1 0 1 (by decide))⟩, ⟨c1⟩, ⟨(len_map e_u8 x1)⟩, ⟨c0⟩, ⟨(len_map e_u8 x1)⟩] (by kernel_rfl)
                          · rw [if_neg c15] at h
                            replace c15 := eqf c15
                            obtain rfl := Option.some.inj h
                            exact Tri.of (x := X30) mixed facts30 [.n x1.length, .d false, .n x1.length, .row [(.int .u8 x2)], .d false, .d false, .n x1.length, .d false, .d false, .d false, .n x1.length, .row [(.int .u8 x3)], .n x1.length, .row [(.int .u8 x4)], .d false, .d false, .n x1.length, .d false, .d false, .d false, .d false, .d false, .n x1.length, .rows (List.map e_u8 (List.take ((tN (iadd .i64 (iadd .i64 (imul .i64 (conv .i64 x3) 256) (conv .i64 x4)) 3)) - 3) (List.drop 3 x1))), .call ⟨true, []⟩ (.tup [(.sl 1 (List.map e_u8 x5.1)), (.int .i64 x5.2)]) [], .s (strOf x5.1), .n x1.length, .rows (List.map e_u8 (List.take (tN (iadd .i64 (iadd .i64 (imul .i64 (conv .i64 x3) 256) (conv .i64 x4)) 7)) x1)), .s (strOf (List.take (tN (iadd .i64 (iadd .i64 (imul .i64 (conv .i64 x3) 256) (conv .i64 x4)) 7)) x1)), .d true, .norm 0 ⟨[(2, [(0, 1)]), (3, []), (4, [])], [], false, [], []⟩] [⟨(nT c15)⟩, ⟨(strRows_u8 (List.take (tN (iadd .i64 (iadd .i64 (imul .i64 (conv .i64 x3) 256) (conv .i64 x4)) 7)) x1))⟩, ⟨(cut_take e_u8 x1 (tN (iadd .i64 (iadd .i64 (imul .i64 (conv .i64 x3) 256) (conv .i64 x4)) 7)))⟩, ⟨c14⟩, ⟨(len_map e_u8 x1)⟩, ⟨(strRows_u8 x5.1)⟩, ⟨(ok_ref03_Frame k (List.take ((tN (iadd .i64 (iadd .i64 (imul .i64 (conv .i64 x3) 256) (conv .i64 x4)) 3)) - 3) (List.drop 3 x1)) _ e13)⟩, ⟨(cut_both e_u8 x1 3 (tN (iadd .i64 (iadd .i64 (imul .i64 (conv .i64 x3) 256) (conv .i64 x4)) 3)))⟩, ⟨c12⟩, ⟨c11⟩, ⟨(len_map e_u8 x1)⟩, ⟨c10⟩, ⟨c9⟩, ⟨c9⟩, ⟨c9⟩, ⟨c9⟩, ⟨(len_map e_u8 x1)⟩, ⟨c9⟩, ⟨c9⟩, ⟨(cells_map (e := e_u8) e8 1 0 1 (by decide))⟩, ⟨c7⟩, ⟨(len_map e_u8 x1)⟩, ⟨(cells_map (e := e_u8) e6 1 0 1 (by decide))⟩, ⟨c5⟩, ⟨(len_map e_u8 x1)⟩, ⟨c4⟩, ⟨(nF c3)⟩, ⟨(nF c3)⟩, ⟨(len_map e_u8 x1)⟩, ⟨(nF c3)⟩, ⟨(nF c3)⟩, ⟨(cells_map (e := e_u8) e2 1 0 1 (by decide))⟩, ⟨c1⟩, ⟨(len_map e_u8 x1)⟩, ⟨c0⟩, ⟨(len_map e_u8 x1)⟩] (by kernel_rfl)
                        · rw [if_neg c14] at h
                          replace c14 := eqf c14
                          cases h
                      · rw [if_neg c12] at h
                        replace c12 := eqf c12
                        cases h
                    · rw [if_neg c11] at h
                      replace c11 := eqf c11
                      cases h
              · rw [if_neg c7] at h
                replace c7 := eqf c7
                cases h
            · rw [if_neg c5] at h
              replace c5 := eqf c5
              cases h
        · rw [if_neg c3] at h
          replace c3 := eqf c3
          obtain rfl := Option.some.inj h
          exact Tri.of (x := X30) mixed facts30 [.n x1.length, .d false, .n x1.length, .row [(.int .u8 x2)], .d true, .d true, .d true, .d true, .d true, .norm 0 ⟨[(2, [(0, 1)]), (3, []), (4, [])], [], false, [], []⟩] [⟨(rfl : true = true)⟩, ⟨(nT c3)⟩, ⟨(nT c3)⟩, ⟨(nT c3)⟩, ⟨(nT c3)⟩, ⟨(cells_map (e := e_u8) e2 1 0 1 (by decide))⟩, ⟨c1⟩, ⟨(len_map e_u8 x1)⟩, ⟨c0⟩, ⟨(len_map e_u8 x1)⟩] (by kernel_rfl)
      · rw [if_neg c1] at h
        replace c1 := eqf c1
        cases h
end Go.Ws
