/-
  ledger_Put: what the machine makes of it. (Printed by my own program.)
  Conditions: none.
-/
import Derived.Test.YtlgkcajgkahmgaaZPre
import Derived.Test.YtlgkcajgkahmgaaZPure
import Derived.Test.YtlgkcajgkahmgaaZW14
import Derived.Test.YtlgkcajgkahmgaaZW24
import Derived.Test.YtlgkcajgkahmgaaZW25
import Derived.Test.YtlgkcajgkahmgaaZW26
import Derived.Test.YtlgkcajgkahmgaaZW27
import Derived.Test.YtlgkcajgkahmgaaZW28
import Derived.Test.YtlgkcajgkahmgaaZW28_1
set_option linter.unusedVariables false
set_option linter.unusedSimpArgs false
namespace Go.Ws
open Go.Proofs
set_option linter.unusedSimpArgs false
set_option linter.unusedVariables false
set_option maxRecDepth 1000000
set_option maxHeartbeats 4000000
noncomputable def X12 : Ctx := ⟨Try.f12, [], true⟩
noncomputable def L12_0 : Code := at_ Try.f12 [1, 1, 1, 1, 0, 1, 4, 5]
def S12_0 (x2 : List (Int × Int)) (v12001_1 : Int) (v12001_2 : List (Int × Int)) : St := ⟨mkT 67 [(0, (.ref 2 0 0 0 v12001_2.length .virt)), (22, (.sl 2 (List.map e_u8_i64 x2))), (23, (.int .i64 (nI x2.length))), (24, (.int .i64 v12001_1))], [(.arr 2 (List.map e_u8_i64 v12001_2) 0 0 false)]⟩
def E12_0_0 (v12002_1 : List (Int × Int)) : St := ⟨mkT 67 [(0, (.ref 2 0 0 0 v12002_1.length .virt))], [(.arr 2 (List.map e_u8_i64 v12002_1) 0 0 false)]⟩
def O12_0 (x2 : List (Int × Int)) (y : ((List (Int × Int)))) : GX := .st (.exit 0) (E12_0_0 y)
theorem ok_ledger_Put_l0 (x2 : List (Int × Int)) (y : ((List (Int × Int)))) : ∀ (k : Nat) (v12001_1 : Int) (v12001_2 : List (Int × Int)), ledger_Put_l0 k x2 v12001_1 v12001_2 = some y → LT Try.prog X12 L12_0 (S12_0 x2 v12001_1 v12001_2) (O12_0 x2 y)
  | 0, v12001_1, v12001_2, h => by cases h
  | k + 1, v12001_1, v12001_2, h => by
    rw [ledger_Put_l0] at h
    by_cases cL0 : ltI v12001_1 (nI x2.length) = true
    · rw [if_pos cL0] at h
      by_cases cL1 : inI v12001_1 x2.length = true
      · rw [if_pos cL1] at h
        obtain ⟨v12000_1, eL2, h⟩ := Option.bind_eq_some_iff.1 h
        obtain ⟨v12000_2, eL3, h⟩ := Option.bind_eq_some_iff.1 h
        by_cases cL4 : v12000_2.2 = true
        · rw [if_pos cL4] at h
          by_cases cL5 : inI v12000_2.1 v12001_2.length = true
          · rw [if_pos cL5] at h
            obtain ⟨v12000_3, eL6, h⟩ := Option.bind_eq_some_iff.1 h
            obtain ⟨v12000_4, eL7, h⟩ := Option.bind_eq_some_iff.1 h
            by_cases cL8 : eqI v12000_4.2 0 = true
            · rw [if_pos cL8] at h
              obtain ⟨v12000_5, eL9, h⟩ := Option.bind_eq_some_iff.1 h
              exact LT.next mixed (hs := ⟨[(0, []), (22, []), (23, []), (24, [])], [⟨.tmp 0, [], some 2⟩], false, [], []⟩) (es := none) [.d true, .n x2.length, .row [(.int .u8 v12000_1.1), (.int .i64 v12000_1.2)], .call ⟨true, []⟩ (.tup [(.int .i64 v12000_2.1), (.bool v12000_2.2)]) [], .rows (List.map e_u8_i64 v12001_2), .d false, .row [(.int .i64 v12000_3.2)], .rows (List.map e_u8_i64 (List.set v12001_2 (tN v12000_2.1) (v12000_3.1, iadd .i64 v12000_3.2 v12000_1.2))), .row [(.int .i64 v12000_4.2)], .d true, .call ⟨false, []⟩ (.ref 2 0 1 0 v12000_5.length .full) [(.arr 2 (List.map e_u8_i64 v12000_5) 1 1 false)], .n v12000_5.length, .rows (List.map e_u8_i64 v12000_5)] [⟨(take_all e_u8_i64 (l := v12000_5) (n := v12000_5.length) rfl)⟩, ⟨(rfl : v12000_5.length = v12000_5.length)⟩, ⟨(zle v12000_5.length)⟩, ⟨(by have hh := (ok_slices_Delete k v12000_2.1 (iadd .i64 v12000_2.1 1) (List.set v12001_2 (tN v12000_2.1) (v12000_3.1, iadd .i64 v12000_3.2 v12000_1.2)) _ eL9); simp only [List.length_set] at hh; exact hh)⟩, ⟨cL8⟩, ⟨(cells_map (e := e_u8_i64) eL7 2 1 1 (by decide))⟩, ⟨cL5⟩, ⟨(store_map (e := e_u8_i64) eL6 1 [(.int .i64 (iadd .i64 v12000_3.2 v12000_1.2))] (v12000_3.1, iadd .i64 v12000_3.2 v12000_1.2) rfl)⟩, ⟨cL5⟩, ⟨(cells_map (e := e_u8_i64) eL6 2 1 1 (by decide))⟩, ⟨cL5⟩, ⟨(nF cL4)⟩, ⟨(ok_ledger_find k v12001_2 v12000_1.1 _ eL3)⟩, ⟨(part_all e_u8_i64 (l := v12001_2) (n := v12001_2.length) rfl)⟩, ⟨(le_map e_u8_i64 (Nat.le_refl v12001_2.length) : 0 + v12001_2.length ≤ (List.map e_u8_i64 v12001_2).length)⟩, ⟨(cells_map (e := e_u8_i64) eL2 2 0 2 (by decide))⟩, ⟨cL1⟩, ⟨(len_map e_u8_i64 x2)⟩, ⟨cL0⟩] (by kernel_rfl) (ok_ledger_Put_l0 x2 y k (iadd .i64 v12001_1 1) v12000_5 h)
            · rw [if_neg cL8] at h
              replace cL8 := eqf cL8
              exact LT.next mixed (hs := ⟨[(0, []), (22, []), (23, []), (24, [])], [⟨.tmp 0, [], some 2⟩], false, [], []⟩) (es := none) [.d true, .n x2.length, .row [(.int .u8 v12000_1.1), (.int .i64 v12000_1.2)], .call ⟨true, []⟩ (.tup [(.int .i64 v12000_2.1), (.bool v12000_2.2)]) [], .rows (List.map e_u8_i64 v12001_2), .d false, .row [(.int .i64 v12000_3.2)], .rows (List.map e_u8_i64 (List.set v12001_2 (tN v12000_2.1) (v12000_3.1, iadd .i64 v12000_3.2 v12000_1.2))), .row [(.int .i64 v12000_4.2)], .d false, .n ((List.set v12001_2 (tN v12000_2.1) (v12000_3.1, iadd .i64 v12000_3.2 v12000_1.2)).length), .rows (List.map e_u8_i64 (List.set v12001_2 (tN v12000_2.1) (v12000_3.1, iadd .i64 v12000_3.2 v12000_1.2)))] [⟨(take_all e_u8_i64 (l := (List.set v12001_2 (tN v12000_2.1) (v12000_3.1, iadd .i64 v12000_3.2 v12000_1.2))) (n := v12001_2.length) (by simp : v12001_2.length = (List.set v12001_2 (tN v12000_2.1) (v12000_3.1, iadd .i64 v12000_3.2 v12000_1.2)).length))⟩, ⟨((by simp : v12001_2.length = List.length (α := Int × Int) (List.set v12001_2 (tN v12000_2.1) (v12000_3.1, iadd .i64 v12000_3.2 v12000_1.2))) : v12001_2.length = (List.set v12001_2 (tN v12000_2.1) (v12000_3.1, iadd .i64 v12000_3.2 v12000_1.2)).length)⟩, ⟨(zle v12001_2.length)⟩, ⟨cL8⟩, ⟨(cells_map (e := e_u8_i64) eL7 2 1 1 (by decide))⟩, ⟨cL5⟩, ⟨(store_map (e := e_u8_i64) eL6 1 [(.int .i64 (iadd .i64 v12000_3.2 v12000_1.2))] (v12000_3.1, iadd .i64 v12000_3.2 v12000_1.2) rfl)⟩, ⟨cL5⟩, ⟨(cells_map (e := e_u8_i64) eL6 2 1 1 (by decide))⟩, ⟨cL5⟩, ⟨(nF cL4)⟩, ⟨(ok_ledger_find k v12001_2 v12000_1.1 _ eL3)⟩, ⟨(part_all e_u8_i64 (l := v12001_2) (n := v12001_2.length) rfl)⟩, ⟨(le_map e_u8_i64 (Nat.le_refl v12001_2.length) : 0 + v12001_2.length ≤ (List.map e_u8_i64 v12001_2).length)⟩, ⟨(cells_map (e := e_u8_i64) eL2 2 0 2 (by decide))⟩, ⟨cL1⟩, ⟨(len_map e_u8_i64 x2)⟩, ⟨cL0⟩] (by kernel_rfl) (ok_ledger_Put_l0 x2 y k (iadd .i64 v12001_1 1) (List.set v12001_2 (tN v12000_2.1) (v12000_3.1, iadd .i64 v12000_3.2 v12000_1.2)) h)
          · rw [if_neg cL5] at h
            replace cL5 := eqf cL5
            cases h
        · rw [if_neg cL4] at h
          replace cL4 := eqf cL4
          obtain ⟨v12000_3, eL5, h⟩ := Option.bind_eq_some_iff.1 h
          by_cases cL6 : inI v12000_2.1 v12000_3.length = true
          · rw [if_pos cL6] at h
            obtain ⟨v12000_4, eL7, h⟩ := Option.bind_eq_some_iff.1 h
            obtain ⟨v12000_5, eL8, h⟩ := Option.bind_eq_some_iff.1 h
            by_cases cL9 : eqI v12000_5.2 0 = true
            · rw [if_pos cL9] at h
              obtain ⟨v12000_6, eL10, h⟩ := Option.bind_eq_some_iff.1 h
              exact LT.next mixed (hs := ⟨[(0, []), (22, []), (23, []), (24, [])], [⟨.tmp 0, [], some 2⟩], false, [], []⟩) (es := none) [.d true, .n x2.length, .row [(.int .u8 v12000_1.1), (.int .i64 v12000_1.2)], .call ⟨true, []⟩ (.tup [(.int .i64 v12000_2.1), (.bool v12000_2.2)]) [], .rows (List.map e_u8_i64 v12001_2), .d true, .call ⟨false, []⟩ (.ref 2 0 1 0 v12000_3.length .full) [(.arr 2 (List.map e_u8_i64 v12000_3) 1 1 false), (.arr 2 (List.map e_u8_i64 [(v12000_1.1, 0)]) 0 0 false)], .row [(.int .i64 v12000_4.2)], .rows (List.map e_u8_i64 (List.set v12000_3 (tN v12000_2.1) (v12000_4.1, iadd .i64 v12000_4.2 v12000_1.2))), .row [(.int .i64 v12000_5.2)], .d true, .call ⟨false, []⟩ (.ref 2 0 2 0 v12000_6.length .full) [(.arr 2 (List.map e_u8_i64 v12000_6) 2 2 false)], .n v12000_6.length, .rows (List.map e_u8_i64 v12000_6)] [⟨(take_all e_u8_i64 (l := v12000_6) (n := v12000_6.length) rfl)⟩, ⟨(rfl : v12000_6.length = v12000_6.length)⟩, ⟨(zle v12000_6.length)⟩, ⟨(by have hh := (ok_slices_Delete_1 k v12000_2.1 (iadd .i64 v12000_2.1 1) (List.set v12000_3 (tN v12000_2.1) (v12000_4.1, iadd .i64 v12000_4.2 v12000_1.2)) _ eL10); simp only [List.length_set] at hh; exact hh)⟩, ⟨cL9⟩, ⟨(cells_map (e := e_u8_i64) eL8 2 1 1 (by decide))⟩, ⟨cL6⟩, ⟨(store_map (e := e_u8_i64) eL7 1 [(.int .i64 (iadd .i64 v12000_4.2 v12000_1.2))] (v12000_4.1, iadd .i64 v12000_4.2 v12000_1.2) rfl)⟩, ⟨cL6⟩, ⟨(cells_map (e := e_u8_i64) eL7 2 1 1 (by decide))⟩, ⟨cL6⟩, ⟨(ok_slices_Insert k v12000_2.1 v12001_2 [(v12000_1.1, 0)] _ eL5)⟩, ⟨(nT cL4)⟩, ⟨(ok_ledger_find k v12001_2 v12000_1.1 _ eL3)⟩, ⟨(part_all e_u8_i64 (l := v12001_2) (n := v12001_2.length) rfl)⟩, ⟨(le_map e_u8_i64 (Nat.le_refl v12001_2.length) : 0 + v12001_2.length ≤ (List.map e_u8_i64 v12001_2).length)⟩, ⟨(cells_map (e := e_u8_i64) eL2 2 0 2 (by decide))⟩, ⟨cL1⟩, ⟨(len_map e_u8_i64 x2)⟩, ⟨cL0⟩] (by kernel_rfl) (ok_ledger_Put_l0 x2 y k (iadd .i64 v12001_1 1) v12000_6 h)
            · rw [if_neg cL9] at h
              replace cL9 := eqf cL9
              exact LT.next mixed (hs := ⟨[(0, []), (22, []), (23, []), (24, [])], [⟨.tmp 0, [], some 2⟩], false, [], []⟩) (es := none) [.d true, .n x2.length, .row [(.int .u8 v12000_1.1), (.int .i64 v12000_1.2)], .call ⟨true, []⟩ (.tup [(.int .i64 v12000_2.1), (.bool v12000_2.2)]) [], .rows (List.map e_u8_i64 v12001_2), .d true, .call ⟨false, []⟩ (.ref 2 0 1 0 v12000_3.length .full) [(.arr 2 (List.map e_u8_i64 v12000_3) 1 1 false), (.arr 2 (List.map e_u8_i64 [(v12000_1.1, 0)]) 0 0 false)], .row [(.int .i64 v12000_4.2)], .rows (List.map e_u8_i64 (List.set v12000_3 (tN v12000_2.1) (v12000_4.1, iadd .i64 v12000_4.2 v12000_1.2))), .row [(.int .i64 v12000_5.2)], .d false, .n ((List.set v12000_3 (tN v12000_2.1) (v12000_4.1, iadd .i64 v12000_4.2 v12000_1.2)).length), .rows (List.map e_u8_i64 (List.set v12000_3 (tN v12000_2.1) (v12000_4.1, iadd .i64 v12000_4.2 v12000_1.2)))] [⟨(take_all e_u8_i64 (l := (List.set v12000_3 (tN v12000_2.1) (v12000_4.1, iadd .i64 v12000_4.2 v12000_1.2))) (n := v12000_3.length) (by simp : v12000_3.length = (List.set v12000_3 (tN v12000_2.1) (v12000_4.1, iadd .i64 v12000_4.2 v12000_1.2)).length))⟩, ⟨((by simp : v12000_3.length = List.length (α := Int × Int) (List.set v12000_3 (tN v12000_2.1) (v12000_4.1, iadd .i64 v12000_4.2 v12000_1.2))) : v12000_3.length = (List.set v12000_3 (tN v12000_2.1) (v12000_4.1, iadd .i64 v12000_4.2 v12000_1.2)).length)⟩, ⟨(zle v12000_3.length)⟩, ⟨cL9⟩, ⟨(cells_map (e := e_u8_i64) eL8 2 1 1 (by decide))⟩, ⟨cL6⟩, ⟨(store_map (e := e_u8_i64) eL7 1 [(.int .i64 (iadd .i64 v12000_4.2 v12000_1.2))] (v12000_4.1, iadd .i64 v12000_4.2 v12000_1.2) rfl)⟩, ⟨cL6⟩, ⟨(cells_map (e := e_u8_i64) eL7 2 1 1 (by decide))⟩, ⟨cL6⟩, ⟨(ok_slices_Insert k v12000_2.1 v12001_2 [(v12000_1.1, 0)] _ eL5)⟩, ⟨(nT cL4)⟩, ⟨(ok_ledger_find k v12001_2 v12000_1.1 _ eL3)⟩, ⟨(part_all e_u8_i64 (l := v12001_2) (n := v12001_2.length) rfl)⟩, ⟨(le_map e_u8_i64 (Nat.le_refl v12001_2.length) : 0 + v12001_2.length ≤ (List.map e_u8_i64 v12001_2).length)⟩, ⟨(cells_map (e := e_u8_i64) eL2 2 0 2 (by decide))⟩, ⟨cL1⟩, ⟨(len_map e_u8_i64 x2)⟩, ⟨cL0⟩] (by kernel_rfl) (ok_ledger_Put_l0 x2 y k (iadd .i64 v12001_1 1) (List.set v12000_3 (tN v12000_2.1) (v12000_4.1, iadd .i64 v12000_4.2 v12000_1.2)) h)
          · rw [if_neg cL6] at h
            replace cL6 := eqf cL6
            cases h
      · rw [if_neg cL1] at h
        replace cL1 := eqf cL1
        cases h
    · rw [if_neg cL0] at h
      replace cL0 := eqf cL0
      obtain rfl := Option.some.inj h
      show LT _ _ _ _ (.st (.exit 0) (E12_0_0 v12001_2))
      exact LT.done mixed (hs := ⟨[], [], false, [], []⟩) (es := (some ⟨[(0, [])], [⟨.tmp 0, [], none⟩], false, [], []⟩)) [.d false] [⟨cL0⟩] (by kernel_rfl) (fun s h => by cases h)
theorem ok_ledger_Put (k : Nat) (x1 : List (Int × Int)) (x2 : List (Int × Int)) (r : (List (Int × Int)) × Int) (h : ledger_Put k x1 x2 = some r) : Tri Try.prog 12 [(.sl 2 (List.map e_u8_i64 x1)), (.sl 2 (List.map e_u8_i64 x2))] [] (.tup [(.sl 2 (List.map e_u8_i64 r.1)), (.int .i64 r.2)]) [] := by
    unfold ledger_Put at h
    obtain ⟨x3, e0, h⟩ := Option.bind_eq_some_iff.1 h
    obtain ⟨x4, e1, h⟩ := Option.bind_eq_some_iff.1 h
    by_cases c2 : x4 = true
    · rw [if_pos c2] at h
      obtain ⟨x5, e3, h⟩ := Option.bind_eq_some_iff.1 h
      by_cases c4 : x5 = true
      · rw [if_pos c4] at h
        obtain rfl := Option.some.inj h
        exact Tri.of (x := X12) mixed facts12 [.call ⟨true, []⟩ (.ref 2 0 0 0 x1.length .virt) [(.arr 2 (List.map e_u8_i64 x1) 0 0 false)], .call ⟨true, []⟩ (.bool x4) [], .rows (List.map e_u8_i64 x1), .d false, .d false, .d false, .call ⟨true, []⟩ (.bool x5) [], .d false, .d true, .rows (List.map e_u8_i64 x1)] [⟨(part_all e_u8_i64 (l := x1) (n := x1.length) rfl)⟩, ⟨(le_map e_u8_i64 (Nat.le_refl x1.length) : 0 + x1.length ≤ (List.map e_u8_i64 x1).length)⟩, ⟨c4⟩, ⟨(nF c2)⟩, ⟨(ok_slices_ContainsFunc k x2 _ e3)⟩, ⟨(nF c2)⟩, ⟨(nF c2)⟩, ⟨(nF c2)⟩, ⟨(ok_ledger_Right k x1 _ e1)⟩, ⟨(part_all e_u8_i64 (l := x1) (n := x1.length) rfl)⟩, ⟨(le_map e_u8_i64 (Nat.le_refl x1.length) : 0 + x1.length ≤ (List.map e_u8_i64 x1).length)⟩, ⟨(ok_slices_Clone k x1 _ e0)⟩] (by kernel_rfl)
      · rw [if_neg c4] at h
        replace c4 := eqf c4
        obtain ⟨x7, e5, h⟩ := Option.bind_eq_some_iff.1 h
        obtain rfl := Option.some.inj h
        exact Tri.of (x := X12) mixed facts12 [.call ⟨true, []⟩ (.ref 2 0 0 0 x1.length .virt) [(.arr 2 (List.map e_u8_i64 x1) 0 0 false)], .call ⟨true, []⟩ (.bool x4) [], .rows (List.map e_u8_i64 x1), .d false, .d false, .d false, .call ⟨true, []⟩ (.bool x5) [], .d false, .d false, .n x2.length, .norm 2 ⟨[(0, []), (22, []), (23, []), (24, [])], [⟨.tmp 0, [], some 2⟩], false, [], []⟩, .n x1.length, .rows (List.map e_u8_i64 x1), .out (.st .normal (E12_0_0 x7)), .rows (List.map e_u8_i64 x7)] [⟨(part_all e_u8_i64 (l := x7) (n := x7.length) rfl)⟩, ⟨(le_map e_u8_i64 (Nat.le_refl x7.length) : 0 + x7.length ≤ (List.map e_u8_i64 x7).length)⟩, ⟨(LT.block (ok_ledger_Put_l0 x2 _ k 0 x1 e5))⟩, ⟨(take_all e_u8_i64 (l := x1) (n := x1.length) rfl)⟩, ⟨(rfl : x1.length = x1.length)⟩, ⟨(zle x1.length)⟩, ⟨(len_map e_u8_i64 x2)⟩, ⟨c4⟩, ⟨(nF c2)⟩, ⟨(ok_slices_ContainsFunc k x2 _ e3)⟩, ⟨(nF c2)⟩, ⟨(nF c2)⟩, ⟨(nF c2)⟩, ⟨(ok_ledger_Right k x1 _ e1)⟩, ⟨(part_all e_u8_i64 (l := x1) (n := x1.length) rfl)⟩, ⟨(le_map e_u8_i64 (Nat.le_refl x1.length) : 0 + x1.length ≤ (List.map e_u8_i64 x1).length)⟩, ⟨(ok_slices_Clone k x1 _ e0)⟩] (by kernel_rfl)
    · rw [if_neg c2] at h
      replace c2 := eqf c2
      obtain rfl := Option.some.inj h
      exact Tri.of (x := X12) mixed facts12 [.call ⟨true, []⟩ (.ref 2 0 0 0 x1.length .virt) [(.arr 2 (List.map e_u8_i64 x1) 0 0 false)], .call ⟨true, []⟩ (.bool x4) [], .rows (List.map e_u8_i64 x1), .d true, .d true, .d true, .d true, .d true, .rows (List.map e_u8_i64 x1)] [⟨(part_all e_u8_i64 (l := x1) (n := x1.length) rfl)⟩, ⟨(le_map e_u8_i64 (Nat.le_refl x1.length) : 0 + x1.length ≤ (List.map e_u8_i64 x1).length)⟩, ⟨(rfl : true = true)⟩, ⟨(nT c2)⟩, ⟨(nT c2)⟩, ⟨(nT c2)⟩, ⟨(nT c2)⟩, ⟨(ok_ledger_Right k x1 _ e1)⟩, ⟨(part_all e_u8_i64 (l := x1) (n := x1.length) rfl)⟩, ⟨(le_map e_u8_i64 (Nat.le_refl x1.length) : 0 + x1.length ≤ (List.map e_u8_i64 x1).length)⟩, ⟨(ok_slices_Clone k x1 _ e0)⟩] (by kernel_rfl)
end Go.Ws
