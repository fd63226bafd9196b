/-
  law04_DiskRows: what the machine makes of it. (Printed by my own program.)
  Conditions: none.
-/
import Derived.Test.YtaddlnmhjlmneaaZPre
import Derived.Test.YtaddlnmhjlmneaaZPure
import Derived.Test.YtaddlnmhjlmneaaZW10
import Derived.Test.YtaddlnmhjlmneaaZW11
import Derived.Test.YtaddlnmhjlmneaaZW13_1
import Derived.Test.YtaddlnmhjlmneaaZW15
import Derived.Test.YtaddlnmhjlmneaaZW16
import Derived.Test.YtaddlnmhjlmneaaZW21
import Derived.Test.YtaddlnmhjlmneaaZW23
import Derived.Test.YtaddlnmhjlmneaaZW9
set_option linter.unusedVariables false
set_option linter.unusedSimpArgs false
namespace Go.Ws
open Go.Proofs
set_option linter.unusedSimpArgs false
set_option linter.unusedVariables false
set_option maxRecDepth 1000000
set_option maxHeartbeats 4000000
noncomputable def X7 : Ctx := ⟨Try.f7, [], true⟩
noncomputable def L7_0 : Code := at_ Try.f7 [1, 1, 1, 1, 1, 1, 0, 1, 4, 5]
def S7_0 (x1 : List Int) (x2 : Int) (x3 : Int) (x4 : List (List Int)) (v7001_1 : Int) (v7001_2 : List Int) (v7001_3 : Int) (v7001_4 : Int) (v7001_5 : List (List Int)) : St := ⟨mkT 87 [(2, (.hp 0 0)), (5, (.hp 1 0)), (7, (.ref 1 2 0 0 v7001_5.length .virt)), (44, (.sl 1 (List.map e_Lu8E x4))), (45, (.int .i64 (nI x4.length))), (46, (.int .i64 v7001_1))], [(.row [(.sl 1 (List.map e_u8 x1)), (.int .i64 x2), (.int .i64 x3)]), (.row [(.sl 1 (List.map e_u8 v7001_2)), (.int .i64 v7001_3), (.int .i64 v7001_4)]), (.arr 1 (List.map e_Lu8E v7001_5) 0 0 false)]⟩
def E7_0_0 (x1 : List Int) (x2 : Int) (x3 : Int) (v7002_1 : List Int) (v7002_2 : Int) (v7002_3 : Int) (v7002_4 : List (List Int)) : St := ⟨mkT 87 [(2, (.hp 0 0)), (5, (.hp 1 0)), (7, (.ref 1 2 0 0 v7002_4.length .virt))], [(.row [(.sl 1 (List.map e_u8 x1)), (.int .i64 x2), (.int .i64 x3)]), (.row [(.sl 1 (List.map e_u8 v7002_1)), (.int .i64 v7002_2), (.int .i64 v7002_3)]), (.arr 1 (List.map e_Lu8E v7002_4) 0 0 false)]⟩
def O7_0 (x1 : List Int) (x2 : Int) (x3 : Int) (x4 : List (List Int)) (y : ((List Int) × Int × Int × (List (List Int)))) : GX := .st (.exit 0) (E7_0_0 x1 x2 x3 y.1 y.2.1 y.2.2.1 y.2.2.2)
theorem ok_law04_DiskRows_l0 (x1 : List Int) (x2 : Int) (x3 : Int) (x4 : List (List Int)) (y : ((List Int) × Int × Int × (List (List Int)))) : ∀ (k : Nat) (v7001_1 : Int) (v7001_2 : List Int) (v7001_3 : Int) (v7001_4 : Int) (v7001_5 : List (List Int)), law04_DiskRows_l0 k x1 x2 x3 x4 v7001_1 v7001_2 v7001_3 v7001_4 v7001_5 = some y → LT Try.prog X7 L7_0 (S7_0 x1 x2 x3 x4 v7001_1 v7001_2 v7001_3 v7001_4 v7001_5) (O7_0 x1 x2 x3 x4 y)
  | 0, v7001_1, v7001_2, v7001_3, v7001_4, v7001_5, h => by cases h
  | k + 1, v7001_1, v7001_2, v7001_3, v7001_4, v7001_5, h => by
    rw [law04_DiskRows_l0] at h
    by_cases cL0 : ltI v7001_1 (nI x4.length) = true
    · rw [if_pos cL0] at h
      by_cases cL1 : inI v7001_1 x4.length = true
      · rw [if_pos cL1] at h
        obtain ⟨v7000_1, eL2, h⟩ := Option.bind_eq_some_iff.1 h
        obtain ⟨v7000_2, eL3, h⟩ := Option.bind_eq_some_iff.1 h
        by_cases cL4 : eqI v7000_2.2.2.2 0 = true
        · rw [if_pos cL4] at h
          by_cases cL5 : roomI (((v7001_5 ++ [v7000_1]).length) * 24) = true
          · rw [if_pos cL5] at h
            exact LT.next mixed (hs := ⟨[(2, []), (5, []), (7, []), (44, []), (45, []), (46, [])], [⟨.tmp 2, [], none⟩, ⟨.tmp 5, [], none⟩, ⟨.tmp 7, [], none⟩], false, [], []⟩) (es := none) [.d true, .n x4.length, .row [(.sl 1 (List.map e_u8 v7000_1))], .call ⟨true, []⟩ (.tup [(.agg [(.sl 1 (List.map e_u8 v7000_2.1)), (.int .i64 v7000_2.2.1), (.int .i64 v7000_2.2.2.1)]), (.int .i64 v7000_2.2.2.2)]) [], .d true, .rows (List.map e_Lu8E [v7000_1]), .n ((v7001_5 ++ [v7000_1]).length), .n v7001_5.length, .d true, .rows (List.map e_Lu8E (v7001_5 ++ [v7000_1]))] [⟨(app_map e_Lu8E v7001_5 [v7000_1])⟩, ⟨(eqN_self v7001_5.length)⟩, ⟨(len_map e_Lu8E v7001_5)⟩, ⟨cL5⟩, ⟨(by simp only [List.length_append, List.length_cons, List.length_nil, List.length_take, List.length_drop, List.length_set, List.length_replicate, List.length_map, List.map_nil, List.map_cons] <;> omega : v7001_5.length + (List.map e_Lu8E [v7000_1]).length = (v7001_5 ++ [v7000_1]).length)⟩, ⟨(part_all e_Lu8E (l := [v7000_1]) (n := 1) rfl)⟩, ⟨(le_map e_Lu8E (Nat.le_refl 1) : 0 + 1 ≤ (List.map e_Lu8E [v7000_1]).length)⟩, ⟨cL4⟩, ⟨(ok_disk_Append k v7001_2 v7001_3 v7001_4 v7000_1 _ eL3)⟩, ⟨(cells_map (e := e_Lu8E) eL2 1 0 1 (by decide))⟩, ⟨cL1⟩, ⟨(len_map e_Lu8E x4)⟩, ⟨cL0⟩] (by kernel_rfl) (ok_law04_DiskRows_l0 x1 x2 x3 x4 y k (iadd .i64 v7001_1 1) v7000_2.1 v7000_2.2.1 v7000_2.2.2.1 (v7001_5 ++ [v7000_1]) h)
          · rw [if_neg cL5] at h
            replace cL5 := eqf cL5
            cases h
        · rw [if_neg cL4] at h
          replace cL4 := eqf cL4
          exact LT.next mixed (hs := ⟨[(2, []), (5, []), (7, []), (44, []), (45, []), (46, [])], [⟨.tmp 2, [], none⟩, ⟨.tmp 5, [], none⟩, ⟨.tmp 7, [], none⟩], false, [], []⟩) (es := none) [.d true, .n x4.length, .row [(.sl 1 (List.map e_u8 v7000_1))], .call ⟨true, []⟩ (.tup [(.agg [(.sl 1 (List.map e_u8 v7000_2.1)), (.int .i64 v7000_2.2.1), (.int .i64 v7000_2.2.2.1)]), (.int .i64 v7000_2.2.2.2)]) [], .d false] [⟨cL4⟩, ⟨(ok_disk_Append k v7001_2 v7001_3 v7001_4 v7000_1 _ eL3)⟩, ⟨(cells_map (e := e_Lu8E) eL2 1 0 1 (by decide))⟩, ⟨cL1⟩, ⟨(len_map e_Lu8E x4)⟩, ⟨cL0⟩] (by kernel_rfl) (ok_law04_DiskRows_l0 x1 x2 x3 x4 y k (iadd .i64 v7001_1 1) v7000_2.1 v7000_2.2.1 v7000_2.2.2.1 v7001_5 h)
      · rw [if_neg cL1] at h
        replace cL1 := eqf cL1
        cases h
    · rw [if_neg cL0] at h
      replace cL0 := eqf cL0
      obtain rfl := Option.some.inj h
      show LT _ _ _ _ (.st (.exit 0) (E7_0_0 x1 x2 x3 v7001_2 v7001_3 v7001_4 v7001_5))
      exact LT.done mixed (hs := ⟨[], [], false, [], []⟩) (es := (some ⟨[(2, []), (5, []), (7, [])], [⟨.tmp 2, [], none⟩, ⟨.tmp 5, [], none⟩, ⟨.tmp 7, [], none⟩], false, [], []⟩)) [.d false] [⟨cL0⟩] (by kernel_rfl) (fun s h => by cases h)
theorem ok_law04_DiskRows (k : Nat) (x1 : List Int) (x2 : Int) (x3 : Int) (x4 : List (List Int)) (r : Bool) (h : law04_DiskRows k x1 x2 x3 x4 = some r) : Tri Try.prog 7 [(.agg [(.sl 1 (List.map e_u8 x1)), (.int .i64 x2), (.int .i64 x3)]), (.sl 1 (List.map e_Lu8E x4))] [] (.bool r) [] := by
    unfold law04_DiskRows at h
    obtain ⟨x5, e0, h⟩ := Option.bind_eq_some_iff.1 h
    by_cases c1 : x5 = true
    · rw [if_pos c1] at h
      by_cases c2 : ltI 9000 (nI x1.length) = true
      · rw [if_pos c2] at h
        obtain rfl := Option.some.inj h
        exact Tri.of (x := X7) mixed facts7 [.call ⟨true, []⟩ (.bool x5) [], .d false, .n x1.length, .d true, .d true, .d true, .d true, .d true, .d true, .d true, .d true, .d true] [⟨(rfl : true = true)⟩, ⟨(rfl : true = true)⟩, ⟨(rfl : true = true)⟩, ⟨(rfl : true = true)⟩, ⟨(rfl : true = true)⟩, ⟨c2⟩, ⟨c2⟩, ⟨c2⟩, ⟨c2⟩, ⟨(len_map e_u8 x1)⟩, ⟨(nF c1)⟩, ⟨(ok_law04_alive k _ e0)⟩] (by kernel_rfl)
      · rw [if_neg c2] at h
        replace c2 := eqf c2
        obtain ⟨x6, e3, h⟩ := Option.bind_eq_some_iff.1 h
        by_cases c4 : x6 = true
        · rw [if_pos c4] at h
          by_cases c5 : (ref04_Right x1 x2 x3) = true
          · rw [if_pos c5] at h
            obtain ⟨x7, e6, h⟩ := Option.bind_eq_some_iff.1 h
            obtain ⟨x8, e7, h⟩ := Option.bind_eq_some_iff.1 h
            by_cases c8 : (ref04_Same x7.1 x7.2.1 x7.2.2 x8.1 x8.2.1 x8.2.2) = true
            · rw [if_pos c8] at h
              obtain ⟨x9, e9, h⟩ := Option.bind_eq_some_iff.1 h
              obtain ⟨x11, e10, h⟩ := Option.bind_eq_some_iff.1 h
              obtain ⟨x12, e12, h⟩ := Option.bind_eq_some_iff.1 h
              obtain ⟨x13, e13, h⟩ := Option.bind_eq_some_iff.1 h
              by_cases c14 : x13 = true
              · rw [if_pos c14] at h
                by_cases c15 : eqI x12.1 (nI x11.1.length) = true
                · rw [if_pos c15] at h
                  obtain rfl := Option.some.inj h
                  exact Tri.of (x := X7) mixed facts7 [.call ⟨true, []⟩ (.bool x5) [], .d false, .n x1.length, .d false, .d false, .call ⟨true, []⟩ (.bool x6) [], .d false, .d false, .d false, .d false, .call ⟨true, []⟩ (.bool (ref04_Right x1 x2 x3)) [], .d false, .d false, .d false, .call ⟨true, []⟩ (.agg [(.sl 1 (List.map e_u8 x7.1)), (.int .i64 x7.2.1), (.int .i64 x7.2.2)]) [], .call ⟨true, []⟩ (.agg [(.sl 1 (List.map e_u8 x8.1)), (.int .i64 x8.2.1), (.int .i64 x8.2.2)]) [], .call ⟨true, []⟩ (.bool (ref04_Same x7.1 x7.2.1 x7.2.2 x8.1 x8.2.1 x8.2.2)) [], .d false, .call ⟨true, []⟩ (.tup [(.ref 1 0 0 0 x9.2.length .virt), (.int .i64 x9.1)]) [(.arr 1 (List.map e_Lu8E x9.2) 0 0 false)], .n x4.length, .norm 2 ⟨[(2, []), (5, []), (7, []), (44, []), (45, []), (46, [])], [⟨.tmp 2, [], none⟩, ⟨.tmp 5, [], none⟩, ⟨.tmp 7, [], none⟩], false, [], []⟩, .out (.st .normal (E7_0_0 x1 x2 x3 x11.1 x11.2.1 x11.2.2.1 x11.2.2.2)), .call ⟨true, []⟩ (.tup [(.ref 1 0 0 0 x12.2.length .virt), (.int .i64 x12.1)]) [(.arr 1 (List.map e_Lu8E x12.2) 0 0 false)], .call ⟨true, []⟩ (.bool x13) [], .rows (List.map e_Lu8E x12.2), .rows (List.map e_Lu8E x11.2.2.2), .d true, .d true, .d true, .d true, .n x11.1.length, .d true, .d true, .d true, .d true, .d true, .n x11.1.length, .d true, .d true, .d true, .d true] [⟨c15⟩, ⟨c15⟩, ⟨c15⟩, ⟨c15⟩, ⟨(len_map e_u8 x11.1)⟩, ⟨c15⟩, ⟨c15⟩, ⟨c15⟩, ⟨c14⟩, ⟨c14⟩, ⟨(len_map e_u8 x11.1)⟩, ⟨c14⟩, ⟨c14⟩, ⟨c14⟩, ⟨c14⟩, ⟨(ok_law04_same k x12.2 x11.2.2.2 _ e13)⟩, ⟨(part_all e_Lu8E (l := x11.2.2.2) (n := x11.2.2.2.length) rfl)⟩, ⟨(le_map e_Lu8E (Nat.le_refl x11.2.2.2.length) : 0 + x11.2.2.2.length ≤ (List.map e_Lu8E x11.2.2.2).length)⟩, ⟨(part_all e_Lu8E (l := x12.2) (n := x12.2.length) rfl)⟩, ⟨(le_map e_Lu8E (Nat.le_refl x12.2.length) : 0 + x12.2.length ≤ (List.map e_Lu8E x12.2).length)⟩, ⟨(ok_disk_Records_1 k x11.1 x11.2.1 x11.2.2.1 _ e12)⟩, ⟨(LT.block (ok_law04_DiskRows_l0 x1 x2 x3 x4 _ k 0 x7.1 x7.2.1 x7.2.2 x9.2 e10))⟩, ⟨(len_map e_Lu8E x4)⟩, ⟨(ok_disk_Records_1 k x7.1 x7.2.1 x7.2.2 _ e9)⟩, ⟨(nF c8)⟩, ⟨(ok_ref04_Same x7.1 x7.2.1 x7.2.2 x8.1 x8.2.1 x8.2.2)⟩, ⟨(ok_disk_Repair k x7.1 x7.2.1 x7.2.2 _ e7)⟩, ⟨(ok_disk_Repair k x1 x2 x3 _ e6)⟩, ⟨(nF c5)⟩, ⟨(nF c4)⟩, ⟨(nF c4)⟩, ⟨(ok_ref04_Right x1 x2 x3)⟩, ⟨(nF c4)⟩, ⟨(nF c4)⟩, ⟨c2⟩, ⟨c2⟩, ⟨(ok_law04_few k x4 _ e3)⟩, ⟨c2⟩, ⟨c2⟩, ⟨(len_map e_u8 x1)⟩, ⟨(nF c1)⟩, ⟨(ok_law04_alive k _ e0)⟩] (by kernel_rfl)
                · rw [if_neg c15] at h
                  replace c15 := eqf c15
                  obtain rfl := Option.some.inj h
                  exact Tri.of (x := X7) mixed facts7 [.call ⟨true, []⟩ (.bool x5) [], .d false, .n x1.length, .d false, .d false, .call ⟨true, []⟩ (.bool x6) [], .d false, .d false, .d false, .d false, .call ⟨true, []⟩ (.bool (ref04_Right x1 x2 x3)) [], .d false, .d false, .d false, .call ⟨true, []⟩ (.agg [(.sl 1 (List.map e_u8 x7.1)), (.int .i64 x7.2.1), (.int .i64 x7.2.2)]) [], .call ⟨true, []⟩ (.agg [(.sl 1 (List.map e_u8 x8.1)), (.int .i64 x8.2.1), (.int .i64 x8.2.2)]) [], .call ⟨true, []⟩ (.bool (ref04_Same x7.1 x7.2.1 x7.2.2 x8.1 x8.2.1 x8.2.2)) [], .d false, .call ⟨true, []⟩ (.tup [(.ref 1 0 0 0 x9.2.length .virt), (.int .i64 x9.1)]) [(.arr 1 (List.map e_Lu8E x9.2) 0 0 false)], .n x4.length, .norm 2 ⟨[(2, []), (5, []), (7, []), (44, []), (45, []), (46, [])], [⟨.tmp 2, [], none⟩, ⟨.tmp 5, [], none⟩, ⟨.tmp 7, [], none⟩], false, [], []⟩, .out (.st .normal (E7_0_0 x1 x2 x3 x11.1 x11.2.1 x11.2.2.1 x11.2.2.2)), .call ⟨true, []⟩ (.tup [(.ref 1 0 0 0 x12.2.length .virt), (.int .i64 x12.1)]) [(.arr 1 (List.map e_Lu8E x12.2) 0 0 false)], .call ⟨true, []⟩ (.bool x13) [], .rows (List.map e_Lu8E x12.2), .rows (List.map e_Lu8E x11.2.2.2), .d true, .d true, .d true, .d true, .n x11.1.length, .d true, .d true, .d false, .d false, .d false, .d false, .d false, .d false, .d false] [⟨c15⟩, ⟨c15⟩, ⟨c15⟩, ⟨c15⟩, ⟨c15⟩, ⟨c15⟩, ⟨c15⟩, ⟨c14⟩, ⟨c14⟩, ⟨(len_map e_u8 x11.1)⟩, ⟨c14⟩, ⟨c14⟩, ⟨c14⟩, ⟨c14⟩, ⟨(ok_law04_same k x12.2 x11.2.2.2 _ e13)⟩, ⟨(part_all e_Lu8E (l := x11.2.2.2) (n := x11.2.2.2.length) rfl)⟩, ⟨(le_map e_Lu8E (Nat.le_refl x11.2.2.2.length) : 0 + x11.2.2.2.length ≤ (List.map e_Lu8E x11.2.2.2).length)⟩, ⟨(part_all e_Lu8E (l := x12.2) (n := x12.2.length) rfl)⟩, ⟨(le_map e_Lu8E (Nat.le_refl x12.2.length) : 0 + x12.2.length ≤ (List.map e_Lu8E x12.2).length)⟩, ⟨(ok_disk_Records_1 k x11.1 x11.2.1 x11.2.2.1 _ e12)⟩, ⟨(LT.block (ok_law04_DiskRows_l0 x1 x2 x3 x4 _ k 0 x7.1 x7.2.1 x7.2.2 x9.2 e10))⟩, ⟨(len_map e_Lu8E x4)⟩, ⟨(ok_disk_Records_1 k x7.1 x7.2.1 x7.2.2 _ e9)⟩, ⟨(nF c8)⟩, ⟨(ok_ref04_Same x7.1 x7.2.1 x7.2.2 x8.1 x8.2.1 x8.2.2)⟩, ⟨(ok_disk_Repair k x7.1 x7.2.1 x7.2.2 _ e7)⟩, ⟨(ok_disk_Repair k x1 x2 x3 _ e6)⟩, ⟨(nF c5)⟩, ⟨(nF c4)⟩, ⟨(nF c4)⟩, ⟨(ok_ref04_Right x1 x2 x3)⟩, ⟨(nF c4)⟩, ⟨(nF c4)⟩, ⟨c2⟩, ⟨c2⟩, ⟨(ok_law04_few k x4 _ e3)⟩, ⟨c2⟩, ⟨c2⟩, ⟨(len_map e_u8 x1)⟩, ⟨(nF c1)⟩, ⟨(ok_law04_alive k _ e0)⟩] (by kernel_rfl)
              · rw [if_neg c14] at h
                replace c14 := eqf c14
                obtain rfl := Option.some.inj h
                exact Tri.of (x := X7) mixed facts7 [.call ⟨true, []⟩ (.bool x5) [], .d false, .n x1.length, .d false, .d false, .call ⟨true, []⟩ (.bool x6) [], .d false, .d false, .d false, .d false, .call ⟨true, []⟩ (.bool (ref04_Right x1 x2 x3)) [], .d false, .d false, .d false, .call ⟨true, []⟩ (.agg [(.sl 1 (List.map e_u8 x7.1)), (.int .i64 x7.2.1), (.int .i64 x7.2.2)]) [], .call ⟨true, []⟩ (.agg [(.sl 1 (List.map e_u8 x8.1)), (.int .i64 x8.2.1), (.int .i64 x8.2.2)]) [], .call ⟨true, []⟩ (.bool (ref04_Same x7.1 x7.2.1 x7.2.2 x8.1 x8.2.1 x8.2.2)) [], .d false, .call ⟨true, []⟩ (.tup [(.ref 1 0 0 0 x9.2.length .virt), (.int .i64 x9.1)]) [(.arr 1 (List.map e_Lu8E x9.2) 0 0 false)], .n x4.length, .norm 2 ⟨[(2, []), (5, []), (7, []), (44, []), (45, []), (46, [])], [⟨.tmp 2, [], none⟩, ⟨.tmp 5, [], none⟩, ⟨.tmp 7, [], none⟩], false, [], []⟩, .out (.st .normal (E7_0_0 x1 x2 x3 x11.1 x11.2.1 x11.2.2.1 x11.2.2.2)), .call ⟨true, []⟩ (.tup [(.ref 1 0 0 0 x12.2.length .virt), (.int .i64 x12.1)]) [(.arr 1 (List.map e_Lu8E x12.2) 0 0 false)], .call ⟨true, []⟩ (.bool x13) [], .rows (List.map e_Lu8E x12.2), .rows (List.map e_Lu8E x11.2.2.2), .d false, .d false, .d false, .d false, .d false, .d false, .d false, .d false, .d false, .d false, .d false, .d false, .d false] [⟨(rfl : false = false)⟩, ⟨(rfl : false = false)⟩, ⟨(rfl : false = false)⟩, ⟨(rfl : false = false)⟩, ⟨(rfl : false = false)⟩, ⟨(rfl : false = false)⟩, ⟨(rfl : false = false)⟩, ⟨c14⟩, ⟨c14⟩, ⟨c14⟩, ⟨c14⟩, ⟨c14⟩, ⟨c14⟩, ⟨(ok_law04_same k x12.2 x11.2.2.2 _ e13)⟩, ⟨(part_all e_Lu8E (l := x11.2.2.2) (n := x11.2.2.2.length) rfl)⟩, ⟨(le_map e_Lu8E (Nat.le_refl x11.2.2.2.length) : 0 + x11.2.2.2.length ≤ (List.map e_Lu8E x11.2.2.2).length)⟩, ⟨(part_all e_Lu8E (l := x12.2) (n := x12.2.length) rfl)⟩, ⟨(le_map e_Lu8E (Nat.le_refl x12.2.length) : 0 + x12.2.length ≤ (List.map e_Lu8E x12.2).length)⟩, ⟨(ok_disk_Records_1 k x11.1 x11.2.1 x11.2.2.1 _ e12)⟩, ⟨(LT.block (ok_law04_DiskRows_l0 x1 x2 x3 x4 _ k 0 x7.1 x7.2.1 x7.2.2 x9.2 e10))⟩, ⟨(len_map e_Lu8E x4)⟩, ⟨(ok_disk_Records_1 k x7.1 x7.2.1 x7.2.2 _ e9)⟩, ⟨(nF c8)⟩, ⟨(ok_ref04_Same x7.1 x7.2.1 x7.2.2 x8.1 x8.2.1 x8.2.2)⟩, ⟨(ok_disk_Repair k x7.1 x7.2.1 x7.2.2 _ e7)⟩, ⟨(ok_disk_Repair k x1 x2 x3 _ e6)⟩, ⟨(nF c5)⟩, ⟨(nF c4)⟩, ⟨(nF c4)⟩, ⟨(ok_ref04_Right x1 x2 x3)⟩, ⟨(nF c4)⟩, ⟨(nF c4)⟩, ⟨c2⟩, ⟨c2⟩, ⟨(ok_law04_few k x4 _ e3)⟩, ⟨c2⟩, ⟨c2⟩, ⟨(len_map e_u8 x1)⟩, ⟨(nF c1)⟩, ⟨(ok_law04_alive k _ e0)⟩] (by kernel_rfl)
            · rw [if_neg c8] at h
              replace c8 := eqf c8
              obtain rfl := Option.some.inj h
              exact Tri.of (x := X7) mixed facts7 [.call ⟨true, []⟩ (.bool x5) [], .d false, .n x1.length, .d false, .d false, .call ⟨true, []⟩ (.bool x6) [], .d false, .d false, .d false, .d false, .call ⟨true, []⟩ (.bool (ref04_Right x1 x2 x3)) [], .d false, .d false, .d false, .call ⟨true, []⟩ (.agg [(.sl 1 (List.map e_u8 x7.1)), (.int .i64 x7.2.1), (.int .i64 x7.2.2)]) [], .call ⟨true, []⟩ (.agg [(.sl 1 (List.map e_u8 x8.1)), (.int .i64 x8.2.1), (.int .i64 x8.2.2)]) [], .call ⟨true, []⟩ (.bool (ref04_Same x7.1 x7.2.1 x7.2.2 x8.1 x8.2.1 x8.2.2)) [], .d true] [⟨(nT c8)⟩, ⟨(ok_ref04_Same x7.1 x7.2.1 x7.2.2 x8.1 x8.2.1 x8.2.2)⟩, ⟨(ok_disk_Repair k x7.1 x7.2.1 x7.2.2 _ e7)⟩, ⟨(ok_disk_Repair k x1 x2 x3 _ e6)⟩, ⟨(nF c5)⟩, ⟨(nF c4)⟩, ⟨(nF c4)⟩, ⟨(ok_ref04_Right x1 x2 x3)⟩, ⟨(nF c4)⟩, ⟨(nF c4)⟩, ⟨c2⟩, ⟨c2⟩, ⟨(ok_law04_few k x4 _ e3)⟩, ⟨c2⟩, ⟨c2⟩, ⟨(len_map e_u8 x1)⟩, ⟨(nF c1)⟩, ⟨(ok_law04_alive k _ e0)⟩] (by kernel_rfl)
          · rw [if_neg c5] at h
            replace c5 := eqf c5
            obtain rfl := Option.some.inj h
            exact Tri.of (x := X7) mixed facts7 [.call ⟨true, []⟩ (.bool x5) [], .d false, .n x1.length, .d false, .d false, .call ⟨true, []⟩ (.bool x6) [], .d false, .d false, .d false, .d false, .call ⟨true, []⟩ (.bool (ref04_Right x1 x2 x3)) [], .d false, .d false, .d true] [⟨(nT c5)⟩, ⟨(nF c4)⟩, ⟨(nF c4)⟩, ⟨(ok_ref04_Right x1 x2 x3)⟩, ⟨(nF c4)⟩, ⟨(nF c4)⟩, ⟨c2⟩, ⟨c2⟩, ⟨(ok_law04_few k x4 _ e3)⟩, ⟨c2⟩, ⟨c2⟩, ⟨(len_map e_u8 x1)⟩, ⟨(nF c1)⟩, ⟨(ok_law04_alive k _ e0)⟩] (by kernel_rfl)
        · rw [if_neg c4] at h
          replace c4 := eqf c4
          obtain rfl := Option.some.inj h
          exact Tri.of (x := X7) mixed facts7 [.call ⟨true, []⟩ (.bool x5) [], .d false, .n x1.length, .d false, .d false, .call ⟨true, []⟩ (.bool x6) [], .d false, .d false, .d true, .d true, .d true, .d true, .d true] [⟨(rfl : true = true)⟩, ⟨(nT c4)⟩, ⟨(nT c4)⟩, ⟨(nT c4)⟩, ⟨(nT c4)⟩, ⟨c2⟩, ⟨c2⟩, ⟨(ok_law04_few k x4 _ e3)⟩, ⟨c2⟩, ⟨c2⟩, ⟨(len_map e_u8 x1)⟩, ⟨(nF c1)⟩, ⟨(ok_law04_alive k _ e0)⟩] (by kernel_rfl)
    · rw [if_neg c1] at h
      replace c1 := eqf c1
      obtain rfl := Option.some.inj h
      exact Tri.of (x := X7) mixed facts7 [.call ⟨true, []⟩ (.bool x5) [], .d true] [⟨(nT c1)⟩, ⟨(ok_law04_alive k _ e0)⟩] (by kernel_rfl)
end Go.Ws
