/-
  law07_LockRow: what the machine makes of it. (Printed by my own program.)
  Conditions: none.
-/
import Derived.Test.YtmjllcefknaneaaZPre
import Derived.Test.YtmjllcefknaneaaZPure
import Derived.Test.YtmjllcefknaneaaZW10
import Derived.Test.YtmjllcefknaneaaZW11
import Derived.Test.YtmjllcefknaneaaZW13
import Derived.Test.YtmjllcefknaneaaZW14
import Derived.Test.YtmjllcefknaneaaZW16
import Derived.Test.YtmjllcefknaneaaZW17
import Derived.Test.YtmjllcefknaneaaZW18
import Derived.Test.YtmjllcefknaneaaZW19
set_option linter.unusedVariables false
set_option linter.unusedSimpArgs false
namespace Go.Ws
open Go.Proofs
set_option linter.unusedSimpArgs false
set_option linter.unusedVariables false
set_option maxRecDepth 1000000
set_option maxHeartbeats 4000000
noncomputable def X4 : Ctx := ⟨Try.f4, [], true⟩
noncomputable def L4_2 : Code := at_ Try.f4 [1, 1, 1, 1, 0, 1, 4, 5, 1, 0, 4, 1, 1, 1, 1, 4, 5, 1, 1, 0, 4, 1, 1, 4, 5]
def S4_2 (x1 : List (Int × Int × Int × Bool)) (v4010_1 : Int × Int × Bool) (v4021_1 : Int) (v4021_2 : Int) (v4021_3 : Int) (v4021_4 : List (Int × Int × Bool)) (v4021_5 : List (Int × Int × Bool)) (v4021_6 : List (Int × Int × Bool)) (v4021_7 : Int) (v4021_8 : List (Int × Int × Bool)) (v4021_9 : Int) : St := ⟨mkT 110 [(0, (.sl 4 (List.map e_u8_i64_u8_b x1))), (3, (.sl 3 (List.map e_u8_i64_b v4021_4))), (4, (.sl 3 (List.map e_u8_i64_b v4021_5))), (5, (.int .i64 v4021_3)), (12, (.hp 0 0)), (80, (.sl 3 (List.map e_u8_i64_b v4021_6))), (81, (.int .i64 v4021_7)), (82, (.int .i64 v4021_2)), (86, (.sl 3 (List.map e_u8_i64_b v4021_8))), (87, (.int .i64 v4021_9)), (88, (.int .i64 v4021_1))], [(.row [(.int .u8 v4010_1.1), (.int .i64 v4010_1.2.1), (.bool v4010_1.2.2)])]⟩
def E4_2_4 (x1 : List (Int × Int × Int × Bool)) (v4022_1 : List (Int × Int × Bool)) (v4022_2 : List (Int × Int × Bool)) (v4022_3 : Int) (v4022_4 : List (Int × Int × Bool)) (v4022_5 : Int) (v4022_6 : Int) : St := ⟨mkT 110 [(0, (.sl 4 (List.map e_u8_i64_u8_b x1))), (3, (.sl 3 (List.map e_u8_i64_b v4022_1))), (4, (.sl 3 (List.map e_u8_i64_b v4022_2))), (5, (.int .i64 v4022_3)), (80, (.sl 3 (List.map e_u8_i64_b v4022_4))), (81, (.int .i64 v4022_5)), (82, (.int .i64 v4022_6))], []⟩
def O4_2 (x1 : List (Int × Int × Int × Bool)) (v4010_1 : Int × Int × Bool) (y : (Sum ((List (Int × Int × Bool)) × (List (Int × Int × Bool)) × Int × (List (Int × Int × Bool)) × Int × Int) (Bool))) : GX := match y with
  | .inl y => .st (.exit 4) (E4_2_4 x1 y.1 y.2.1 y.2.2.1 y.2.2.2.1 y.2.2.2.2.1 y.2.2.2.2.2)
  | .inr y => .fin (.bool y) []
noncomputable def L4_1 : Code := at_ Try.f4 [1, 1, 1, 1, 0, 1, 4, 5, 1, 0, 4, 1, 1, 1, 1, 4, 5]
def S4_1 (x1 : List (Int × Int × Int × Bool)) (v4011_1 : Int) (v4011_2 : Int) (v4011_3 : List (Int × Int × Bool)) (v4011_4 : List (Int × Int × Bool)) (v4011_5 : List (Int × Int × Bool)) (v4011_6 : Int) : St := ⟨mkT 110 [(0, (.sl 4 (List.map e_u8_i64_u8_b x1))), (3, (.sl 3 (List.map e_u8_i64_b v4011_3))), (4, (.sl 3 (List.map e_u8_i64_b v4011_4))), (5, (.int .i64 v4011_2)), (80, (.sl 3 (List.map e_u8_i64_b v4011_5))), (81, (.int .i64 v4011_6)), (82, (.int .i64 v4011_1))], []⟩
def E4_1_2 (x1 : List (Int × Int × Int × Bool)) (v4012_1 : List (Int × Int × Bool)) (v4012_2 : List (Int × Int × Bool)) (v4012_3 : Int) : St := ⟨mkT 110 [(0, (.sl 4 (List.map e_u8_i64_u8_b x1))), (3, (.sl 3 (List.map e_u8_i64_b v4012_1))), (4, (.sl 3 (List.map e_u8_i64_b v4012_2))), (5, (.int .i64 v4012_3))], []⟩
def O4_1 (x1 : List (Int × Int × Int × Bool)) (y : (Sum ((List (Int × Int × Bool)) × (List (Int × Int × Bool)) × Int) (Bool))) : GX := match y with
  | .inl y => .st (.exit 2) (E4_1_2 x1 y.1 y.2.1 y.2.2)
  | .inr y => .fin (.bool y) []
noncomputable def L4_0 : Code := at_ Try.f4 [1, 1, 1, 1, 0, 1, 4, 5]
def S4_0 (x1 : List (Int × Int × Int × Bool)) (v4001_1 : List (Int × Int × Bool)) (v4001_2 : List (Int × Int × Bool)) (v4001_3 : Int) : St := ⟨mkT 110 [(0, (.sl 4 (List.map e_u8_i64_u8_b x1))), (3, (.sl 3 (List.map e_u8_i64_b v4001_1))), (4, (.sl 3 (List.map e_u8_i64_b v4001_2))), (5, (.int .i64 v4001_3))], []⟩
def E4_0_0 : St := ⟨mkT 110 [], []⟩
def O4_0 (x1 : List (Int × Int × Int × Bool)) (y : (Sum (Unit) (Bool))) : GX := match y with
  | .inl y => .st (.exit 0) (E4_0_0)
  | .inr y => .fin (.bool y) []
theorem ok_law07_LockRow_l2 (x1 : List (Int × Int × Int × Bool)) (v4010_1 : Int × Int × Bool) (y : (Sum ((List (Int × Int × Bool)) × (List (Int × Int × Bool)) × Int × (List (Int × Int × Bool)) × Int × Int) (Bool))) : ∀ (k : Nat) (v4021_1 : Int) (v4021_2 : Int) (v4021_3 : Int) (v4021_4 : List (Int × Int × Bool)) (v4021_5 : List (Int × Int × Bool)) (v4021_6 : List (Int × Int × Bool)) (v4021_7 : Int) (v4021_8 : List (Int × Int × Bool)) (v4021_9 : Int), law07_LockRow_l2 k x1 v4010_1 v4021_1 v4021_2 v4021_3 v4021_4 v4021_5 v4021_6 v4021_7 v4021_8 v4021_9 = some y → LT Try.prog X4 L4_2 (S4_2 x1 v4010_1 v4021_1 v4021_2 v4021_3 v4021_4 v4021_5 v4021_6 v4021_7 v4021_8 v4021_9) (O4_2 x1 v4010_1 y)
  | 0, v4021_1, v4021_2, v4021_3, v4021_4, v4021_5, v4021_6, v4021_7, v4021_8, v4021_9, h => by cases h
  | k + 1, v4021_1, v4021_2, v4021_3, v4021_4, v4021_5, v4021_6, v4021_7, v4021_8, v4021_9, h => by
    rw [law07_LockRow_l2] at h
    by_cases cL0 : ltI v4021_1 v4021_9 = true
    · rw [if_pos cL0] at h
      by_cases cL1 : inI v4021_1 v4021_8.length = true
      · rw [if_pos cL1] at h
        obtain ⟨v4020_1, eL2, h⟩ := Option.bind_eq_some_iff.1 h
        by_cases cL3 : v4010_1.2.2 = true
        · rw [if_pos cL3] at h
          by_cases cL4 : eqI v4010_1.1 v4020_1.1 = true
          · rw [if_pos cL4] at h
            by_cases cL5 : eqI v4010_1.2.1 v4020_1.2.1 = true
            · rw [if_pos cL5] at h
              exact LT.next mixed (hs := ⟨[(0, []), (3, []), (4, []), (5, []), (12, []), (80, []), (81, []), (82, []), (86, []), (87, []), (88, [])], [⟨.tmp 12, [], none⟩], false, [], []⟩) (es := none) [.d true, .n v4021_8.length, .row [(.int .u8 v4020_1.1), (.int .i64 v4020_1.2.1), (.bool v4020_1.2.2)], .d true, .d true, .d true, .d true, .d true, .d true, .d true, .d true, .d true, .d true, .d true, .d true, .d false] [⟨(nF cL5)⟩, ⟨cL4⟩, ⟨cL4⟩, ⟨cL4⟩, ⟨cL4⟩, ⟨cL4⟩, ⟨cL4⟩, ⟨cL3⟩, ⟨cL3⟩, ⟨cL3⟩, ⟨cL3⟩, ⟨cL3⟩, ⟨cL3⟩, ⟨(cells_map (e := e_u8_i64_b) eL2 3 0 3 (by decide))⟩, ⟨cL1⟩, ⟨(len_map e_u8_i64_b v4021_8)⟩, ⟨cL0⟩] (by kernel_rfl) (ok_law07_LockRow_l2 x1 v4010_1 y k (iadd .i64 v4021_1 1) v4021_2 v4021_3 v4021_4 v4021_5 v4021_6 v4021_7 v4021_8 v4021_9 h)
            · rw [if_neg cL5] at h
              replace cL5 := eqf cL5
              obtain rfl := Option.some.inj h
              show LT _ _ _ _ (.fin (.bool false) [])
              exact LT.done mixed (hs := ⟨[], [], false, [], []⟩) (es := none) [.d true, .n v4021_8.length, .row [(.int .u8 v4020_1.1), (.int .i64 v4020_1.2.1), (.bool v4020_1.2.2)], .d true, .d true, .d true, .d true, .d true, .d true, .d true, .d true, .d true, .d true, .d true, .d true, .d true] [⟨(nT cL5)⟩, ⟨cL4⟩, ⟨cL4⟩, ⟨cL4⟩, ⟨cL4⟩, ⟨cL4⟩, ⟨cL4⟩, ⟨cL3⟩, ⟨cL3⟩, ⟨cL3⟩, ⟨cL3⟩, ⟨cL3⟩, ⟨cL3⟩, ⟨(cells_map (e := e_u8_i64_b) eL2 3 0 3 (by decide))⟩, ⟨cL1⟩, ⟨(len_map e_u8_i64_b v4021_8)⟩, ⟨cL0⟩] (by kernel_rfl) (fun s h => by cases h)
          · rw [if_neg cL4] at h
            replace cL4 := eqf cL4
            exact LT.next mixed (hs := ⟨[(0, []), (3, []), (4, []), (5, []), (12, []), (80, []), (81, []), (82, []), (86, []), (87, []), (88, [])], [⟨.tmp 12, [], none⟩], false, [], []⟩) (es := none) [.d true, .n v4021_8.length, .row [(.int .u8 v4020_1.1), (.int .i64 v4020_1.2.1), (.bool v4020_1.2.2)], .d true, .d true, .d true, .d true, .d true, .d true, .d false, .d false, .d false, .d false, .d false, .d false, .d false] [⟨(rfl : false = false)⟩, ⟨cL4⟩, ⟨cL4⟩, ⟨cL4⟩, ⟨cL4⟩, ⟨cL4⟩, ⟨cL4⟩, ⟨cL3⟩, ⟨cL3⟩, ⟨cL3⟩, ⟨cL3⟩, ⟨cL3⟩, ⟨cL3⟩, ⟨(cells_map (e := e_u8_i64_b) eL2 3 0 3 (by decide))⟩, ⟨cL1⟩, ⟨(len_map e_u8_i64_b v4021_8)⟩, ⟨cL0⟩] (by kernel_rfl) (ok_law07_LockRow_l2 x1 v4010_1 y k (iadd .i64 v4021_1 1) v4021_2 v4021_3 v4021_4 v4021_5 v4021_6 v4021_7 v4021_8 v4021_9 h)
        · rw [if_neg cL3] at h
          replace cL3 := eqf cL3
          exact LT.next mixed (hs := ⟨[(0, []), (3, []), (4, []), (5, []), (12, []), (80, []), (81, []), (82, []), (86, []), (87, []), (88, [])], [⟨.tmp 12, [], none⟩], false, [], []⟩) (es := none) [.d true, .n v4021_8.length, .row [(.int .u8 v4020_1.1), (.int .i64 v4020_1.2.1), (.bool v4020_1.2.2)], .d false, .d false, .d false, .d false, .d false, .d false, .d false, .d false, .d false, .d false, .d false, .d false, .d false] [⟨(rfl : false = false)⟩, ⟨(rfl : false = false)⟩, ⟨(rfl : false = false)⟩, ⟨(rfl : false = false)⟩, ⟨(rfl : false = false)⟩, ⟨(rfl : false = false)⟩, ⟨(rfl : false = false)⟩, ⟨cL3⟩, ⟨cL3⟩, ⟨cL3⟩, ⟨cL3⟩, ⟨cL3⟩, ⟨cL3⟩, ⟨(cells_map (e := e_u8_i64_b) eL2 3 0 3 (by decide))⟩, ⟨cL1⟩, ⟨(len_map e_u8_i64_b v4021_8)⟩, ⟨cL0⟩] (by kernel_rfl) (ok_law07_LockRow_l2 x1 v4010_1 y k (iadd .i64 v4021_1 1) v4021_2 v4021_3 v4021_4 v4021_5 v4021_6 v4021_7 v4021_8 v4021_9 h)
      · rw [if_neg cL1] at h
        replace cL1 := eqf cL1
        cases h
    · rw [if_neg cL0] at h
      replace cL0 := eqf cL0
      obtain rfl := Option.some.inj h
      show LT _ _ _ _ (.st (.exit 4) (E4_2_4 x1 v4021_4 v4021_5 v4021_3 v4021_6 v4021_7 v4021_2))
      exact LT.done mixed (hs := ⟨[], [], false, [], []⟩) (es := (some ⟨[(0, []), (3, []), (4, []), (5, []), (80, []), (81, []), (82, [])], [], false, [], []⟩)) [.d false] [⟨cL0⟩] (by kernel_rfl) (fun s h => by cases h)
theorem ok_law07_LockRow_l1 (x1 : List (Int × Int × Int × Bool)) (y : (Sum ((List (Int × Int × Bool)) × (List (Int × Int × Bool)) × Int) (Bool))) : ∀ (k : Nat) (v4011_1 : Int) (v4011_2 : Int) (v4011_3 : List (Int × Int × Bool)) (v4011_4 : List (Int × Int × Bool)) (v4011_5 : List (Int × Int × Bool)) (v4011_6 : Int), law07_LockRow_l1 k x1 v4011_1 v4011_2 v4011_3 v4011_4 v4011_5 v4011_6 = some y → LT Try.prog X4 L4_1 (S4_1 x1 v4011_1 v4011_2 v4011_3 v4011_4 v4011_5 v4011_6) (O4_1 x1 y)
  | 0, v4011_1, v4011_2, v4011_3, v4011_4, v4011_5, v4011_6, h => by cases h
  | k + 1, v4011_1, v4011_2, v4011_3, v4011_4, v4011_5, v4011_6, h => by
    rw [law07_LockRow_l1] at h
    by_cases cL0 : ltI v4011_1 v4011_6 = true
    · rw [if_pos cL0] at h
      by_cases cL1 : inI v4011_1 v4011_5.length = true
      · rw [if_pos cL1] at h
        obtain ⟨v4010_1, eL2, h⟩ := Option.bind_eq_some_iff.1 h
        obtain ⟨v4010_2, eL3, h⟩ := Option.bind_eq_some_iff.1 h
        cases v4010_2 with
        | inl v4010_3 =>
          simp only [Sum.elim_inl] at h
          exact LT.next mixed (hs := ⟨[(0, []), (3, []), (4, []), (5, []), (80, []), (81, []), (82, [])], [], false, [], []⟩) (es := none) [.d true, .n v4011_5.length, .row [(.int .u8 v4010_1.1), (.int .i64 v4010_1.2.1), (.bool v4010_1.2.2)], .n v4011_3.length, .norm 14 ⟨[(0, []), (3, []), (4, []), (5, []), (12, []), (80, []), (81, []), (82, []), (86, []), (87, []), (88, [])], [⟨.tmp 12, [], none⟩], false, [], []⟩, .out (.st .normal (E4_2_4 x1 v4010_3.1 v4010_3.2.1 v4010_3.2.2.1 v4010_3.2.2.2.1 v4010_3.2.2.2.2.1 v4010_3.2.2.2.2.2))] [⟨(LT.block (ok_law07_LockRow_l2 x1 v4010_1 _ k 0 v4011_1 v4011_2 v4011_3 v4011_4 v4011_5 v4011_6 v4011_3 (nI v4011_3.length) eL3))⟩, ⟨(len_map e_u8_i64_b v4011_3)⟩, ⟨(cells_map (e := e_u8_i64_b) eL2 3 0 3 (by decide))⟩, ⟨cL1⟩, ⟨(len_map e_u8_i64_b v4011_5)⟩, ⟨cL0⟩] (by kernel_rfl) (ok_law07_LockRow_l1 x1 y k (iadd .i64 v4010_3.2.2.2.2.2 1) v4010_3.2.2.1 v4010_3.1 v4010_3.2.1 v4010_3.2.2.2.1 v4010_3.2.2.2.2.1 h)
        | inr v4010_3 =>
          simp only [Sum.elim_inr] at h
          obtain rfl := Option.some.inj h
          show LT _ _ _ _ (.fin (.bool v4010_3) [])
          exact LT.done mixed (hs := ⟨[], [], false, [], []⟩) (es := none) [.d true, .n v4011_5.length, .row [(.int .u8 v4010_1.1), (.int .i64 v4010_1.2.1), (.bool v4010_1.2.2)], .n v4011_3.length, .norm 14 ⟨[(0, []), (3, []), (4, []), (5, []), (12, []), (80, []), (81, []), (82, []), (86, []), (87, []), (88, [])], [⟨.tmp 12, [], none⟩], false, [], []⟩, .out (.fin (.bool v4010_3) [])] [⟨(LT.blockFin (id := 4) (ok_law07_LockRow_l2 x1 v4010_1 _ k 0 v4011_1 v4011_2 v4011_3 v4011_4 v4011_5 v4011_6 v4011_3 (nI v4011_3.length) eL3))⟩, ⟨(len_map e_u8_i64_b v4011_3)⟩, ⟨(cells_map (e := e_u8_i64_b) eL2 3 0 3 (by decide))⟩, ⟨cL1⟩, ⟨(len_map e_u8_i64_b v4011_5)⟩, ⟨cL0⟩] (by kernel_rfl) (fun s h => by cases h)
      · rw [if_neg cL1] at h
        replace cL1 := eqf cL1
        cases h
    · rw [if_neg cL0] at h
      replace cL0 := eqf cL0
      obtain rfl := Option.some.inj h
      show LT _ _ _ _ (.st (.exit 2) (E4_1_2 x1 v4011_3 v4011_4 v4011_2))
      exact LT.done mixed (hs := ⟨[], [], false, [], []⟩) (es := (some ⟨[(0, []), (3, []), (4, []), (5, [])], [], false, [], []⟩)) [.d false] [⟨cL0⟩] (by kernel_rfl) (fun s h => by cases h)
theorem ok_law07_LockRow_l0 (x1 : List (Int × Int × Int × Bool)) (y : (Sum (Unit) (Bool))) : ∀ (k : Nat) (v4001_1 : List (Int × Int × Bool)) (v4001_2 : List (Int × Int × Bool)) (v4001_3 : Int), law07_LockRow_l0 k x1 v4001_1 v4001_2 v4001_3 = some y → LT Try.prog X4 L4_0 (S4_0 x1 v4001_1 v4001_2 v4001_3) (O4_0 x1 y)
  | 0, v4001_1, v4001_2, v4001_3, h => by cases h
  | k + 1, v4001_1, v4001_2, v4001_3, h => by
    rw [law07_LockRow_l0] at h
    by_cases cL0 : ltI v4001_3 (nI x1.length) = true
    · rw [if_pos cL0] at h
      by_cases cL1 : ltI v4001_3 100 = true
      · rw [if_pos cL1] at h
        by_cases cL2 : inI v4001_3 x1.length = true
        · rw [if_pos cL2] at h
          obtain ⟨v4000_1, eL3, h⟩ := Option.bind_eq_some_iff.1 h
          by_cases cL4 : eqI (irem .u8 v4000_1.1 5) 4 = true
          · rw [if_pos cL4] at h
            obtain ⟨v4000_2, eL5, h⟩ := Option.bind_eq_some_iff.1 h
            obtain ⟨v4000_3, eL6, h⟩ := Option.bind_eq_some_iff.1 h
            obtain ⟨v4000_4, eL7, h⟩ := Option.bind_eq_some_iff.1 h
            obtain ⟨v4000_5, eL8, h⟩ := Option.bind_eq_some_iff.1 h
            by_cases cL9 : v4000_5 = true
            · rw [if_pos cL9] at h
              obtain ⟨v4000_6, eL10, h⟩ := Option.bind_eq_some_iff.1 h
              by_cases cL11 : v4000_6 = true
              · rw [if_pos cL11] at h
                obtain ⟨v4000_7, eL12, h⟩ := Option.bind_eq_some_iff.1 h
                cases v4000_7 with
                | inl v4000_8 =>
                  simp only [Sum.elim_inl] at h
                  exact LT.next mixed (hs := ⟨[(0, []), (3, []), (4, []), (5, [])], [], false, [], []⟩) (es := none) [.n x1.length, .d true, .d true, .d true, .d true, .n x1.length, .row [(.int .u8 v4000_1.1), (.int .i64 v4000_1.2.1), (.int .u8 v4000_1.2.2.1), (.bool v4000_1.2.2.2)], .d false, .d true, .call ⟨true, []⟩ (.sl 3 (List.map e_u8_i64_b v4000_2)) [], .call ⟨true, []⟩ (.sl 3 (List.map e_u8_i64_b v4000_3)) [], .call ⟨true, []⟩ (.sl 3 (List.map e_u8_i64_b v4000_4)) [], .call ⟨true, []⟩ (.bool v4000_5) [], .d false, .d false, .call ⟨true, []⟩ (.bool v4000_6) [], .d false, .d false, .d false, .n v4000_2.length, .norm 8 ⟨[(0, []), (3, []), (4, []), (5, []), (80, []), (81, []), (82, [])], [], false, [], []⟩, .out (.st .normal (E4_1_2 x1 v4000_8.1 v4000_8.2.1 v4000_8.2.2))] [⟨(LT.block (ok_law07_LockRow_l1 x1 _ k 0 v4001_3 v4000_2 v4000_3 v4000_2 (nI v4000_2.length) eL12))⟩, ⟨(len_map e_u8_i64_b v4000_2)⟩, ⟨(nF cL11)⟩, ⟨(nF cL9)⟩, ⟨(nF cL9)⟩, ⟨(ok_lock_Right k v4000_2 _ eL10)⟩, ⟨(nF cL9)⟩, ⟨(nF cL9)⟩, ⟨(ok_ref07_Same k v4000_4 v4000_3 _ eL8)⟩, ⟨(ok_law07_ours k v4000_2 _ eL7)⟩, ⟨(ok_ref07_Free k v4001_2 v4000_1.2.1 _ eL6)⟩, ⟨(ok_lock_Free k v4001_1 v4000_1.2.1 _ eL5)⟩, ⟨cL4⟩, ⟨(rfl : eqI 5 0 = false)⟩, ⟨(cells_map (e := e_u8_i64_u8_b) eL3 4 0 4 (by decide))⟩, ⟨cL2⟩, ⟨(len_map e_u8_i64_u8_b x1)⟩, ⟨cL1⟩, ⟨cL0⟩, ⟨cL0⟩, ⟨cL0⟩, ⟨(len_map e_u8_i64_u8_b x1)⟩] (by kernel_rfl) (ok_law07_LockRow_l0 x1 y k v4000_8.1 v4000_8.2.1 (iadd .i64 v4000_8.2.2 1) h)
                | inr v4000_8 =>
                  simp only [Sum.elim_inr] at h
                  obtain rfl := Option.some.inj h
                  show LT _ _ _ _ (.fin (.bool v4000_8) [])
                  exact LT.done mixed (hs := ⟨[], [], false, [], []⟩) (es := none) [.n x1.length, .d true, .d true, .d true, .d true, .n x1.length, .row [(.int .u8 v4000_1.1), (.int .i64 v4000_1.2.1), (.int .u8 v4000_1.2.2.1), (.bool v4000_1.2.2.2)], .d false, .d true, .call ⟨true, []⟩ (.sl 3 (List.map e_u8_i64_b v4000_2)) [], .call ⟨true, []⟩ (.sl 3 (List.map e_u8_i64_b v4000_3)) [], .call ⟨true, []⟩ (.sl 3 (List.map e_u8_i64_b v4000_4)) [], .call ⟨true, []⟩ (.bool v4000_5) [], .d false, .d false, .call ⟨true, []⟩ (.bool v4000_6) [], .d false, .d false, .d false, .n v4000_2.length, .norm 8 ⟨[(0, []), (3, []), (4, []), (5, []), (80, []), (81, []), (82, [])], [], false, [], []⟩, .out (.fin (.bool v4000_8) [])] [⟨(LT.blockFin (id := 2) (ok_law07_LockRow_l1 x1 _ k 0 v4001_3 v4000_2 v4000_3 v4000_2 (nI v4000_2.length) eL12))⟩, ⟨(len_map e_u8_i64_b v4000_2)⟩, ⟨(nF cL11)⟩, ⟨(nF cL9)⟩, ⟨(nF cL9)⟩, ⟨(ok_lock_Right k v4000_2 _ eL10)⟩, ⟨(nF cL9)⟩, ⟨(nF cL9)⟩, ⟨(ok_ref07_Same k v4000_4 v4000_3 _ eL8)⟩, ⟨(ok_law07_ours k v4000_2 _ eL7)⟩, ⟨(ok_ref07_Free k v4001_2 v4000_1.2.1 _ eL6)⟩, ⟨(ok_lock_Free k v4001_1 v4000_1.2.1 _ eL5)⟩, ⟨cL4⟩, ⟨(rfl : eqI 5 0 = false)⟩, ⟨(cells_map (e := e_u8_i64_u8_b) eL3 4 0 4 (by decide))⟩, ⟨cL2⟩, ⟨(len_map e_u8_i64_u8_b x1)⟩, ⟨cL1⟩, ⟨cL0⟩, ⟨cL0⟩, ⟨cL0⟩, ⟨(len_map e_u8_i64_u8_b x1)⟩] (by kernel_rfl) (fun s h => by cases h)
              · rw [if_neg cL11] at h
                replace cL11 := eqf cL11
                obtain rfl := Option.some.inj h
                show LT _ _ _ _ (.fin (.bool false) [])
                exact LT.done mixed (hs := ⟨[], [], false, [], []⟩) (es := none) [.n x1.length, .d true, .d true, .d true, .d true, .n x1.length, .row [(.int .u8 v4000_1.1), (.int .i64 v4000_1.2.1), (.int .u8 v4000_1.2.2.1), (.bool v4000_1.2.2.2)], .d false, .d true, .call ⟨true, []⟩ (.sl 3 (List.map e_u8_i64_b v4000_2)) [], .call ⟨true, []⟩ (.sl 3 (List.map e_u8_i64_b v4000_3)) [], .call ⟨true, []⟩ (.sl 3 (List.map e_u8_i64_b v4000_4)) [], .call ⟨true, []⟩ (.bool v4000_5) [], .d false, .d false, .call ⟨true, []⟩ (.bool v4000_6) [], .d false, .d false, .d true] [⟨(nT cL11)⟩, ⟨(nF cL9)⟩, ⟨(nF cL9)⟩, ⟨(ok_lock_Right k v4000_2 _ eL10)⟩, ⟨(nF cL9)⟩, ⟨(nF cL9)⟩, ⟨(ok_ref07_Same k v4000_4 v4000_3 _ eL8)⟩, ⟨(ok_law07_ours k v4000_2 _ eL7)⟩, ⟨(ok_ref07_Free k v4001_2 v4000_1.2.1 _ eL6)⟩, ⟨(ok_lock_Free k v4001_1 v4000_1.2.1 _ eL5)⟩, ⟨cL4⟩, ⟨(rfl : eqI 5 0 = false)⟩, ⟨(cells_map (e := e_u8_i64_u8_b) eL3 4 0 4 (by decide))⟩, ⟨cL2⟩, ⟨(len_map e_u8_i64_u8_b x1)⟩, ⟨cL1⟩, ⟨cL0⟩, ⟨cL0⟩, ⟨cL0⟩, ⟨(len_map e_u8_i64_u8_b x1)⟩] (by kernel_rfl) (fun s h => by cases h)
            · rw [if_neg cL9] at h
              replace cL9 := eqf cL9
              obtain rfl := Option.some.inj h
              show LT _ _ _ _ (.fin (.bool false) [])
              exact LT.done mixed (hs := ⟨[], [], false, [], []⟩) (es := none) [.n x1.length, .d true, .d true, .d true, .d true, .n x1.length, .row [(.int .u8 v4000_1.1), (.int .i64 v4000_1.2.1), (.int .u8 v4000_1.2.2.1), (.bool v4000_1.2.2.2)], .d false, .d true, .call ⟨true, []⟩ (.sl 3 (List.map e_u8_i64_b v4000_2)) [], .call ⟨true, []⟩ (.sl 3 (List.map e_u8_i64_b v4000_3)) [], .call ⟨true, []⟩ (.sl 3 (List.map e_u8_i64_b v4000_4)) [], .call ⟨true, []⟩ (.bool v4000_5) [], .d true, .d true, .d true, .d true, .d true] [⟨(rfl : true = true)⟩, ⟨(nT cL9)⟩, ⟨(nT cL9)⟩, ⟨(nT cL9)⟩, ⟨(nT cL9)⟩, ⟨(ok_ref07_Same k v4000_4 v4000_3 _ eL8)⟩, ⟨(ok_law07_ours k v4000_2 _ eL7)⟩, ⟨(ok_ref07_Free k v4001_2 v4000_1.2.1 _ eL6)⟩, ⟨(ok_lock_Free k v4001_1 v4000_1.2.1 _ eL5)⟩, ⟨cL4⟩, ⟨(rfl : eqI 5 0 = false)⟩, ⟨(cells_map (e := e_u8_i64_u8_b) eL3 4 0 4 (by decide))⟩, ⟨cL2⟩, ⟨(len_map e_u8_i64_u8_b x1)⟩, ⟨cL1⟩, ⟨cL0⟩, ⟨cL0⟩, ⟨cL0⟩, ⟨(len_map e_u8_i64_u8_b x1)⟩] (by kernel_rfl) (fun s h => by cases h)
          · rw [if_neg cL4] at h
            replace cL4 := eqf cL4
            obtain ⟨v4000_2, eL5, h⟩ := Option.bind_eq_some_iff.1 h
            obtain ⟨v4000_3, eL6, h⟩ := Option.bind_eq_some_iff.1 h
            by_cases cL7 : eqI v4000_2.2 v4000_3.2 = true
            · rw [if_pos cL7] at h
              obtain ⟨v4000_4, eL8, h⟩ := Option.bind_eq_some_iff.1 h
              obtain ⟨v4000_5, eL9, h⟩ := Option.bind_eq_some_iff.1 h
              by_cases cL10 : v4000_5 = true
              · rw [if_pos cL10] at h
                obtain ⟨v4000_6, eL11, h⟩ := Option.bind_eq_some_iff.1 h
                by_cases cL12 : v4000_6 = true
                · rw [if_pos cL12] at h
                  obtain ⟨v4000_7, eL13, h⟩ := Option.bind_eq_some_iff.1 h
                  cases v4000_7 with
                  | inl v4000_8 =>
                    simp only [Sum.elim_inl] at h
                    exact LT.next mixed (hs := ⟨[(0, []), (3, []), (4, []), (5, [])], [], false, [], []⟩) (es := none) [.n x1.length, .d true, .d true, .d true, .d true, .n x1.length, .row [(.int .u8 v4000_1.1), (.int .i64 v4000_1.2.1), (.int .u8 v4000_1.2.2.1), (.bool v4000_1.2.2.2)], .d false, .d false, .call ⟨true, []⟩ (.tup [(.sl 3 (List.map e_u8_i64_b v4000_2.1)), (.int .i64 v4000_2.2)]) [], .call ⟨true, []⟩ (.tup [(.sl 3 (List.map e_u8_i64_b v4000_3.1)), (.int .i64 v4000_3.2)]) [], .d false, .call ⟨true, []⟩ (.sl 3 (List.map e_u8_i64_b v4000_4)) [], .call ⟨true, []⟩ (.bool v4000_5) [], .d false, .d false, .call ⟨true, []⟩ (.bool v4000_6) [], .d false, .d false, .d false, .n v4000_2.1.length, .norm 8 ⟨[(0, []), (3, []), (4, []), (5, []), (80, []), (81, []), (82, [])], [], false, [], []⟩, .out (.st .normal (E4_1_2 x1 v4000_8.1 v4000_8.2.1 v4000_8.2.2))] [⟨(LT.block (ok_law07_LockRow_l1 x1 _ k 0 v4001_3 v4000_2.1 v4000_3.1 v4000_2.1 (nI v4000_2.1.length) eL13))⟩, ⟨(len_map e_u8_i64_b v4000_2.1)⟩, ⟨(nF cL12)⟩, ⟨(nF cL10)⟩, ⟨(nF cL10)⟩, ⟨(ok_lock_Right k v4000_2.1 _ eL11)⟩, ⟨(nF cL10)⟩, ⟨(nF cL10)⟩, ⟨(ok_ref07_Same k v4000_4 v4000_3.1 _ eL9)⟩, ⟨(ok_law07_ours k v4000_2.1 _ eL8)⟩, ⟨(nF cL7)⟩, ⟨(ok_ref07_Take k v4001_2 v4000_1.2.1 v4000_1.2.2.1 v4000_1.2.2.2 _ eL6)⟩, ⟨(ok_lock_Take k v4001_1 v4000_1.2.1 v4000_1.2.2.1 v4000_1.2.2.2 _ eL5)⟩, ⟨cL4⟩, ⟨(rfl : eqI 5 0 = false)⟩, ⟨(cells_map (e := e_u8_i64_u8_b) eL3 4 0 4 (by decide))⟩, ⟨cL2⟩, ⟨(len_map e_u8_i64_u8_b x1)⟩, ⟨cL1⟩, ⟨cL0⟩, ⟨cL0⟩, ⟨cL0⟩, ⟨(len_map e_u8_i64_u8_b x1)⟩] (by kernel_rfl) (ok_law07_LockRow_l0 x1 y k v4000_8.1 v4000_8.2.1 (iadd .i64 v4000_8.2.2 1) h)
                  | inr v4000_8 =>
                    simp only [Sum.elim_inr] at h
                    obtain rfl := Option.some.inj h
                    show LT _ _ _ _ (.fin (.bool v4000_8) [])
                    exact LT.done mixed (hs := ⟨[], [], false, [], []⟩) (es := none) [.n x1.length, .d true, .d true, .d true, .d true, .n x1.length, .row [(.int .u8 v4000_1.1), (.int .i64 v4000_1.2.1), (.int .u8 v4000_1.2.2.1), (.bool v4000_1.2.2.2)], .d false, .d false, .call ⟨true, []⟩ (.tup [(.sl 3 (List.map e_u8_i64_b v4000_2.1)), (.int .i64 v4000_2.2)]) [], .call ⟨true, []⟩ (.tup [(.sl 3 (List.map e_u8_i64_b v4000_3.1)), (.int .i64 v4000_3.2)]) [], .d false, .call ⟨true, []⟩ (.sl 3 (List.map e_u8_i64_b v4000_4)) [], .call ⟨true, []⟩ (.bool v4000_5) [], .d false, .d false, .call ⟨true, []⟩ (.bool v4000_6) [], .d false, .d false, .d false, .n v4000_2.1.length, .norm 8 ⟨[(0, []), (3, []), (4, []), (5, []), (80, []), (81, []), (82, [])], [], false, [], []⟩, .out (.fin (.bool v4000_8) [])] [⟨(LT.blockFin (id := 2) (ok_law07_LockRow_l1 x1 _ k 0 v4001_3 v4000_2.1 v4000_3.1 v4000_2.1 (nI v4000_2.1.length) eL13))⟩, ⟨(len_map e_u8_i64_b v4000_2.1)⟩, ⟨(nF cL12)⟩, ⟨(nF cL10)⟩, ⟨(nF cL10)⟩, ⟨(ok_lock_Right k v4000_2.1 _ eL11)⟩, ⟨(nF cL10)⟩, ⟨(nF cL10)⟩, ⟨(ok_ref07_Same k v4000_4 v4000_3.1 _ eL9)⟩, ⟨(ok_law07_ours k v4000_2.1 _ eL8)⟩, ⟨(nF cL7)⟩, ⟨(ok_ref07_Take k v4001_2 v4000_1.2.1 v4000_1.2.2.1 v4000_1.2.2.2 _ eL6)⟩, ⟨(ok_lock_Take k v4001_1 v4000_1.2.1 v4000_1.2.2.1 v4000_1.2.2.2 _ eL5)⟩, ⟨cL4⟩, ⟨(rfl : eqI 5 0 = false)⟩, ⟨(cells_map (e := e_u8_i64_u8_b) eL3 4 0 4 (by decide))⟩, ⟨cL2⟩, ⟨(len_map e_u8_i64_u8_b x1)⟩, ⟨cL1⟩, ⟨cL0⟩, ⟨cL0⟩, ⟨cL0⟩, ⟨(len_map e_u8_i64_u8_b x1)⟩] (by kernel_rfl) (fun s h => by cases h)
                · rw [if_neg cL12] at h
                  replace cL12 := eqf cL12
                  obtain rfl := Option.some.inj h
                  show LT _ _ _ _ (.fin (.bool false) [])
                  exact LT.done mixed (hs := ⟨[], [], false, [], []⟩) (es := none) [.n x1.length, .d true, .d true, .d true, .d true, .n x1.length, .row [(.int .u8 v4000_1.1), (.int .i64 v4000_1.2.1), (.int .u8 v4000_1.2.2.1), (.bool v4000_1.2.2.2)], .d false, .d false, .call ⟨true, []⟩ (.tup [(.sl 3 (List.map e_u8_i64_b v4000_2.1)), (.int .i64 v4000_2.2)]) [], .call ⟨true, []⟩ (.tup [(.sl 3 (List.map e_u8_i64_b v4000_3.1)), (.int .i64 v4000_3.2)]) [], .d false, .call ⟨true, []⟩ (.sl 3 (List.map e_u8_i64_b v4000_4)) [], .call ⟨true, []⟩ (.bool v4000_5) [], .d false, .d false, .call ⟨true, []⟩ (.bool v4000_6) [], .d false, .d false, .d true] [⟨(nT cL12)⟩, ⟨(nF cL10)⟩, ⟨(nF cL10)⟩, ⟨(ok_lock_Right k v4000_2.1 _ eL11)⟩, ⟨(nF cL10)⟩, ⟨(nF cL10)⟩, ⟨(ok_ref07_Same k v4000_4 v4000_3.1 _ eL9)⟩, ⟨(ok_law07_ours k v4000_2.1 _ eL8)⟩, ⟨(nF cL7)⟩, ⟨(ok_ref07_Take k v4001_2 v4000_1.2.1 v4000_1.2.2.1 v4000_1.2.2.2 _ eL6)⟩, ⟨(ok_lock_Take k v4001_1 v4000_1.2.1 v4000_1.2.2.1 v4000_1.2.2.2 _ eL5)⟩, ⟨cL4⟩, ⟨(rfl : eqI 5 0 = false)⟩, ⟨(cells_map (e := e_u8_i64_u8_b) eL3 4 0 4 (by decide))⟩, ⟨cL2⟩, ⟨(len_map e_u8_i64_u8_b x1)⟩, ⟨cL1⟩, ⟨cL0⟩, ⟨cL0⟩, ⟨cL0⟩, ⟨(len_map e_u8_i64_u8_b x1)⟩] (by kernel_rfl) (fun s h => by cases h)
              · rw [if_neg cL10] at h
                replace cL10 := eqf cL10
                obtain rfl := Option.some.inj h
                show LT _ _ _ _ (.fin (.bool false) [])
                exact LT.done mixed (hs := ⟨[], [], false, [], []⟩) (es := none) [.n x1.length, .d true, .d true, .d true, .d true, .n x1.length, .row [(.int .u8 v4000_1.1), (.int .i64 v4000_1.2.1), (.int .u8 v4000_1.2.2.1), (.bool v4000_1.2.2.2)], .d false, .d false, .call ⟨true, []⟩ (.tup [(.sl 3 (List.map e_u8_i64_b v4000_2.1)), (.int .i64 v4000_2.2)]) [], .call ⟨true, []⟩ (.tup [(.sl 3 (List.map e_u8_i64_b v4000_3.1)), (.int .i64 v4000_3.2)]) [], .d false, .call ⟨true, []⟩ (.sl 3 (List.map e_u8_i64_b v4000_4)) [], .call ⟨true, []⟩ (.bool v4000_5) [], .d true, .d true, .d true, .d true, .d true] [⟨(rfl : true = true)⟩, ⟨(nT cL10)⟩, ⟨(nT cL10)⟩, ⟨(nT cL10)⟩, ⟨(nT cL10)⟩, ⟨(ok_ref07_Same k v4000_4 v4000_3.1 _ eL9)⟩, ⟨(ok_law07_ours k v4000_2.1 _ eL8)⟩, ⟨(nF cL7)⟩, ⟨(ok_ref07_Take k v4001_2 v4000_1.2.1 v4000_1.2.2.1 v4000_1.2.2.2 _ eL6)⟩, ⟨(ok_lock_Take k v4001_1 v4000_1.2.1 v4000_1.2.2.1 v4000_1.2.2.2 _ eL5)⟩, ⟨cL4⟩, ⟨(rfl : eqI 5 0 = false)⟩, ⟨(cells_map (e := e_u8_i64_u8_b) eL3 4 0 4 (by decide))⟩, ⟨cL2⟩, ⟨(len_map e_u8_i64_u8_b x1)⟩, ⟨cL1⟩, ⟨cL0⟩, ⟨cL0⟩, ⟨cL0⟩, ⟨(len_map e_u8_i64_u8_b x1)⟩] (by kernel_rfl) (fun s h => by cases h)
            · rw [if_neg cL7] at h
              replace cL7 := eqf cL7
              obtain rfl := Option.some.inj h
              show LT _ _ _ _ (.fin (.bool false) [])
              exact LT.done mixed (hs := ⟨[], [], false, [], []⟩) (es := none) [.n x1.length, .d true, .d true, .d true, .d true, .n x1.length, .row [(.int .u8 v4000_1.1), (.int .i64 v4000_1.2.1), (.int .u8 v4000_1.2.2.1), (.bool v4000_1.2.2.2)], .d false, .d false, .call ⟨true, []⟩ (.tup [(.sl 3 (List.map e_u8_i64_b v4000_2.1)), (.int .i64 v4000_2.2)]) [], .call ⟨true, []⟩ (.tup [(.sl 3 (List.map e_u8_i64_b v4000_3.1)), (.int .i64 v4000_3.2)]) [], .d true] [⟨(nT cL7)⟩, ⟨(ok_ref07_Take k v4001_2 v4000_1.2.1 v4000_1.2.2.1 v4000_1.2.2.2 _ eL6)⟩, ⟨(ok_lock_Take k v4001_1 v4000_1.2.1 v4000_1.2.2.1 v4000_1.2.2.2 _ eL5)⟩, ⟨cL4⟩, ⟨(rfl : eqI 5 0 = false)⟩, ⟨(cells_map (e := e_u8_i64_u8_b) eL3 4 0 4 (by decide))⟩, ⟨cL2⟩, ⟨(len_map e_u8_i64_u8_b x1)⟩, ⟨cL1⟩, ⟨cL0⟩, ⟨cL0⟩, ⟨cL0⟩, ⟨(len_map e_u8_i64_u8_b x1)⟩] (by kernel_rfl) (fun s h => by cases h)
        · rw [if_neg cL2] at h
          replace cL2 := eqf cL2
          cases h
      · rw [if_neg cL1] at h
        replace cL1 := eqf cL1
        obtain rfl := Option.some.inj h
        show LT _ _ _ _ (.st (.exit 0) (E4_0_0))
        exact LT.done mixed (hs := ⟨[], [], false, [], []⟩) (es := (some ⟨[], [], false, [], []⟩)) [.n x1.length, .d true, .d true, .d true, .d false] [⟨cL1⟩, ⟨cL0⟩, ⟨cL0⟩, ⟨cL0⟩, ⟨(len_map e_u8_i64_u8_b x1)⟩] (by kernel_rfl) (fun s h => by cases h)
    · rw [if_neg cL0] at h
      replace cL0 := eqf cL0
      obtain rfl := Option.some.inj h
      show LT _ _ _ _ (.st (.exit 0) (E4_0_0))
      exact LT.done mixed (hs := ⟨[], [], false, [], []⟩) (es := (some ⟨[], [], false, [], []⟩)) [.n x1.length, .d false, .d false, .d false, .d false] [⟨(rfl : false = false)⟩, ⟨cL0⟩, ⟨cL0⟩, ⟨cL0⟩, ⟨(len_map e_u8_i64_u8_b x1)⟩] (by kernel_rfl) (fun s h => by cases h)
theorem ok_law07_LockRow (k : Nat) (x1 : List (Int × Int × Int × Bool)) (r : Bool) (h : law07_LockRow k x1 = some r) : Tri Try.prog 4 [(.sl 4 (List.map e_u8_i64_u8_b x1))] [] (.bool r) [] := by
    unfold law07_LockRow at h
    obtain ⟨x2, e0, h⟩ := Option.bind_eq_some_iff.1 h
    by_cases c1 : x2 = true
    · rw [if_pos c1] at h
      obtain ⟨x3, e2, h⟩ := Option.bind_eq_some_iff.1 h
      cases x3 with
      | inl x4 =>
        simp only [Sum.elim_inl] at h
        obtain rfl := Option.some.inj h
        exact Tri.of (x := X4) mixed facts4 [.call ⟨true, []⟩ (.bool x2) [], .d false, .norm 2 ⟨[(0, []), (3, [(0, 3)]), (4, [(0, 3)]), (5, [])], [], false, [], []⟩, .out (.st .normal (E4_0_0))] [⟨(LT.block (ok_law07_LockRow_l0 x1 _ k [] [] 0 e2))⟩, ⟨(nF c1)⟩, ⟨(ok_law07_alive k _ e0)⟩] (by kernel_rfl)
      | inr x4 =>
        simp only [Sum.elim_inr] at h
        obtain rfl := Option.some.inj h
        exact Tri.of (x := X4) mixed facts4 [.call ⟨true, []⟩ (.bool x2) [], .d false, .norm 2 ⟨[(0, []), (3, [(0, 3)]), (4, [(0, 3)]), (5, [])], [], false, [], []⟩, .out (.fin (.bool x4) [])] [⟨(LT.blockFin (id := 0) (ok_law07_LockRow_l0 x1 _ k [] [] 0 e2))⟩, ⟨(nF c1)⟩, ⟨(ok_law07_alive k _ e0)⟩] (by kernel_rfl)
    · rw [if_neg c1] at h
      replace c1 := eqf c1
      obtain rfl := Option.some.inj h
      exact Tri.of (x := X4) mixed facts4 [.call ⟨true, []⟩ (.bool x2) [], .d true] [⟨(nT c1)⟩, ⟨(ok_law07_alive k _ e0)⟩] (by kernel_rfl)
end Go.Ws
