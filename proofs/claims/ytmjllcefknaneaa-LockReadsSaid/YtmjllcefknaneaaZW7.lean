/-
  law07_LockReads: what the machine makes of it. (Printed by my own program.)
  Conditions: none.
-/
import Derived.Test.YtmjllcefknaneaaZPre
import Derived.Test.YtmjllcefknaneaaZPure
import Derived.Test.YtmjllcefknaneaaZW10
import Derived.Test.YtmjllcefknaneaaZW11
import Derived.Test.YtmjllcefknaneaaZW14
import Derived.Test.YtmjllcefknaneaaZW20
set_option linter.unusedVariables false
set_option linter.unusedSimpArgs false
namespace Go.Ws
open Go.Proofs
set_option linter.unusedSimpArgs false
set_option linter.unusedVariables false
set_option maxRecDepth 1000000
set_option maxHeartbeats 4000000
noncomputable def X7 : Ctx := ⟨Try.f7, [], true⟩
noncomputable def L7_2 : Code := at_ Try.f7 [1, 1, 1, 1, 1, 1, 1, 1, 1, 0, 1, 4, 5]
def S7_2 (x5 : (List (Int × Int × Bool)) × (List Int)) (x8 : (List (Int × Int × Bool)) × Int) (v7021_1 : Bool) (v7021_2 : Int) : St := ⟨mkT 90 [(5, (.sl 3 (List.map e_u8_i64_b x5.1))), (14, (.int .i64 x8.2)), (15, (.bool v7021_1)), (70, (.ref 1 0 0 0 x5.2.length .virt)), (71, (.int .i64 (nI x5.2.length))), (72, (.int .i64 v7021_2))], [(.arr 1 (List.map e_i64 x5.2) 0 0 false)]⟩
def E7_2_4 (x5 : (List (Int × Int × Bool)) × (List Int)) (x8 : (List (Int × Int × Bool)) × Int) (v7022_1 : Bool) : St := ⟨mkT 90 [(5, (.sl 3 (List.map e_u8_i64_b x5.1))), (14, (.int .i64 x8.2)), (15, (.bool v7022_1))], []⟩
def O7_2 (x5 : (List (Int × Int × Bool)) × (List Int)) (x8 : (List (Int × Int × Bool)) × Int) (y : (Bool)) : GX := .st (.exit 4) (E7_2_4 x5 x8 y)
noncomputable def L7_1 : Code := at_ Try.f7 [1, 1, 1, 1, 1, 1, 0, 1, 4, 5]
def S7_1 (x2 : Int) (x5 : (List (Int × Int × Bool)) × (List Int)) (v7011_1 : Int) : St := ⟨mkT 90 [(1, (.int .u8 (irem .u8 x2 64))), (5, (.sl 3 (List.map e_u8_i64_b x5.1))), (6, (.ref 1 0 0 0 x5.2.length .virt)), (52, (.ref 1 0 0 0 x5.2.length .virt)), (53, (.int .i64 (nI x5.2.length))), (54, (.int .i64 v7011_1))], [(.arr 1 (List.map e_i64 x5.2) 0 0 false)]⟩
def E7_1_2 (x2 : Int) (x5 : (List (Int × Int × Bool)) × (List Int)) : St := ⟨mkT 90 [(1, (.int .u8 (irem .u8 x2 64))), (5, (.sl 3 (List.map e_u8_i64_b x5.1))), (6, (.ref 1 0 0 0 x5.2.length .virt))], [(.arr 1 (List.map e_i64 x5.2) 0 0 false)]⟩
def O7_1 (x2 : Int) (x5 : (List (Int × Int × Bool)) × (List Int)) (y : (Sum (Unit) (Bool))) : GX := match y with
  | .inl y => .st (.exit 2) (E7_1_2 x2 x5)
  | .inr y => .fin (.bool y) []
noncomputable def L7_0 : Code := at_ Try.f7 [1, 1, 1, 1, 1, 0, 1, 4, 5]
def S7_0 (x1 : List Int) (x2 : Int) (v7001_1 : List (Int × Int × Bool)) (v7001_2 : Int) (v7001_3 : List Int) : St := ⟨mkT 90 [(0, (.sl 1 (List.map e_u16 x1))), (1, (.int .u8 (irem .u8 x2 64))), (5, (.sl 3 (List.map e_u8_i64_b v7001_1))), (6, (.ref 1 0 0 0 v7001_3.length .virt)), (7, (.int .i64 v7001_2))], [(.arr 1 (List.map e_i64 v7001_3) 0 0 false)]⟩
def E7_0_0 (x2 : Int) (v7002_1 : List (Int × Int × Bool)) (v7002_2 : List Int) : St := ⟨mkT 90 [(1, (.int .u8 (irem .u8 x2 64))), (5, (.sl 3 (List.map e_u8_i64_b v7002_1))), (6, (.ref 1 0 0 0 v7002_2.length .virt))], [(.arr 1 (List.map e_i64 v7002_2) 0 0 false)]⟩
def O7_0 (x1 : List Int) (x2 : Int) (y : (Sum ((List (Int × Int × Bool)) × (List Int)) (Bool))) : GX := match y with
  | .inl y => .st (.exit 0) (E7_0_0 x2 y.1 y.2)
  | .inr y => .fin (.bool y) []
theorem ok_law07_LockReads_l2 (x5 : (List (Int × Int × Bool)) × (List Int)) (x8 : (List (Int × Int × Bool)) × Int) (y : (Bool)) : ∀ (k : Nat) (v7021_1 : Bool) (v7021_2 : Int), law07_LockReads_l2 k x5 x8 v7021_1 v7021_2 = some y → LT Try.prog X7 L7_2 (S7_2 x5 x8 v7021_1 v7021_2) (O7_2 x5 x8 y)
  | 0, v7021_1, v7021_2, h => by cases h
  | k + 1, v7021_1, v7021_2, h => by
    rw [law07_LockReads_l2] at h
    by_cases cL0 : ltI v7021_2 (nI x5.2.length) = true
    · rw [if_pos cL0] at h
      by_cases cL1 : inI v7021_2 x5.2.length = true
      · rw [if_pos cL1] at h
        obtain ⟨v7020_1, eL2, h⟩ := Option.bind_eq_some_iff.1 h
        by_cases cL3 : v7021_1 = true
        · rw [if_pos cL3] at h
          exact LT.next mixed (hs := ⟨[(5, []), (14, []), (15, []), (70, []), (71, []), (72, [])], [⟨.tmp 70, [], none⟩], false, [], []⟩) (es := none) [.d true, .row [(.int .i64 v7020_1)], .d true, .d true, .d true] [⟨cL3⟩, ⟨cL3⟩, ⟨cL3⟩, ⟨(cells_map (e := e_i64) eL2 1 0 1 (by decide))⟩, ⟨cL1⟩, ⟨cL0⟩] (by kernel_rfl) (ok_law07_LockReads_l2 x5 x8 y k (eqI v7020_1 0) (iadd .i64 v7021_2 1) h)
        · rw [if_neg cL3] at h
          replace cL3 := eqf cL3
          exact LT.next mixed (hs := ⟨[(5, []), (14, []), (15, []), (70, []), (71, []), (72, [])], [⟨.tmp 70, [], none⟩], false, [], []⟩) (es := none) [.d true, .row [(.int .i64 v7020_1)], .d false, .d false, .d false] [⟨cL3⟩, ⟨cL3⟩, ⟨cL3⟩, ⟨(cells_map (e := e_i64) eL2 1 0 1 (by decide))⟩, ⟨cL1⟩, ⟨cL0⟩] (by kernel_rfl) (ok_law07_LockReads_l2 x5 x8 y k false (iadd .i64 v7021_2 1) h)
      · rw [if_neg cL1] at h
        replace cL1 := eqf cL1
        cases h
    · rw [if_neg cL0] at h
      replace cL0 := eqf cL0
      obtain rfl := Option.some.inj h
      show LT _ _ _ _ (.st (.exit 4) (E7_2_4 x5 x8 v7021_1))
      exact LT.done mixed (hs := ⟨[], [], false, [], []⟩) (es := (some ⟨[(5, []), (14, []), (15, [])], [], false, [], []⟩)) [.d false] [⟨cL0⟩] (by kernel_rfl) (fun s h => by cases h)
theorem ok_law07_LockReads_l1 (x2 : Int) (x5 : (List (Int × Int × Bool)) × (List Int)) (y : (Sum (Unit) (Bool))) : ∀ (k : Nat) (v7011_1 : Int), law07_LockReads_l1 k x2 x5 v7011_1 = some y → LT Try.prog X7 L7_1 (S7_1 x2 x5 v7011_1) (O7_1 x2 x5 y)
  | 0, v7011_1, h => by cases h
  | k + 1, v7011_1, h => by
    rw [law07_LockReads_l1] at h
    by_cases cL0 : ltI v7011_1 (nI x5.2.length) = true
    · rw [if_pos cL0] at h
      by_cases cL1 : inI v7011_1 x5.2.length = true
      · rw [if_pos cL1] at h
        obtain ⟨v7010_1, eL2, h⟩ := Option.bind_eq_some_iff.1 h
        obtain ⟨v7010_2, eL3, h⟩ := Option.bind_eq_some_iff.1 h
        by_cases cL4 : eqI v7010_2 1 = true
        · rw [if_pos cL4] at h
          exact LT.next mixed (hs := ⟨[(1, []), (5, []), (6, []), (52, []), (53, []), (54, [])], [⟨.tmp 6, [], none⟩], false, [], []⟩) (es := none) [.d true, .row [(.int .i64 v7010_1)], .call ⟨true, []⟩ (.int .i64 v7010_2) [], .d false] [⟨(nF cL4)⟩, ⟨(ok_lock_Holds k x5.1 v7010_1 (irem .u8 x2 64) _ eL3)⟩, ⟨(cells_map (e := e_i64) eL2 1 0 1 (by decide))⟩, ⟨cL1⟩, ⟨cL0⟩] (by kernel_rfl) (ok_law07_LockReads_l1 x2 x5 y k (iadd .i64 v7011_1 1) h)
        · rw [if_neg cL4] at h
          replace cL4 := eqf cL4
          obtain rfl := Option.some.inj h
          show LT _ _ _ _ (.fin (.bool false) [])
          exact LT.done mixed (hs := ⟨[], [], false, [], []⟩) (es := none) [.d true, .row [(.int .i64 v7010_1)], .call ⟨true, []⟩ (.int .i64 v7010_2) [], .d true] [⟨(nT cL4)⟩, ⟨(ok_lock_Holds k x5.1 v7010_1 (irem .u8 x2 64) _ eL3)⟩, ⟨(cells_map (e := e_i64) eL2 1 0 1 (by decide))⟩, ⟨cL1⟩, ⟨cL0⟩] (by kernel_rfl) (fun s h => by cases h)
      · rw [if_neg cL1] at h
        replace cL1 := eqf cL1
        cases h
    · rw [if_neg cL0] at h
      replace cL0 := eqf cL0
      obtain rfl := Option.some.inj h
      show LT _ _ _ _ (.st (.exit 2) (E7_1_2 x2 x5))
      exact LT.done mixed (hs := ⟨[], [], false, [], []⟩) (es := (some ⟨[(1, []), (5, []), (6, [])], [⟨.tmp 6, [], none⟩], false, [], []⟩)) [.d false] [⟨cL0⟩] (by kernel_rfl) (fun s h => by cases h)
theorem ok_law07_LockReads_l0 (x1 : List Int) (x2 : Int) (y : (Sum ((List (Int × Int × Bool)) × (List Int)) (Bool))) : ∀ (k : Nat) (v7001_1 : List (Int × Int × Bool)) (v7001_2 : Int) (v7001_3 : List Int), law07_LockReads_l0 k x1 x2 v7001_1 v7001_2 v7001_3 = some y → LT Try.prog X7 L7_0 (S7_0 x1 x2 v7001_1 v7001_2 v7001_3) (O7_0 x1 x2 y)
  | 0, v7001_1, v7001_2, v7001_3, h => by cases h
  | k + 1, v7001_1, v7001_2, v7001_3, h => by
    rw [law07_LockReads_l0] at h
    by_cases cL0 : ltI v7001_2 (nI x1.length) = true
    · rw [if_pos cL0] at h
      by_cases cL1 : ltI v7001_2 100 = true
      · rw [if_pos cL1] at h
        by_cases cL2 : inI v7001_2 x1.length = true
        · rw [if_pos cL2] at h
          obtain ⟨v7000_1, eL3, h⟩ := Option.bind_eq_some_iff.1 h
          obtain ⟨v7000_2, eL4, h⟩ := Option.bind_eq_some_iff.1 h
          by_cases cL5 : eqI v7000_2.2 0 = true
          · rw [if_pos cL5] at h
            by_cases cL6 : roomI (((v7001_3 ++ [irem .i64 (conv .i64 v7000_1) 1000]).length) * 8) = true
            · rw [if_pos cL6] at h
              exact LT.next mixed (hs := ⟨[(0, []), (1, []), (5, []), (6, []), (7, [])], [⟨.tmp 6, [], some 1⟩], false, [], []⟩) (es := none) [.n x1.length, .d true, .d true, .d true, .d true, .n x1.length, .row [(.int .u16 v7000_1)], .d false, .call ⟨true, []⟩ (.tup [(.sl 3 (List.map e_u8_i64_b v7000_2.1)), (.int .i64 v7000_2.2)]) [], .d false, .rows (List.map e_i64 [irem .i64 (conv .i64 v7000_1) 1000]), .n ((v7001_3 ++ [irem .i64 (conv .i64 v7000_1) 1000]).length), .n v7001_3.length, .d true, .rows (List.map e_i64 (v7001_3 ++ [irem .i64 (conv .i64 v7000_1) 1000])), .n ((v7001_3 ++ [irem .i64 (conv .i64 v7000_1) 1000]).length), .rows (List.map e_i64 (v7001_3 ++ [irem .i64 (conv .i64 v7000_1) 1000]))] [⟨(take_all e_i64 (l := (v7001_3 ++ [irem .i64 (conv .i64 v7000_1) 1000])) (n := ((v7001_3 ++ [irem .i64 (conv .i64 v7000_1) 1000]).length)) rfl)⟩, ⟨(rfl : (v7001_3 ++ [irem .i64 (conv .i64 v7000_1) 1000]).length = (v7001_3 ++ [irem .i64 (conv .i64 v7000_1) 1000]).length)⟩, ⟨(zle ((v7001_3 ++ [irem .i64 (conv .i64 v7000_1) 1000]).length))⟩, ⟨(app_map e_i64 v7001_3 [irem .i64 (conv .i64 v7000_1) 1000])⟩, ⟨(eqN_self v7001_3.length)⟩, ⟨(len_map e_i64 v7001_3)⟩, ⟨cL6⟩, ⟨(by simp only [List.length_append, List.length_cons, List.length_nil, List.length_take, List.length_drop, List.length_set, List.length_replicate, List.length_map, List.map_nil, List.map_cons] <;> omega : v7001_3.length + (List.map e_i64 [irem .i64 (conv .i64 v7000_1) 1000]).length = (v7001_3 ++ [irem .i64 (conv .i64 v7000_1) 1000]).length)⟩, ⟨(part_all e_i64 (l := [irem .i64 (conv .i64 v7000_1) 1000]) (n := 1) rfl)⟩, ⟨(le_map e_i64 (Nat.le_refl 1) : 0 + 1 ≤ (List.map e_i64 [irem .i64 (conv .i64 v7000_1) 1000]).length)⟩, ⟨(nF cL5)⟩, ⟨(ok_lock_Take k v7001_1 (irem .i64 (conv .i64 v7000_1) 1000) (irem .u8 x2 64) false _ eL4)⟩, ⟨(rfl : eqI 1000 0 = false)⟩, ⟨(cells_map (e := e_u16) eL3 1 0 1 (by decide))⟩, ⟨cL2⟩, ⟨(len_map e_u16 x1)⟩, ⟨cL1⟩, ⟨cL0⟩, ⟨cL0⟩, ⟨cL0⟩, ⟨(len_map e_u16 x1)⟩] (by kernel_rfl) (ok_law07_LockReads_l0 x1 x2 y k v7000_2.1 (iadd .i64 v7001_2 1) (v7001_3 ++ [irem .i64 (conv .i64 v7000_1) 1000]) h)
            · rw [if_neg cL6] at h
              replace cL6 := eqf cL6
              cases h
          · rw [if_neg cL5] at h
            replace cL5 := eqf cL5
            obtain rfl := Option.some.inj h
            show LT _ _ _ _ (.fin (.bool false) [])
            exact LT.done mixed (hs := ⟨[], [], false, [], []⟩) (es := none) [.n x1.length, .d true, .d true, .d true, .d true, .n x1.length, .row [(.int .u16 v7000_1)], .d false, .call ⟨true, []⟩ (.tup [(.sl 3 (List.map e_u8_i64_b v7000_2.1)), (.int .i64 v7000_2.2)]) [], .d true] [⟨(nT cL5)⟩, ⟨(ok_lock_Take k v7001_1 (irem .i64 (conv .i64 v7000_1) 1000) (irem .u8 x2 64) false _ eL4)⟩, ⟨(rfl : eqI 1000 0 = false)⟩, ⟨(cells_map (e := e_u16) eL3 1 0 1 (by decide))⟩, ⟨cL2⟩, ⟨(len_map e_u16 x1)⟩, ⟨cL1⟩, ⟨cL0⟩, ⟨cL0⟩, ⟨cL0⟩, ⟨(len_map e_u16 x1)⟩] (by kernel_rfl) (fun s h => by cases h)
        · rw [if_neg cL2] at h
          replace cL2 := eqf cL2
          cases h
      · rw [if_neg cL1] at h
        replace cL1 := eqf cL1
        obtain rfl := Option.some.inj h
        show LT _ _ _ _ (.st (.exit 0) (E7_0_0 x2 v7001_1 v7001_3))
        exact LT.done mixed (hs := ⟨[], [], false, [], []⟩) (es := (some ⟨[(1, []), (5, []), (6, [])], [⟨.tmp 6, [], none⟩], false, [], []⟩)) [.n x1.length, .d true, .d true, .d true, .d false] [⟨cL1⟩, ⟨cL0⟩, ⟨cL0⟩, ⟨cL0⟩, ⟨(len_map e_u16 x1)⟩] (by kernel_rfl) (fun s h => by cases h)
    · rw [if_neg cL0] at h
      replace cL0 := eqf cL0
      obtain rfl := Option.some.inj h
      show LT _ _ _ _ (.st (.exit 0) (E7_0_0 x2 v7001_1 v7001_3))
      exact LT.done mixed (hs := ⟨[], [], false, [], []⟩) (es := (some ⟨[(1, []), (5, []), (6, [])], [⟨.tmp 6, [], none⟩], false, [], []⟩)) [.n x1.length, .d false, .d false, .d false, .d false] [⟨(rfl : false = false)⟩, ⟨cL0⟩, ⟨cL0⟩, ⟨cL0⟩, ⟨(len_map e_u16 x1)⟩] (by kernel_rfl) (fun s h => by cases h)
theorem ok_law07_LockReads (k : Nat) (x1 : List Int) (x2 : Int) (r : Bool) (h : law07_LockReads k x1 x2 = some r) : Tri Try.prog 7 [(.sl 1 (List.map e_u16 x1)), (.int .u8 x2)] [] (.bool r) [] := by
    unfold law07_LockReads at h
    obtain ⟨x3, e0, h⟩ := Option.bind_eq_some_iff.1 h
    by_cases c1 : x3 = true
    · rw [if_pos c1] at h
      obtain ⟨x4, e2, h⟩ := Option.bind_eq_some_iff.1 h
      cases x4 with
      | inl x5 =>
        simp only [Sum.elim_inl] at h
        obtain ⟨x6, e4, h⟩ := Option.bind_eq_some_iff.1 h
        cases x6 with
        | inl x7 =>
          simp only [Sum.elim_inl] at h
          obtain ⟨x8, e6, h⟩ := Option.bind_eq_some_iff.1 h
          obtain ⟨x10, e7, h⟩ := Option.bind_eq_some_iff.1 h
          by_cases c9 : eqB (eqI x8.2 0) x10 = true
          · rw [if_pos c9] at h
            obtain ⟨x11, e10, h⟩ := Option.bind_eq_some_iff.1 h
            obtain rfl := Option.some.inj h
            exact Tri.of (x := X7) mixed facts7 [.call ⟨true, []⟩ (.bool x3) [], .d false, .d false, .norm 2 ⟨[(0, []), (1, []), (5, [(0, 3)]), (6, []), (7, [])], [⟨.tmp 6, [], some 1⟩], false, [], []⟩, .n 0, .rows (List.map e_i64 []), .out (.st .normal (E7_0_0 x2 x5.1 x5.2)), .norm 8 ⟨[(1, []), (5, []), (6, []), (52, []), (53, []), (54, [])], [⟨.tmp 6, [], none⟩], false, [], []⟩, .out (.st .normal (E7_1_2 x2 x5)), .call ⟨true, []⟩ (.tup [(.sl 3 (List.map e_u8_i64_b x8.1)), (.int .i64 x8.2)]) [], .norm 14 ⟨[(5, []), (14, []), (15, []), (70, []), (71, []), (72, [])], [⟨.tmp 70, [], none⟩], false, [], []⟩, .out (.st .normal (E7_2_4 x5 x8 x10)), .d true, .d true, .call ⟨true, []⟩ (.bool x11) [], .d true] [⟨c9⟩, ⟨(ok_lock_Right k x5.1 _ e10)⟩, ⟨c9⟩, ⟨c9⟩, ⟨(LT.block (ok_law07_LockReads_l2 x5 x8 _ k true 0 e7))⟩, ⟨(ok_lock_Take k x5.1 0 (irem .u8 x2 64) true _ e6)⟩, ⟨(LT.block (ok_law07_LockReads_l1 x2 x5 _ k 0 e4))⟩, ⟨(LT.block (ok_law07_LockReads_l0 x1 x2 _ k [] 0 [] e2))⟩, ⟨(take_all e_i64 (l := []) (n := 0) rfl)⟩, ⟨(rfl : 0 = 0)⟩, ⟨(zle 0)⟩, ⟨(rfl : eqI 64 0 = false)⟩, ⟨(nF c1)⟩, ⟨(ok_law07_alive k _ e0)⟩] (by kernel_rfl)
          · rw [if_neg c9] at h
            replace c9 := eqf c9
            obtain rfl := Option.some.inj h
            exact Tri.of (x := X7) mixed facts7 [.call ⟨true, []⟩ (.bool x3) [], .d false, .d false, .norm 2 ⟨[(0, []), (1, []), (5, [(0, 3)]), (6, []), (7, [])], [⟨.tmp 6, [], some 1⟩], false, [], []⟩, .n 0, .rows (List.map e_i64 []), .out (.st .normal (E7_0_0 x2 x5.1 x5.2)), .norm 8 ⟨[(1, []), (5, []), (6, []), (52, []), (53, []), (54, [])], [⟨.tmp 6, [], none⟩], false, [], []⟩, .out (.st .normal (E7_1_2 x2 x5)), .call ⟨true, []⟩ (.tup [(.sl 3 (List.map e_u8_i64_b x8.1)), (.int .i64 x8.2)]) [], .norm 14 ⟨[(5, []), (14, []), (15, []), (70, []), (71, []), (72, [])], [⟨.tmp 70, [], none⟩], false, [], []⟩, .out (.st .normal (E7_2_4 x5 x8 x10)), .d false, .d false, .d false] [⟨c9⟩, ⟨c9⟩, ⟨c9⟩, ⟨(LT.block (ok_law07_LockReads_l2 x5 x8 _ k true 0 e7))⟩, ⟨(ok_lock_Take k x5.1 0 (irem .u8 x2 64) true _ e6)⟩, ⟨(LT.block (ok_law07_LockReads_l1 x2 x5 _ k 0 e4))⟩, ⟨(LT.block (ok_law07_LockReads_l0 x1 x2 _ k [] 0 [] e2))⟩, ⟨(take_all e_i64 (l := []) (n := 0) rfl)⟩, ⟨(rfl : 0 = 0)⟩, ⟨(zle 0)⟩, ⟨(rfl : eqI 64 0 = false)⟩, ⟨(nF c1)⟩, ⟨(ok_law07_alive k _ e0)⟩] (by kernel_rfl)
        | inr x7 =>
          simp only [Sum.elim_inr] at h
          obtain rfl := Option.some.inj h
          exact Tri.of (x := X7) mixed facts7 [.call ⟨true, []⟩ (.bool x3) [], .d false, .d false, .norm 2 ⟨[(0, []), (1, []), (5, [(0, 3)]), (6, []), (7, [])], [⟨.tmp 6, [], some 1⟩], false, [], []⟩, .n 0, .rows (List.map e_i64 []), .out (.st .normal (E7_0_0 x2 x5.1 x5.2)), .norm 8 ⟨[(1, []), (5, []), (6, []), (52, []), (53, []), (54, [])], [⟨.tmp 6, [], none⟩], false, [], []⟩, .out (.fin (.bool x7) [])] [⟨(LT.blockFin (id := 2) (ok_law07_LockReads_l1 x2 x5 _ k 0 e4))⟩, ⟨(LT.block (ok_law07_LockReads_l0 x1 x2 _ k [] 0 [] e2))⟩, ⟨(take_all e_i64 (l := []) (n := 0) rfl)⟩, ⟨(rfl : 0 = 0)⟩, ⟨(zle 0)⟩, ⟨(rfl : eqI 64 0 = false)⟩, ⟨(nF c1)⟩, ⟨(ok_law07_alive k _ e0)⟩] (by kernel_rfl)
      | inr x5 =>
        simp only [Sum.elim_inr] at h
        obtain rfl := Option.some.inj h
        exact Tri.of (x := X7) mixed facts7 [.call ⟨true, []⟩ (.bool x3) [], .d false, .d false, .norm 2 ⟨[(0, []), (1, []), (5, [(0, 3)]), (6, []), (7, [])], [⟨.tmp 6, [], some 1⟩], false, [], []⟩, .n 0, .rows (List.map e_i64 []), .out (.fin (.bool x5) [])] [⟨(LT.blockFin (id := 0) (ok_law07_LockReads_l0 x1 x2 _ k [] 0 [] e2))⟩, ⟨(take_all e_i64 (l := []) (n := 0) rfl)⟩, ⟨(rfl : 0 = 0)⟩, ⟨(zle 0)⟩, ⟨(rfl : eqI 64 0 = false)⟩, ⟨(nF c1)⟩, ⟨(ok_law07_alive k _ e0)⟩] (by kernel_rfl)
    · rw [if_neg c1] at h
      replace c1 := eqf c1
      obtain rfl := Option.some.inj h
      exact Tri.of (x := X7) mixed facts7 [.call ⟨true, []⟩ (.bool x3) [], .d true] [⟨(nT c1)⟩, ⟨(ok_law07_alive k _ e0)⟩] (by kernel_rfl)
end Go.Ws
