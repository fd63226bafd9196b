/-
  law06_WheelSets: what the machine makes of it. (Printed by my own program.)
  Conditions: none.
-/
import Derived.Test.YtgaodljkmdafdaaZPre
import Derived.Test.YtgaodljkmdafdaaZPure
import Derived.Test.YtgaodljkmdafdaaZW10
import Derived.Test.YtgaodljkmdafdaaZW11
import Derived.Test.YtgaodljkmdafdaaZW12
import Derived.Test.YtgaodljkmdafdaaZW16
import Derived.Test.YtgaodljkmdafdaaZW19
set_option linter.unusedVariables false
set_option linter.unusedSimpArgs false
namespace Go.Ws
open Go.Proofs
set_option linter.unusedSimpArgs false
set_option linter.unusedVariables false
set_option maxRecDepth 1000000
set_option maxHeartbeats 4000000
noncomputable def X7 : Ctx := ⟨Try.f7, [], true⟩
noncomputable def L7_1 : Code := at_ Try.f7 [1, 1, 1, 1, 1, 1, 1, 1, 1, 1, 0, 1, 4, 5]
def S7_1 (x3 : Int) (x11 : Int × (List (Int × Int)) × (List Int) × Int) (x12 : Int × (List (Int × Int)) × (List Int) × Int) (x14 : Bool) (v7011_1 : Int) : St := ⟨mkT 118 [(1, (.int .i64 x3)), (13, (.int .i64 x11.2.2.2)), (16, (.int .i64 x12.2.2.2)), (17, (.bool x14)), (99, (.sl 1 (List.map e_i64 x11.2.2.1))), (100, (.int .i64 (nI x11.2.2.1.length))), (101, (.int .i64 v7011_1))], []⟩
def E7_1_2 (x11 : Int × (List (Int × Int)) × (List Int) × Int) (x12 : Int × (List (Int × Int)) × (List Int) × Int) (x14 : Bool) : St := ⟨mkT 118 [(13, (.int .i64 x11.2.2.2)), (16, (.int .i64 x12.2.2.2)), (17, (.bool x14))], []⟩
def O7_1 (x3 : Int) (x11 : Int × (List (Int × Int)) × (List Int) × Int) (x12 : Int × (List (Int × Int)) × (List Int) × Int) (x14 : Bool) (y : (Sum (Unit) (Bool))) : GX := match y with
  | .inl y => .st (.exit 2) (E7_1_2 x11 x12 x14)
  | .inr y => .fin (.bool y) []
noncomputable def L7_0 : Code := at_ Try.f7 [1, 1, 1, 1, 1, 1, 1, 1, 1, 0, 1, 4, 5]
def S7_0 (x3 : Int) (x11 : Int × (List (Int × Int)) × (List Int) × Int) (x12 : Int × (List (Int × Int)) × (List Int) × Int) (v7001_1 : Bool) (v7001_2 : Int) : St := ⟨mkT 118 [(1, (.int .i64 x3)), (12, (.sl 1 (List.map e_i64 x11.2.2.1))), (13, (.int .i64 x11.2.2.2)), (16, (.int .i64 x12.2.2.2)), (17, (.bool v7001_1)), (86, (.sl 1 (List.map e_i64 x12.2.2.1))), (87, (.int .i64 (nI x12.2.2.1.length))), (88, (.int .i64 v7001_2))], []⟩
def E7_0_0 (x3 : Int) (x11 : Int × (List (Int × Int)) × (List Int) × Int) (x12 : Int × (List (Int × Int)) × (List Int) × Int) (v7002_1 : Bool) : St := ⟨mkT 118 [(1, (.int .i64 x3)), (12, (.sl 1 (List.map e_i64 x11.2.2.1))), (13, (.int .i64 x11.2.2.2)), (16, (.int .i64 x12.2.2.2)), (17, (.bool v7002_1))], []⟩
def O7_0 (x3 : Int) (x11 : Int × (List (Int × Int)) × (List Int) × Int) (x12 : Int × (List (Int × Int)) × (List Int) × Int) (y : (Bool)) : GX := .st (.exit 0) (E7_0_0 x3 x11 x12 y)
theorem ok_law06_WheelSets_l1 (x3 : Int) (x11 : Int × (List (Int × Int)) × (List Int) × Int) (x12 : Int × (List (Int × Int)) × (List Int) × Int) (x14 : Bool) (y : (Sum (Unit) (Bool))) : ∀ (k : Nat) (v7011_1 : Int), law06_WheelSets_l1 k x3 x11 x12 x14 v7011_1 = some y → LT Try.prog X7 L7_1 (S7_1 x3 x11 x12 x14 v7011_1) (O7_1 x3 x11 x12 x14 y)
  | 0, v7011_1, h => by cases h
  | k + 1, v7011_1, h => by
    rw [law06_WheelSets_l1] at h
    by_cases cL0 : ltI v7011_1 (nI x11.2.2.1.length) = true
    · rw [if_pos cL0] at h
      by_cases cL1 : inI v7011_1 x11.2.2.1.length = true
      · rw [if_pos cL1] at h
        obtain ⟨v7010_1, eL2, h⟩ := Option.bind_eq_some_iff.1 h
        by_cases cL3 : eqI v7010_1 x3 = true
        · rw [if_pos cL3] at h
          obtain rfl := Option.some.inj h
          show LT _ _ _ _ (.fin (.bool false) [])
          exact LT.done mixed (hs := ⟨[], [], false, [], []⟩) (es := none) [.d true, .n x11.2.2.1.length, .row [(.int .i64 v7010_1)], .d true] [⟨cL3⟩, ⟨(cells_map (e := e_i64) eL2 1 0 1 (by decide))⟩, ⟨cL1⟩, ⟨(len_map e_i64 x11.2.2.1)⟩, ⟨cL0⟩] (by kernel_rfl) (fun s h => by cases h)
        · rw [if_neg cL3] at h
          replace cL3 := eqf cL3
          exact LT.next mixed (hs := ⟨[(1, []), (13, []), (16, []), (17, []), (99, []), (100, []), (101, [])], [], false, [], []⟩) (es := none) [.d true, .n x11.2.2.1.length, .row [(.int .i64 v7010_1)], .d false] [⟨cL3⟩, ⟨(cells_map (e := e_i64) eL2 1 0 1 (by decide))⟩, ⟨cL1⟩, ⟨(len_map e_i64 x11.2.2.1)⟩, ⟨cL0⟩] (by kernel_rfl) (ok_law06_WheelSets_l1 x3 x11 x12 x14 y k (iadd .i64 v7011_1 1) h)
      · rw [if_neg cL1] at h
        replace cL1 := eqf cL1
        cases h
    · rw [if_neg cL0] at h
      replace cL0 := eqf cL0
      obtain rfl := Option.some.inj h
      show LT _ _ _ _ (.st (.exit 2) (E7_1_2 x11 x12 x14))
      exact LT.done mixed (hs := ⟨[], [], false, [], []⟩) (es := (some ⟨[(13, []), (16, []), (17, [])], [], false, [], []⟩)) [.d false] [⟨cL0⟩] (by kernel_rfl) (fun s h => by cases h)
theorem ok_law06_WheelSets_l0 (x3 : Int) (x11 : Int × (List (Int × Int)) × (List Int) × Int) (x12 : Int × (List (Int × Int)) × (List Int) × Int) (y : (Bool)) : ∀ (k : Nat) (v7001_1 : Bool) (v7001_2 : Int), law06_WheelSets_l0 k x3 x11 x12 v7001_1 v7001_2 = some y → LT Try.prog X7 L7_0 (S7_0 x3 x11 x12 v7001_1 v7001_2) (O7_0 x3 x11 x12 y)
  | 0, v7001_1, v7001_2, h => by cases h
  | k + 1, v7001_1, v7001_2, h => by
    rw [law06_WheelSets_l0] at h
    by_cases cL0 : ltI v7001_2 (nI x12.2.2.1.length) = true
    · rw [if_pos cL0] at h
      by_cases cL1 : inI v7001_2 x12.2.2.1.length = true
      · rw [if_pos cL1] at h
        obtain ⟨v7000_1, eL2, h⟩ := Option.bind_eq_some_iff.1 h
        by_cases cL3 : v7001_1 = true
        · rw [if_pos cL3] at h
          exact LT.next mixed (hs := ⟨[(1, []), (12, []), (13, []), (16, []), (17, []), (86, []), (87, []), (88, [])], [], false, [], []⟩) (es := none) [.d true, .n x12.2.2.1.length, .row [(.int .i64 v7000_1)], .d true, .d true, .d true, .d true] [⟨cL3⟩, ⟨cL3⟩, ⟨cL3⟩, ⟨cL3⟩, ⟨(cells_map (e := e_i64) eL2 1 0 1 (by decide))⟩, ⟨cL1⟩, ⟨(len_map e_i64 x12.2.2.1)⟩, ⟨cL0⟩] (by kernel_rfl) (ok_law06_WheelSets_l0 x3 x11 x12 y k true (iadd .i64 v7001_2 1) h)
        · rw [if_neg cL3] at h
          replace cL3 := eqf cL3
          exact LT.next mixed (hs := ⟨[(1, []), (12, []), (13, []), (16, []), (17, []), (86, []), (87, []), (88, [])], [], false, [], []⟩) (es := none) [.d true, .n x12.2.2.1.length, .row [(.int .i64 v7000_1)], .d false, .d false, .d false, .d false] [⟨cL3⟩, ⟨cL3⟩, ⟨cL3⟩, ⟨cL3⟩, ⟨(cells_map (e := e_i64) eL2 1 0 1 (by decide))⟩, ⟨cL1⟩, ⟨(len_map e_i64 x12.2.2.1)⟩, ⟨cL0⟩] (by kernel_rfl) (ok_law06_WheelSets_l0 x3 x11 x12 y k (eqI v7000_1 x3) (iadd .i64 v7001_2 1) h)
      · rw [if_neg cL1] at h
        replace cL1 := eqf cL1
        cases h
    · rw [if_neg cL0] at h
      replace cL0 := eqf cL0
      obtain rfl := Option.some.inj h
      show LT _ _ _ _ (.st (.exit 0) (E7_0_0 x3 x11 x12 v7001_1))
      exact LT.done mixed (hs := ⟨[], [], false, [], []⟩) (es := (some ⟨[(1, []), (12, []), (13, []), (16, []), (17, [])], [], false, [], []⟩)) [.d false] [⟨cL0⟩] (by kernel_rfl) (fun s h => by cases h)
theorem ok_law06_WheelSets (k : Nat) (x1 : Int) (x2 : List (Int × Int)) (x3 : Int) (x4 : Int) (x5 : Int) (r : Bool) (h : law06_WheelSets k x1 x2 x3 x4 x5 = some r) : Tri Try.prog 7 [(.agg [(.int .i64 x1), (.sl 2 (List.map e_i64_i64 x2))]), (.int .i64 x3), (.agg [(.int .u16 x4), (.int .u16 x5)])] [] (.bool r) [] := by
    unfold law06_WheelSets at h
    obtain ⟨x6, e0, h⟩ := Option.bind_eq_some_iff.1 h
    by_cases c1 : x6 = true
    · rw [if_pos c1] at h
      by_cases c2 : ltI 100 (nI x2.length) = true
      · rw [if_pos c2] at h
        obtain rfl := Option.some.inj h
        exact Tri.of (x := X7) mixed facts7 [.call ⟨true, []⟩ (.bool x6) [], .d false, .n x2.length, .d true, .d true, .d true, .d true, .d true, .d true, .d true, .d true, .d true] [⟨(rfl : true = true)⟩, ⟨(rfl : true = true)⟩, ⟨(rfl : true = true)⟩, ⟨(rfl : true = true)⟩, ⟨(rfl : true = true)⟩, ⟨c2⟩, ⟨c2⟩, ⟨c2⟩, ⟨c2⟩, ⟨(len_map e_i64_i64 x2)⟩, ⟨(nF c1)⟩, ⟨(ok_law06_alive k _ e0)⟩] (by kernel_rfl)
      · rw [if_neg c2] at h
        replace c2 := eqf c2
        obtain ⟨x7, e3, h⟩ := Option.bind_eq_some_iff.1 h
        by_cases c4 : x7 = true
        · rw [if_pos c4] at h
          by_cases c5 : ltI 549755813888 x1 = true
          · rw [if_pos c5] at h
            obtain rfl := Option.some.inj h
            exact Tri.of (x := X7) mixed facts7 [.call ⟨true, []⟩ (.bool x6) [], .d false, .n x2.length, .d false, .d false, .call ⟨true, []⟩ (.bool x7) [], .d false, .d false, .d false, .d false, .d false, .d false, .d true] [⟨c5⟩, ⟨(nF c4)⟩, ⟨(nF c4)⟩, ⟨(nF c4)⟩, ⟨(nF c4)⟩, ⟨c2⟩, ⟨c2⟩, ⟨(ok_ref06_Right k x1 x2 _ e3)⟩, ⟨c2⟩, ⟨c2⟩, ⟨(len_map e_i64_i64 x2)⟩, ⟨(nF c1)⟩, ⟨(ok_law06_alive k _ e0)⟩] (by kernel_rfl)
          · rw [if_neg c5] at h
            replace c5 := eqf c5
            obtain ⟨x8, e6, h⟩ := Option.bind_eq_some_iff.1 h
            obtain ⟨x9, e7, h⟩ := Option.bind_eq_some_iff.1 h
            obtain ⟨x10, e8, h⟩ := Option.bind_eq_some_iff.1 h
            by_cases c9 : eqI x9.2.2 0 = true
            · rw [if_pos c9] at h
              by_cases c10 : eqI x10.2.2 0 = true
              · rw [if_pos c10] at h
                obtain ⟨x11, e11, h⟩ := Option.bind_eq_some_iff.1 h
                obtain ⟨x12, e12, h⟩ := Option.bind_eq_some_iff.1 h
                obtain ⟨x14, e13, h⟩ := Option.bind_eq_some_iff.1 h
                obtain ⟨x15, e15, h⟩ := Option.bind_eq_some_iff.1 h
                cases x15 with
                | inl x16 =>
                  simp only [Sum.elim_inl] at h
                  by_cases c17 : eqI x11.2.2.2 0 = true
                  · rw [if_pos c17] at h
                    by_cases c18 : eqI x12.2.2.2 0 = true
                    · rw [if_pos c18] at h
                      obtain rfl := Option.some.inj h
                      exact Tri.of (x := X7) mixed facts7 [.call ⟨true, []⟩ (.bool x6) [], .d false, .n x2.length, .d false, .d false, .call ⟨true, []⟩ (.bool x7) [], .d false, .d false, .d false, .d false, .d false, .d false, .d false, .call ⟨true, []⟩ (.agg [(.int .i64 x8.1), (.sl 2 (List.map e_i64_i64 x8.2))]) [], .call ⟨true, []⟩ (.tup [(.agg [(.int .i64 x9.1), (.sl 2 (List.map e_i64_i64 x9.2.1))]), (.int .i64 x9.2.2)]) [], .call ⟨true, []⟩ (.tup [(.agg [(.int .i64 x10.1), (.sl 2 (List.map e_i64_i64 x10.2.1))]), (.int .i64 x10.2.2)]) [], .d false, .d false, .d false, .d false, .call ⟨true, []⟩ (.tup [(.agg [(.int .i64 x11.1), (.sl 2 (List.map e_i64_i64 x11.2.1))]), (.sl 1 (List.map e_i64 x11.2.2.1)), (.int .i64 x11.2.2.2)]) [], .call ⟨true, []⟩ (.tup [(.agg [(.int .i64 x12.1), (.sl 2 (List.map e_i64_i64 x12.2.1))]), (.sl 1 (List.map e_i64 x12.2.2.1)), (.int .i64 x12.2.2.2)]) [], .n x12.2.2.1.length, .norm 2 ⟨[(1, []), (12, []), (13, []), (16, []), (17, []), (86, []), (87, []), (88, [])], [], false, [], []⟩, .out (.st .normal (E7_0_0 x3 x11 x12 x14)), .n x11.2.2.1.length, .norm 8 ⟨[(1, []), (13, []), (16, []), (17, []), (99, []), (100, []), (101, [])], [], false, [], []⟩, .out (.st .normal (E7_1_2 x11 x12 x14)), .d true, .d true, .d true, .d true, .d true] [⟨c18⟩, ⟨c18⟩, ⟨c17⟩, ⟨c17⟩, ⟨c17⟩, ⟨(LT.block (ok_law06_WheelSets_l1 x3 x11 x12 x14 _ k 0 e15))⟩, ⟨(len_map e_i64 x11.2.2.1)⟩, ⟨(LT.block (ok_law06_WheelSets_l0 x3 x11 x12 _ k false 0 e13))⟩, ⟨(len_map e_i64 x12.2.2.1)⟩, ⟨(ok_wheel_Tick k x11.1 x11.2.1 1 _ e12)⟩, ⟨(ok_wheel_Tick k x10.1 x10.2.1 (conv .i64 x5) _ e11)⟩, ⟨(nF c10)⟩, ⟨(nF c9)⟩, ⟨(nF c9)⟩, ⟨(nF c9)⟩, ⟨(ok_wheel_Set k x9.1 x9.2.1 x3 (iadd .i64 (iadd .i64 x1 (conv .i64 x5)) 1) _ e8)⟩, ⟨(ok_wheel_Set k x8.1 x8.2 x3 (iadd .i64 (iadd .i64 x1 (conv .i64 x4)) 1) _ e7)⟩, ⟨(ok_law06_Theirs k x1 x2 _ e6)⟩, ⟨c5⟩, ⟨(nF c4)⟩, ⟨(nF c4)⟩, ⟨(nF c4)⟩, ⟨(nF c4)⟩, ⟨c2⟩, ⟨c2⟩, ⟨(ok_ref06_Right k x1 x2 _ e3)⟩, ⟨c2⟩, ⟨c2⟩, ⟨(len_map e_i64_i64 x2)⟩, ⟨(nF c1)⟩, ⟨(ok_law06_alive k _ e0)⟩] (by kernel_rfl)
                    · rw [if_neg c18] at h
                      replace c18 := eqf c18
                      obtain rfl := Option.some.inj h
                      exact Tri.of (x := X7) mixed facts7 [.call ⟨true, []⟩ (.bool x6) [], .d false, .n x2.length, .d false, .d false, .call ⟨true, []⟩ (.bool x7) [], .d false, .d false, .d false, .d false, .d false, .d false, .d false, .call ⟨true, []⟩ (.agg [(.int .i64 x8.1), (.sl 2 (List.map e_i64_i64 x8.2))]) [], .call ⟨true, []⟩ (.tup [(.agg [(.int .i64 x9.1), (.sl 2 (List.map e_i64_i64 x9.2.1))]), (.int .i64 x9.2.2)]) [], .call ⟨true, []⟩ (.tup [(.agg [(.int .i64 x10.1), (.sl 2 (List.map e_i64_i64 x10.2.1))]), (.int .i64 x10.2.2)]) [], .d false, .d false, .d false, .d false, .call ⟨true, []⟩ (.tup [(.agg [(.int .i64 x11.1), (.sl 2 (List.map e_i64_i64 x11.2.1))]), (.sl 1 (List.map e_i64 x11.2.2.1)), (.int .i64 x11.2.2.2)]) [], .call ⟨true, []⟩ (.tup [(.agg [(.int .i64 x12.1), (.sl 2 (List.map e_i64_i64 x12.2.1))]), (.sl 1 (List.map e_i64 x12.2.2.1)), (.int .i64 x12.2.2.2)]) [], .n x12.2.2.1.length, .norm 2 ⟨[(1, []), (12, []), (13, []), (16, []), (17, []), (86, []), (87, []), (88, [])], [], false, [], []⟩, .out (.st .normal (E7_0_0 x3 x11 x12 x14)), .n x11.2.2.1.length, .norm 8 ⟨[(1, []), (13, []), (16, []), (17, []), (99, []), (100, []), (101, [])], [], false, [], []⟩, .out (.st .normal (E7_1_2 x11 x12 x14)), .d true, .d true, .d true, .d false, .d false] [⟨c18⟩, ⟨c18⟩, ⟨c17⟩, ⟨c17⟩, ⟨c17⟩, ⟨(LT.block (ok_law06_WheelSets_l1 x3 x11 x12 x14 _ k 0 e15))⟩, ⟨(len_map e_i64 x11.2.2.1)⟩, ⟨(LT.block (ok_law06_WheelSets_l0 x3 x11 x12 _ k false 0 e13))⟩, ⟨(len_map e_i64 x12.2.2.1)⟩, ⟨(ok_wheel_Tick k x11.1 x11.2.1 1 _ e12)⟩, ⟨(ok_wheel_Tick k x10.1 x10.2.1 (conv .i64 x5) _ e11)⟩, ⟨(nF c10)⟩, ⟨(nF c9)⟩, ⟨(nF c9)⟩, ⟨(nF c9)⟩, ⟨(ok_wheel_Set k x9.1 x9.2.1 x3 (iadd .i64 (iadd .i64 x1 (conv .i64 x5)) 1) _ e8)⟩, ⟨(ok_wheel_Set k x8.1 x8.2 x3 (iadd .i64 (iadd .i64 x1 (conv .i64 x4)) 1) _ e7)⟩, ⟨(ok_law06_Theirs k x1 x2 _ e6)⟩, ⟨c5⟩, ⟨(nF c4)⟩, ⟨(nF c4)⟩, ⟨(nF c4)⟩, ⟨(nF c4)⟩, ⟨c2⟩, ⟨c2⟩, ⟨(ok_ref06_Right k x1 x2 _ e3)⟩, ⟨c2⟩, ⟨c2⟩, ⟨(len_map e_i64_i64 x2)⟩, ⟨(nF c1)⟩, ⟨(ok_law06_alive k _ e0)⟩] (by kernel_rfl)
                  · rw [if_neg c17] at h
                    replace c17 := eqf c17
                    obtain rfl := Option.some.inj h
                    exact Tri.of (x := X7) mixed facts7 [.call ⟨true, []⟩ (.bool x6) [], .d false, .n x2.length, .d false, .d false, .call ⟨true, []⟩ (.bool x7) [], .d false, .d false, .d false, .d false, .d false, .d false, .d false, .call ⟨true, []⟩ (.agg [(.int .i64 x8.1), (.sl 2 (List.map e_i64_i64 x8.2))]) [], .call ⟨true, []⟩ (.tup [(.agg [(.int .i64 x9.1), (.sl 2 (List.map e_i64_i64 x9.2.1))]), (.int .i64 x9.2.2)]) [], .call ⟨true, []⟩ (.tup [(.agg [(.int .i64 x10.1), (.sl 2 (List.map e_i64_i64 x10.2.1))]), (.int .i64 x10.2.2)]) [], .d false, .d false, .d false, .d false, .call ⟨true, []⟩ (.tup [(.agg [(.int .i64 x11.1), (.sl 2 (List.map e_i64_i64 x11.2.1))]), (.sl 1 (List.map e_i64 x11.2.2.1)), (.int .i64 x11.2.2.2)]) [], .call ⟨true, []⟩ (.tup [(.agg [(.int .i64 x12.1), (.sl 2 (List.map e_i64_i64 x12.2.1))]), (.sl 1 (List.map e_i64 x12.2.2.1)), (.int .i64 x12.2.2.2)]) [], .n x12.2.2.1.length, .norm 2 ⟨[(1, []), (12, []), (13, []), (16, []), (17, []), (86, []), (87, []), (88, [])], [], false, [], []⟩, .out (.st .normal (E7_0_0 x3 x11 x12 x14)), .n x11.2.2.1.length, .norm 8 ⟨[(1, []), (13, []), (16, []), (17, []), (99, []), (100, []), (101, [])], [], false, [], []⟩, .out (.st .normal (E7_1_2 x11 x12 x14)), .d false, .d false, .d false, .d false, .d false] [⟨(rfl : false = false)⟩, ⟨(rfl : false = false)⟩, ⟨c17⟩, ⟨c17⟩, ⟨c17⟩, ⟨(LT.block (ok_law06_WheelSets_l1 x3 x11 x12 x14 _ k 0 e15))⟩, ⟨(len_map e_i64 x11.2.2.1)⟩, ⟨(LT.block (ok_law06_WheelSets_l0 x3 x11 x12 _ k false 0 e13))⟩, ⟨(len_map e_i64 x12.2.2.1)⟩, ⟨(ok_wheel_Tick k x11.1 x11.2.1 1 _ e12)⟩, ⟨(ok_wheel_Tick k x10.1 x10.2.1 (conv .i64 x5) _ e11)⟩, ⟨(nF c10)⟩, ⟨(nF c9)⟩, ⟨(nF c9)⟩, ⟨(nF c9)⟩, ⟨(ok_wheel_Set k x9.1 x9.2.1 x3 (iadd .i64 (iadd .i64 x1 (conv .i64 x5)) 1) _ e8)⟩, ⟨(ok_wheel_Set k x8.1 x8.2 x3 (iadd .i64 (iadd .i64 x1 (conv .i64 x4)) 1) _ e7)⟩, ⟨(ok_law06_Theirs k x1 x2 _ e6)⟩, ⟨c5⟩, ⟨(nF c4)⟩, ⟨(nF c4)⟩, ⟨(nF c4)⟩, ⟨(nF c4)⟩, ⟨c2⟩, ⟨c2⟩, ⟨(ok_ref06_Right k x1 x2 _ e3)⟩, ⟨c2⟩, ⟨c2⟩, ⟨(len_map e_i64_i64 x2)⟩, ⟨(nF c1)⟩, ⟨(ok_law06_alive k _ e0)⟩] (by kernel_rfl)
                | inr x16 =>
                  simp only [Sum.elim_inr] at h
                  obtain rfl := Option.some.inj h
                  exact Tri.of (x := X7) mixed facts7 [.call ⟨true, []⟩ (.bool x6) [], .d false, .n x2.length, .d false, .d false, .call ⟨true, []⟩ (.bool x7) [], .d false, .d false, .d false, .d false, .d false, .d false, .d false, .call ⟨true, []⟩ (.agg [(.int .i64 x8.1), (.sl 2 (List.map e_i64_i64 x8.2))]) [], .call ⟨true, []⟩ (.tup [(.agg [(.int .i64 x9.1), (.sl 2 (List.map e_i64_i64 x9.2.1))]), (.int .i64 x9.2.2)]) [], .call ⟨true, []⟩ (.tup [(.agg [(.int .i64 x10.1), (.sl 2 (List.map e_i64_i64 x10.2.1))]), (.int .i64 x10.2.2)]) [], .d false, .d false, .d false, .d false, .call ⟨true, []⟩ (.tup [(.agg [(.int .i64 x11.1), (.sl 2 (List.map e_i64_i64 x11.2.1))]), (.sl 1 (List.map e_i64 x11.2.2.1)), (.int .i64 x11.2.2.2)]) [], .call ⟨true, []⟩ (.tup [(.agg [(.int .i64 x12.1), (.sl 2 (List.map e_i64_i64 x12.2.1))]), (.sl 1 (List.map e_i64 x12.2.2.1)), (.int .i64 x12.2.2.2)]) [], .n x12.2.2.1.length, .norm 2 ⟨[(1, []), (12, []), (13, []), (16, []), (17, []), (86, []), (87, []), (88, [])], [], false, [], []⟩, .out (.st .normal (E7_0_0 x3 x11 x12 x14)), .n x11.2.2.1.length, .norm 8 ⟨[(1, []), (13, []), (16, []), (17, []), (99, []), (100, []), (101, [])], [], false, [], []⟩, .out (.fin (.bool x16) [])] [⟨(LT.blockFin (id := 2) (ok_law06_WheelSets_l1 x3 x11 x12 x14 _ k 0 e15))⟩, ⟨(len_map e_i64 x11.2.2.1)⟩, ⟨(LT.block (ok_law06_WheelSets_l0 x3 x11 x12 _ k false 0 e13))⟩, ⟨(len_map e_i64 x12.2.2.1)⟩, ⟨(ok_wheel_Tick k x11.1 x11.2.1 1 _ e12)⟩, ⟨(ok_wheel_Tick k x10.1 x10.2.1 (conv .i64 x5) _ e11)⟩, ⟨(nF c10)⟩, ⟨(nF c9)⟩, ⟨(nF c9)⟩, ⟨(nF c9)⟩, ⟨(ok_wheel_Set k x9.1 x9.2.1 x3 (iadd .i64 (iadd .i64 x1 (conv .i64 x5)) 1) _ e8)⟩, ⟨(ok_wheel_Set k x8.1 x8.2 x3 (iadd .i64 (iadd .i64 x1 (conv .i64 x4)) 1) _ e7)⟩, ⟨(ok_law06_Theirs k x1 x2 _ e6)⟩, ⟨c5⟩, ⟨(nF c4)⟩, ⟨(nF c4)⟩, ⟨(nF c4)⟩, ⟨(nF c4)⟩, ⟨c2⟩, ⟨c2⟩, ⟨(ok_ref06_Right k x1 x2 _ e3)⟩, ⟨c2⟩, ⟨c2⟩, ⟨(len_map e_i64_i64 x2)⟩, ⟨(nF c1)⟩, ⟨(ok_law06_alive k _ e0)⟩] (by kernel_rfl)
              · rw [if_neg c10] at h
                replace c10 := eqf c10
                obtain rfl := Option.some.inj h
                exact Tri.of (x := X7) mixed facts7 [.call ⟨true, []⟩ (.bool x6) [], .d false, .n x2.length, .d false, .d false, .call ⟨true, []⟩ (.bool x7) [], .d false, .d false, .d false, .d false, .d false, .d false, .d false, .call ⟨true, []⟩ (.agg [(.int .i64 x8.1), (.sl 2 (List.map e_i64_i64 x8.2))]) [], .call ⟨true, []⟩ (.tup [(.agg [(.int .i64 x9.1), (.sl 2 (List.map e_i64_i64 x9.2.1))]), (.int .i64 x9.2.2)]) [], .call ⟨true, []⟩ (.tup [(.agg [(.int .i64 x10.1), (.sl 2 (List.map e_i64_i64 x10.2.1))]), (.int .i64 x10.2.2)]) [], .d false, .d false, .d false, .d true] [⟨(nT c10)⟩, ⟨(nF c9)⟩, ⟨(nF c9)⟩, ⟨(nF c9)⟩, ⟨(ok_wheel_Set k x9.1 x9.2.1 x3 (iadd .i64 (iadd .i64 x1 (conv .i64 x5)) 1) _ e8)⟩, ⟨(ok_wheel_Set k x8.1 x8.2 x3 (iadd .i64 (iadd .i64 x1 (conv .i64 x4)) 1) _ e7)⟩, ⟨(ok_law06_Theirs k x1 x2 _ e6)⟩, ⟨c5⟩, ⟨(nF c4)⟩, ⟨(nF c4)⟩, ⟨(nF c4)⟩, ⟨(nF c4)⟩, ⟨c2⟩, ⟨c2⟩, ⟨(ok_ref06_Right k x1 x2 _ e3)⟩, ⟨c2⟩, ⟨c2⟩, ⟨(len_map e_i64_i64 x2)⟩, ⟨(nF c1)⟩, ⟨(ok_law06_alive k _ e0)⟩] (by kernel_rfl)
            · rw [if_neg c9] at h
              replace c9 := eqf c9
              obtain rfl := Option.some.inj h
              exact Tri.of (x := X7) mixed facts7 [.call ⟨true, []⟩ (.bool x6) [], .d false, .n x2.length, .d false, .d false, .call ⟨true, []⟩ (.bool x7) [], .d false, .d false, .d false, .d false, .d false, .d false, .d false, .call ⟨true, []⟩ (.agg [(.int .i64 x8.1), (.sl 2 (List.map e_i64_i64 x8.2))]) [], .call ⟨true, []⟩ (.tup [(.agg [(.int .i64 x9.1), (.sl 2 (List.map e_i64_i64 x9.2.1))]), (.int .i64 x9.2.2)]) [], .call ⟨true, []⟩ (.tup [(.agg [(.int .i64 x10.1), (.sl 2 (List.map e_i64_i64 x10.2.1))]), (.int .i64 x10.2.2)]) [], .d true, .d true, .d true, .d true] [⟨(rfl : true = true)⟩, ⟨(nT c9)⟩, ⟨(nT c9)⟩, ⟨(nT c9)⟩, ⟨(ok_wheel_Set k x9.1 x9.2.1 x3 (iadd .i64 (iadd .i64 x1 (conv .i64 x5)) 1) _ e8)⟩, ⟨(ok_wheel_Set k x8.1 x8.2 x3 (iadd .i64 (iadd .i64 x1 (conv .i64 x4)) 1) _ e7)⟩, ⟨(ok_law06_Theirs k x1 x2 _ e6)⟩, ⟨c5⟩, ⟨(nF c4)⟩, ⟨(nF c4)⟩, ⟨(nF c4)⟩, ⟨(nF c4)⟩, ⟨c2⟩, ⟨c2⟩, ⟨(ok_ref06_Right k x1 x2 _ e3)⟩, ⟨c2⟩, ⟨c2⟩, ⟨(len_map e_i64_i64 x2)⟩, ⟨(nF c1)⟩, ⟨(ok_law06_alive k _ e0)⟩] (by kernel_rfl)
        · rw [if_neg c4] at h
          replace c4 := eqf c4
          obtain rfl := Option.some.inj h
          exact Tri.of (x := X7) mixed facts7 [.call ⟨true, []⟩ (.bool x6) [], .d false, .n x2.length, .d false, .d false, .call ⟨true, []⟩ (.bool x7) [], .d false, .d false, .d true, .d true, .d true, .d true, .d true] [⟨(rfl : true = true)⟩, ⟨(nT c4)⟩, ⟨(nT c4)⟩, ⟨(nT c4)⟩, ⟨(nT c4)⟩, ⟨c2⟩, ⟨c2⟩, ⟨(ok_ref06_Right k x1 x2 _ e3)⟩, ⟨c2⟩, ⟨c2⟩, ⟨(len_map e_i64_i64 x2)⟩, ⟨(nF c1)⟩, ⟨(ok_law06_alive k _ e0)⟩] (by kernel_rfl)
    · rw [if_neg c1] at h
      replace c1 := eqf c1
      obtain rfl := Option.some.inj h
      exact Tri.of (x := X7) mixed facts7 [.call ⟨true, []⟩ (.bool x6) [], .d true] [⟨(nT c1)⟩, ⟨(ok_law06_alive k _ e0)⟩] (by kernel_rfl)
end Go.Ws
