/-
  law06_WheelStops: what the machine makes of it. (Printed by my own program.)
  Conditions: none.
-/
import Derived.Test.YtgaodljkmdafdaaZPre
import Derived.Test.YtgaodljkmdafdaaZPure
import Derived.Test.YtgaodljkmdafdaaZW10
import Derived.Test.YtgaodljkmdafdaaZW12
import Derived.Test.YtgaodljkmdafdaaZW14
import Derived.Test.YtgaodljkmdafdaaZW16
import Derived.Test.YtgaodljkmdafdaaZW19
import Derived.Test.YtgaodljkmdafdaaZW23
set_option linter.unusedVariables false
set_option linter.unusedSimpArgs false
namespace Go.Ws
open Go.Proofs
set_option linter.unusedSimpArgs false
set_option linter.unusedVariables false
set_option maxRecDepth 1000000
set_option maxHeartbeats 4000000
noncomputable def X9 : Ctx := ⟨Try.f9, [], true⟩
noncomputable def L9_0 : Code := at_ Try.f9 [1, 1, 1, 1, 1, 1, 1, 0, 1, 4, 5]
def S9_0 (x3 : Int) (x8 : Int × (List (Int × Int)) × Int) (x9 : Int × (List (Int × Int)) × (List Int) × Int) (x11 : Int × (List (Int × Int)) × (List Int) × Int) (v9001_1 : Int) (v9001_2 : List Int) : St := ⟨mkT 91 [(1, (.int .i64 x3)), (8, (.int .i64 x8.2.2)), (10, (.sl 1 (List.map e_i64 x9.2.2.1))), (11, (.int .i64 x9.2.2.2)), (14, (.int .i64 x11.2.2.2)), (15, (.ref 1 0 0 0 v9001_2.length .virt)), (58, (.sl 1 (List.map e_i64 x11.2.2.1))), (59, (.int .i64 (nI x11.2.2.1.length))), (60, (.int .i64 v9001_1))], [(.arr 1 (List.map e_i64 v9001_2) 0 0 false)]⟩
def E9_0_0 (x8 : Int × (List (Int × Int)) × Int) (x9 : Int × (List (Int × Int)) × (List Int) × Int) (x11 : Int × (List (Int × Int)) × (List Int) × Int) (v9002_1 : List Int) : St := ⟨mkT 91 [(8, (.int .i64 x8.2.2)), (10, (.sl 1 (List.map e_i64 x9.2.2.1))), (11, (.int .i64 x9.2.2.2)), (14, (.int .i64 x11.2.2.2)), (15, (.ref 1 0 0 0 v9002_1.length .virt))], [(.arr 1 (List.map e_i64 v9002_1) 0 0 false)]⟩
def O9_0 (x3 : Int) (x8 : Int × (List (Int × Int)) × Int) (x9 : Int × (List (Int × Int)) × (List Int) × Int) (x11 : Int × (List (Int × Int)) × (List Int) × Int) (y : ((List Int))) : GX := .st (.exit 0) (E9_0_0 x8 x9 x11 y)
theorem ok_law06_WheelStops_l0 (x3 : Int) (x8 : Int × (List (Int × Int)) × Int) (x9 : Int × (List (Int × Int)) × (List Int) × Int) (x11 : Int × (List (Int × Int)) × (List Int) × Int) (y : ((List Int))) : ∀ (k : Nat) (v9001_1 : Int) (v9001_2 : List Int), law06_WheelStops_l0 k x3 x8 x9 x11 v9001_1 v9001_2 = some y → LT Try.prog X9 L9_0 (S9_0 x3 x8 x9 x11 v9001_1 v9001_2) (O9_0 x3 x8 x9 x11 y)
  | 0, v9001_1, v9001_2, h => by cases h
  | k + 1, v9001_1, v9001_2, h => by
    rw [law06_WheelStops_l0] at h
    by_cases cL0 : ltI v9001_1 (nI x11.2.2.1.length) = true
    · rw [if_pos cL0] at h
      by_cases cL1 : inI v9001_1 x11.2.2.1.length = true
      · rw [if_pos cL1] at h
        obtain ⟨v9000_1, eL2, h⟩ := Option.bind_eq_some_iff.1 h
        by_cases cL3 : eqI v9000_1 x3 = true
        · rw [if_pos cL3] at h
          exact LT.next mixed (hs := ⟨[(1, []), (8, []), (10, []), (11, []), (14, []), (15, []), (58, []), (59, []), (60, [])], [⟨.tmp 15, [], some 1⟩], false, [], []⟩) (es := none) [.d true, .n x11.2.2.1.length, .row [(.int .i64 v9000_1)], .d false, .n v9001_2.length, .rows (List.map e_i64 v9001_2)] [⟨(take_all e_i64 (l := v9001_2) (n := v9001_2.length) rfl)⟩, ⟨(rfl : v9001_2.length = v9001_2.length)⟩, ⟨(zle v9001_2.length)⟩, ⟨(nF cL3)⟩, ⟨(cells_map (e := e_i64) eL2 1 0 1 (by decide))⟩, ⟨cL1⟩, ⟨(len_map e_i64 x11.2.2.1)⟩, ⟨cL0⟩] (by kernel_rfl) (ok_law06_WheelStops_l0 x3 x8 x9 x11 y k (iadd .i64 v9001_1 1) v9001_2 h)
        · rw [if_neg cL3] at h
          replace cL3 := eqf cL3
          by_cases cL4 : roomI (((v9001_2 ++ [v9000_1]).length) * 8) = true
          · rw [if_pos cL4] at h
            exact LT.next mixed (hs := ⟨[(1, []), (8, []), (10, []), (11, []), (14, []), (15, []), (58, []), (59, []), (60, [])], [⟨.tmp 15, [], some 1⟩], false, [], []⟩) (es := none) [.d true, .n x11.2.2.1.length, .row [(.int .i64 v9000_1)], .d true, .rows (List.map e_i64 [v9000_1]), .n ((v9001_2 ++ [v9000_1]).length), .n v9001_2.length, .d true, .rows (List.map e_i64 (v9001_2 ++ [v9000_1])), .n ((v9001_2 ++ [v9000_1]).length), .rows (List.map e_i64 (v9001_2 ++ [v9000_1]))] [⟨(take_all e_i64 (l := (v9001_2 ++ [v9000_1])) (n := ((v9001_2 ++ [v9000_1]).length)) rfl)⟩, ⟨(rfl : (v9001_2 ++ [v9000_1]).length = (v9001_2 ++ [v9000_1]).length)⟩, ⟨(zle ((v9001_2 ++ [v9000_1]).length))⟩, ⟨(app_map e_i64 v9001_2 [v9000_1])⟩, ⟨(eqN_self v9001_2.length)⟩, ⟨(len_map e_i64 v9001_2)⟩, ⟨cL4⟩, ⟨(by simp only [List.length_append, List.length_cons, List.length_nil, List.length_take, List.length_drop, List.length_set, List.length_replicate, List.length_map, List.map_nil, List.map_cons] <;> omega : v9001_2.length + (List.map e_i64 [v9000_1]).length = (v9001_2 ++ [v9000_1]).length)⟩, ⟨(part_all e_i64 (l := [v9000_1]) (n := 1) rfl)⟩, ⟨(le_map e_i64 (Nat.le_refl 1) : 0 + 1 ≤ (List.map e_i64 [v9000_1]).length)⟩, ⟨(nT cL3)⟩, ⟨(cells_map (e := e_i64) eL2 1 0 1 (by decide))⟩, ⟨cL1⟩, ⟨(len_map e_i64 x11.2.2.1)⟩, ⟨cL0⟩] (by kernel_rfl) (ok_law06_WheelStops_l0 x3 x8 x9 x11 y k (iadd .i64 v9001_1 1) (v9001_2 ++ [v9000_1]) h)
          · rw [if_neg cL4] at h
            replace cL4 := eqf cL4
            cases h
      · rw [if_neg cL1] at h
        replace cL1 := eqf cL1
        cases h
    · rw [if_neg cL0] at h
      replace cL0 := eqf cL0
      obtain rfl := Option.some.inj h
      show LT _ _ _ _ (.st (.exit 0) (E9_0_0 x8 x9 x11 v9001_2))
      exact LT.done mixed (hs := ⟨[], [], false, [], []⟩) (es := (some ⟨[(8, []), (10, []), (11, []), (14, []), (15, [])], [⟨.tmp 15, [], none⟩], false, [], []⟩)) [.d false] [⟨cL0⟩] (by kernel_rfl) (fun s h => by cases h)
theorem ok_law06_WheelStops (k : Nat) (x1 : Int) (x2 : List (Int × Int)) (x3 : Int) (x4 : Int) (r : Bool) (h : law06_WheelStops k x1 x2 x3 x4 = some r) : Tri Try.prog 9 [(.agg [(.int .i64 x1), (.sl 2 (List.map e_i64_i64 x2))]), (.int .i64 x3), (.int .u16 x4)] [] (.bool r) [] := by
    unfold law06_WheelStops at h
    obtain ⟨x5, e0, h⟩ := Option.bind_eq_some_iff.1 h
    by_cases c1 : x5 = true
    · rw [if_pos c1] at h
      by_cases c2 : ltI 100 (nI x2.length) = true
      · rw [if_pos c2] at h
        obtain rfl := Option.some.inj h
        exact Tri.of (x := X9) mixed facts9 [.call ⟨true, []⟩ (.bool x5) [], .d false, .n x2.length, .d true, .d true, .d true, .d true, .d true, .d true, .d true, .d true, .d true] [⟨(rfl : true = true)⟩, ⟨(rfl : true = true)⟩, ⟨(rfl : true = true)⟩, ⟨(rfl : true = true)⟩, ⟨(rfl : true = true)⟩, ⟨c2⟩, ⟨c2⟩, ⟨c2⟩, ⟨c2⟩, ⟨(len_map e_i64_i64 x2)⟩, ⟨(nF c1)⟩, ⟨(ok_law06_alive k _ e0)⟩] (by kernel_rfl)
      · rw [if_neg c2] at h
        replace c2 := eqf c2
        obtain ⟨x6, e3, h⟩ := Option.bind_eq_some_iff.1 h
        by_cases c4 : x6 = true
        · rw [if_pos c4] at h
          by_cases c5 : ltI 549755813888 x1 = true
          · rw [if_pos c5] at h
            obtain rfl := Option.some.inj h
            exact Tri.of (x := X9) mixed facts9 [.call ⟨true, []⟩ (.bool x5) [], .d false, .n x2.length, .d false, .d false, .call ⟨true, []⟩ (.bool x6) [], .d false, .d false, .d false, .d false, .d false, .d false, .d true] [⟨c5⟩, ⟨(nF c4)⟩, ⟨(nF c4)⟩, ⟨(nF c4)⟩, ⟨(nF c4)⟩, ⟨c2⟩, ⟨c2⟩, ⟨(ok_ref06_Right k x1 x2 _ e3)⟩, ⟨c2⟩, ⟨c2⟩, ⟨(len_map e_i64_i64 x2)⟩, ⟨(nF c1)⟩, ⟨(ok_law06_alive k _ e0)⟩] (by kernel_rfl)
          · rw [if_neg c5] at h
            replace c5 := eqf c5
            obtain ⟨x7, e6, h⟩ := Option.bind_eq_some_iff.1 h
            obtain ⟨x8, e7, h⟩ := Option.bind_eq_some_iff.1 h
            obtain ⟨x9, e8, h⟩ := Option.bind_eq_some_iff.1 h
            obtain ⟨x10, e9, h⟩ := Option.bind_eq_some_iff.1 h
            obtain ⟨x11, e10, h⟩ := Option.bind_eq_some_iff.1 h
            obtain ⟨x13, e11, h⟩ := Option.bind_eq_some_iff.1 h
            by_cases c13 : eqI x9.2.2.2 0 = true
            · rw [if_pos c13] at h
              by_cases c14 : eqI x11.2.2.2 0 = true
              · rw [if_pos c14] at h
                obtain ⟨x14, e15, h⟩ := Option.bind_eq_some_iff.1 h
                by_cases c16 : x14 = true
                · rw [if_pos c16] at h
                  by_cases c17 : eqI x8.2.2 0 = true
                  · rw [if_pos c17] at h
                    obtain rfl := Option.some.inj h
                    exact Tri.of (x := X9) mixed facts9 [.call ⟨true, []⟩ (.bool x5) [], .d false, .n x2.length, .d false, .d false, .call ⟨true, []⟩ (.bool x6) [], .d false, .d false, .d false, .d false, .d false, .d false, .d false, .call ⟨true, []⟩ (.agg [(.int .i64 x7.1), (.sl 2 (List.map e_i64_i64 x7.2))]) [], .call ⟨true, []⟩ (.tup [(.agg [(.int .i64 x8.1), (.sl 2 (List.map e_i64_i64 x8.2.1))]), (.int .i64 x8.2.2)]) [], .call ⟨true, []⟩ (.tup [(.agg [(.int .i64 x9.1), (.sl 2 (List.map e_i64_i64 x9.2.1))]), (.sl 1 (List.map e_i64 x9.2.2.1)), (.int .i64 x9.2.2.2)]) [], .call ⟨true, []⟩ (.agg [(.int .i64 x10.1), (.sl 2 (List.map e_i64_i64 x10.2))]) [], .call ⟨true, []⟩ (.tup [(.agg [(.int .i64 x11.1), (.sl 2 (List.map e_i64_i64 x11.2.1))]), (.sl 1 (List.map e_i64 x11.2.2.1)), (.int .i64 x11.2.2.2)]) [], .n x11.2.2.1.length, .norm 2 ⟨[(1, []), (8, []), (10, []), (11, []), (14, []), (15, []), (58, []), (59, []), (60, [])], [⟨.tmp 15, [], some 1⟩], false, [], []⟩, .n 0, .rows (List.map e_i64 []), .out (.st .normal (E9_0_0 x8 x9 x11 x13)), .d true, .d true, .d true, .d true, .d true, .d true, .call ⟨true, []⟩ (.bool x14) [], .rows (List.map e_i64 x13), .d true, .d true, .d true, .d true, .d true, .d true, .d true, .d true, .d true] [⟨c16⟩, ⟨c17⟩, ⟨c16⟩, ⟨c17⟩, ⟨c17⟩, ⟨c16⟩, ⟨c16⟩, ⟨c16⟩, ⟨c14⟩, ⟨(ok_law06_same k x9.2.2.1 x13 _ e15)⟩, ⟨(part_all e_i64 (l := x13) (n := x13.length) rfl)⟩, ⟨(le_map e_i64 (Nat.le_refl x13.length) : 0 + x13.length ≤ (List.map e_i64 x13).length)⟩, ⟨c14⟩, ⟨c14⟩, ⟨c14⟩, ⟨c13⟩, ⟨c13⟩, ⟨c13⟩, ⟨(LT.block (ok_law06_WheelStops_l0 x3 x8 x9 x11 _ k 0 [] e11))⟩, ⟨(take_all e_i64 (l := []) (n := 0) rfl)⟩, ⟨(rfl : 0 = 0)⟩, ⟨(zle 0)⟩, ⟨(len_map e_i64 x11.2.2.1)⟩, ⟨(ok_wheel_Tick k x10.1 x10.2 (conv .i64 x4) _ e10)⟩, ⟨(ok_law06_Theirs k x1 x2 _ e9)⟩, ⟨(ok_wheel_Tick k x8.1 x8.2.1 (conv .i64 x4) _ e8)⟩, ⟨(ok_wheel_Stop k x7.1 x7.2 x3 _ e7)⟩, ⟨(ok_law06_Theirs k x1 x2 _ e6)⟩, ⟨c5⟩, ⟨(nF c4)⟩, ⟨(nF c4)⟩, ⟨(nF c4)⟩, ⟨(nF c4)⟩, ⟨c2⟩, ⟨c2⟩, ⟨(ok_ref06_Right k x1 x2 _ e3)⟩, ⟨c2⟩, ⟨c2⟩, ⟨(len_map e_i64_i64 x2)⟩, ⟨(nF c1)⟩, ⟨(ok_law06_alive k _ e0)⟩] (by kernel_rfl)
                  · rw [if_neg c17] at h
                    replace c17 := eqf c17
                    obtain rfl := Option.some.inj h
                    exact Tri.of (x := X9) mixed facts9 [.call ⟨true, []⟩ (.bool x5) [], .d false, .n x2.length, .d false, .d false, .call ⟨true, []⟩ (.bool x6) [], .d false, .d false, .d false, .d false, .d false, .d false, .d false, .call ⟨true, []⟩ (.agg [(.int .i64 x7.1), (.sl 2 (List.map e_i64_i64 x7.2))]) [], .call ⟨true, []⟩ (.tup [(.agg [(.int .i64 x8.1), (.sl 2 (List.map e_i64_i64 x8.2.1))]), (.int .i64 x8.2.2)]) [], .call ⟨true, []⟩ (.tup [(.agg [(.int .i64 x9.1), (.sl 2 (List.map e_i64_i64 x9.2.1))]), (.sl 1 (List.map e_i64 x9.2.2.1)), (.int .i64 x9.2.2.2)]) [], .call ⟨true, []⟩ (.agg [(.int .i64 x10.1), (.sl 2 (List.map e_i64_i64 x10.2))]) [], .call ⟨true, []⟩ (.tup [(.agg [(.int .i64 x11.1), (.sl 2 (List.map e_i64_i64 x11.2.1))]), (.sl 1 (List.map e_i64 x11.2.2.1)), (.int .i64 x11.2.2.2)]) [], .n x11.2.2.1.length, .norm 2 ⟨[(1, []), (8, []), (10, []), (11, []), (14, []), (15, []), (58, []), (59, []), (60, [])], [⟨.tmp 15, [], some 1⟩], false, [], []⟩, .n 0, .rows (List.map e_i64 []), .out (.st .normal (E9_0_0 x8 x9 x11 x13)), .d true, .d true, .d true, .d true, .d true, .d true, .call ⟨true, []⟩ (.bool x14) [], .rows (List.map e_i64 x13), .d true, .d true, .d true, .d true, .d false, .d false, .d true, .d false, .d true] [⟨c16⟩, ⟨c17⟩, ⟨c16⟩, ⟨c17⟩, ⟨c17⟩, ⟨c16⟩, ⟨c16⟩, ⟨c16⟩, ⟨c14⟩, ⟨(ok_law06_same k x9.2.2.1 x13 _ e15)⟩, ⟨(part_all e_i64 (l := x13) (n := x13.length) rfl)⟩, ⟨(le_map e_i64 (Nat.le_refl x13.length) : 0 + x13.length ≤ (List.map e_i64 x13).length)⟩, ⟨c14⟩, ⟨c14⟩, ⟨c14⟩, ⟨c13⟩, ⟨c13⟩, ⟨c13⟩, ⟨(LT.block (ok_law06_WheelStops_l0 x3 x8 x9 x11 _ k 0 [] e11))⟩, ⟨(take_all e_i64 (l := []) (n := 0) rfl)⟩, ⟨(rfl : 0 = 0)⟩, ⟨(zle 0)⟩, ⟨(len_map e_i64 x11.2.2.1)⟩, ⟨(ok_wheel_Tick k x10.1 x10.2 (conv .i64 x4) _ e10)⟩, ⟨(ok_law06_Theirs k x1 x2 _ e9)⟩, ⟨(ok_wheel_Tick k x8.1 x8.2.1 (conv .i64 x4) _ e8)⟩, ⟨(ok_wheel_Stop k x7.1 x7.2 x3 _ e7)⟩, ⟨(ok_law06_Theirs k x1 x2 _ e6)⟩, ⟨c5⟩, ⟨(nF c4)⟩, ⟨(nF c4)⟩, ⟨(nF c4)⟩, ⟨(nF c4)⟩, ⟨c2⟩, ⟨c2⟩, ⟨(ok_ref06_Right k x1 x2 _ e3)⟩, ⟨c2⟩, ⟨c2⟩, ⟨(len_map e_i64_i64 x2)⟩, ⟨(nF c1)⟩, ⟨(ok_law06_alive k _ e0)⟩] (by kernel_rfl)
                · rw [if_neg c16] at h
                  replace c16 := eqf c16
                  obtain rfl := Option.some.inj h
                  exact Tri.of (x := X9) mixed facts9 [.call ⟨true, []⟩ (.bool x5) [], .d false, .n x2.length, .d false, .d false, .call ⟨true, []⟩ (.bool x6) [], .d false, .d false, .d false, .d false, .d false, .d false, .d false, .call ⟨true, []⟩ (.agg [(.int .i64 x7.1), (.sl 2 (List.map e_i64_i64 x7.2))]) [], .call ⟨true, []⟩ (.tup [(.agg [(.int .i64 x8.1), (.sl 2 (List.map e_i64_i64 x8.2.1))]), (.int .i64 x8.2.2)]) [], .call ⟨true, []⟩ (.tup [(.agg [(.int .i64 x9.1), (.sl 2 (List.map e_i64_i64 x9.2.1))]), (.sl 1 (List.map e_i64 x9.2.2.1)), (.int .i64 x9.2.2.2)]) [], .call ⟨true, []⟩ (.agg [(.int .i64 x10.1), (.sl 2 (List.map e_i64_i64 x10.2))]) [], .call ⟨true, []⟩ (.tup [(.agg [(.int .i64 x11.1), (.sl 2 (List.map e_i64_i64 x11.2.1))]), (.sl 1 (List.map e_i64 x11.2.2.1)), (.int .i64 x11.2.2.2)]) [], .n x11.2.2.1.length, .norm 2 ⟨[(1, []), (8, []), (10, []), (11, []), (14, []), (15, []), (58, []), (59, []), (60, [])], [⟨.tmp 15, [], some 1⟩], false, [], []⟩, .n 0, .rows (List.map e_i64 []), .out (.st .normal (E9_0_0 x8 x9 x11 x13)), .d true, .d true, .d true, .d true, .d true, .d true, .call ⟨true, []⟩ (.bool x14) [], .rows (List.map e_i64 x13), .d true, .d false, .d false, .d false, .d false, .d false] [⟨c16⟩, ⟨c16⟩, ⟨c16⟩, ⟨c16⟩, ⟨c16⟩, ⟨c14⟩, ⟨(ok_law06_same k x9.2.2.1 x13 _ e15)⟩, ⟨(part_all e_i64 (l := x13) (n := x13.length) rfl)⟩, ⟨(le_map e_i64 (Nat.le_refl x13.length) : 0 + x13.length ≤ (List.map e_i64 x13).length)⟩, ⟨c14⟩, ⟨c14⟩, ⟨c14⟩, ⟨c13⟩, ⟨c13⟩, ⟨c13⟩, ⟨(LT.block (ok_law06_WheelStops_l0 x3 x8 x9 x11 _ k 0 [] e11))⟩, ⟨(take_all e_i64 (l := []) (n := 0) rfl)⟩, ⟨(rfl : 0 = 0)⟩, ⟨(zle 0)⟩, ⟨(len_map e_i64 x11.2.2.1)⟩, ⟨(ok_wheel_Tick k x10.1 x10.2 (conv .i64 x4) _ e10)⟩, ⟨(ok_law06_Theirs k x1 x2 _ e9)⟩, ⟨(ok_wheel_Tick k x8.1 x8.2.1 (conv .i64 x4) _ e8)⟩, ⟨(ok_wheel_Stop k x7.1 x7.2 x3 _ e7)⟩, ⟨(ok_law06_Theirs k x1 x2 _ e6)⟩, ⟨c5⟩, ⟨(nF c4)⟩, ⟨(nF c4)⟩, ⟨(nF c4)⟩, ⟨(nF c4)⟩, ⟨c2⟩, ⟨c2⟩, ⟨(ok_ref06_Right k x1 x2 _ e3)⟩, ⟨c2⟩, ⟨c2⟩, ⟨(len_map e_i64_i64 x2)⟩, ⟨(nF c1)⟩, ⟨(ok_law06_alive k _ e0)⟩] (by kernel_rfl)
              · rw [if_neg c14] at h
                replace c14 := eqf c14
                obtain rfl := Option.some.inj h
                exact Tri.of (x := X9) mixed facts9 [.call ⟨true, []⟩ (.bool x5) [], .d false, .n x2.length, .d false, .d false, .call ⟨true, []⟩ (.bool x6) [], .d false, .d false, .d false, .d false, .d false, .d false, .d false, .call ⟨true, []⟩ (.agg [(.int .i64 x7.1), (.sl 2 (List.map e_i64_i64 x7.2))]) [], .call ⟨true, []⟩ (.tup [(.agg [(.int .i64 x8.1), (.sl 2 (List.map e_i64_i64 x8.2.1))]), (.int .i64 x8.2.2)]) [], .call ⟨true, []⟩ (.tup [(.agg [(.int .i64 x9.1), (.sl 2 (List.map e_i64_i64 x9.2.1))]), (.sl 1 (List.map e_i64 x9.2.2.1)), (.int .i64 x9.2.2.2)]) [], .call ⟨true, []⟩ (.agg [(.int .i64 x10.1), (.sl 2 (List.map e_i64_i64 x10.2))]) [], .call ⟨true, []⟩ (.tup [(.agg [(.int .i64 x11.1), (.sl 2 (List.map e_i64_i64 x11.2.1))]), (.sl 1 (List.map e_i64 x11.2.2.1)), (.int .i64 x11.2.2.2)]) [], .n x11.2.2.1.length, .norm 2 ⟨[(1, []), (8, []), (10, []), (11, []), (14, []), (15, []), (58, []), (59, []), (60, [])], [⟨.tmp 15, [], some 1⟩], false, [], []⟩, .n 0, .rows (List.map e_i64 []), .out (.st .normal (E9_0_0 x8 x9 x11 x13)), .d true, .d true, .d true, .d false, .d false, .d false, .d false, .d false, .d false, .d false, .d false, .d false] [⟨(rfl : false = false)⟩, ⟨(rfl : false = false)⟩, ⟨(rfl : false = false)⟩, ⟨(rfl : false = false)⟩, ⟨(rfl : false = false)⟩, ⟨c14⟩, ⟨c14⟩, ⟨c14⟩, ⟨c14⟩, ⟨c13⟩, ⟨c13⟩, ⟨c13⟩, ⟨(LT.block (ok_law06_WheelStops_l0 x3 x8 x9 x11 _ k 0 [] e11))⟩, ⟨(take_all e_i64 (l := []) (n := 0) rfl)⟩, ⟨(rfl : 0 = 0)⟩, ⟨(zle 0)⟩, ⟨(len_map e_i64 x11.2.2.1)⟩, ⟨(ok_wheel_Tick k x10.1 x10.2 (conv .i64 x4) _ e10)⟩, ⟨(ok_law06_Theirs k x1 x2 _ e9)⟩, ⟨(ok_wheel_Tick k x8.1 x8.2.1 (conv .i64 x4) _ e8)⟩, ⟨(ok_wheel_Stop k x7.1 x7.2 x3 _ e7)⟩, ⟨(ok_law06_Theirs k x1 x2 _ e6)⟩, ⟨c5⟩, ⟨(nF c4)⟩, ⟨(nF c4)⟩, ⟨(nF c4)⟩, ⟨(nF c4)⟩, ⟨c2⟩, ⟨c2⟩, ⟨(ok_ref06_Right k x1 x2 _ e3)⟩, ⟨c2⟩, ⟨c2⟩, ⟨(len_map e_i64_i64 x2)⟩, ⟨(nF c1)⟩, ⟨(ok_law06_alive k _ e0)⟩] (by kernel_rfl)
            · rw [if_neg c13] at h
              replace c13 := eqf c13
              obtain rfl := Option.some.inj h
              exact Tri.of (x := X9) mixed facts9 [.call ⟨true, []⟩ (.bool x5) [], .d false, .n x2.length, .d false, .d false, .call ⟨true, []⟩ (.bool x6) [], .d false, .d false, .d false, .d false, .d false, .d false, .d false, .call ⟨true, []⟩ (.agg [(.int .i64 x7.1), (.sl 2 (List.map e_i64_i64 x7.2))]) [], .call ⟨true, []⟩ (.tup [(.agg [(.int .i64 x8.1), (.sl 2 (List.map e_i64_i64 x8.2.1))]), (.int .i64 x8.2.2)]) [], .call ⟨true, []⟩ (.tup [(.agg [(.int .i64 x9.1), (.sl 2 (List.map e_i64_i64 x9.2.1))]), (.sl 1 (List.map e_i64 x9.2.2.1)), (.int .i64 x9.2.2.2)]) [], .call ⟨true, []⟩ (.agg [(.int .i64 x10.1), (.sl 2 (List.map e_i64_i64 x10.2))]) [], .call ⟨true, []⟩ (.tup [(.agg [(.int .i64 x11.1), (.sl 2 (List.map e_i64_i64 x11.2.1))]), (.sl 1 (List.map e_i64 x11.2.2.1)), (.int .i64 x11.2.2.2)]) [], .n x11.2.2.1.length, .norm 2 ⟨[(1, []), (8, []), (10, []), (11, []), (14, []), (15, []), (58, []), (59, []), (60, [])], [⟨.tmp 15, [], some 1⟩], false, [], []⟩, .n 0, .rows (List.map e_i64 []), .out (.st .normal (E9_0_0 x8 x9 x11 x13)), .d false, .d false, .d false, .d false, .d false, .d false, .d false, .d false, .d false, .d false, .d false, .d false] [⟨(rfl : false = false)⟩, ⟨(rfl : false = false)⟩, ⟨(rfl : false = false)⟩, ⟨(rfl : false = false)⟩, ⟨(rfl : false = false)⟩, ⟨(rfl : false = false)⟩, ⟨(rfl : false = false)⟩, ⟨(rfl : false = false)⟩, ⟨(rfl : false = false)⟩, ⟨c13⟩, ⟨c13⟩, ⟨c13⟩, ⟨(LT.block (ok_law06_WheelStops_l0 x3 x8 x9 x11 _ k 0 [] e11))⟩, ⟨(take_all e_i64 (l := []) (n := 0) rfl)⟩, ⟨(rfl : 0 = 0)⟩, ⟨(zle 0)⟩, ⟨(len_map e_i64 x11.2.2.1)⟩, ⟨(ok_wheel_Tick k x10.1 x10.2 (conv .i64 x4) _ e10)⟩, ⟨(ok_law06_Theirs k x1 x2 _ e9)⟩, ⟨(ok_wheel_Tick k x8.1 x8.2.1 (conv .i64 x4) _ e8)⟩, ⟨(ok_wheel_Stop k x7.1 x7.2 x3 _ e7)⟩, ⟨(ok_law06_Theirs k x1 x2 _ e6)⟩, ⟨c5⟩, ⟨(nF c4)⟩, ⟨(nF c4)⟩, ⟨(nF c4)⟩, ⟨(nF c4)⟩, ⟨c2⟩, ⟨c2⟩, ⟨(ok_ref06_Right k x1 x2 _ e3)⟩, ⟨c2⟩, ⟨c2⟩, ⟨(len_map e_i64_i64 x2)⟩, ⟨(nF c1)⟩, ⟨(ok_law06_alive k _ e0)⟩] (by kernel_rfl)
        · rw [if_neg c4] at h
          replace c4 := eqf c4
          obtain rfl := Option.some.inj h
          exact Tri.of (x := X9) mixed facts9 [.call ⟨true, []⟩ (.bool x5) [], .d false, .n x2.length, .d false, .d false, .call ⟨true, []⟩ (.bool x6) [], .d false, .d false, .d true, .d true, .d true, .d true, .d true] [⟨(rfl : true = true)⟩, ⟨(nT c4)⟩, ⟨(nT c4)⟩, ⟨(nT c4)⟩, ⟨(nT c4)⟩, ⟨c2⟩, ⟨c2⟩, ⟨(ok_ref06_Right k x1 x2 _ e3)⟩, ⟨c2⟩, ⟨c2⟩, ⟨(len_map e_i64_i64 x2)⟩, ⟨(nF c1)⟩, ⟨(ok_law06_alive k _ e0)⟩] (by kernel_rfl)
    · rw [if_neg c1] at h
      replace c1 := eqf c1
      obtain rfl := Option.some.inj h
      exact Tri.of (x := X9) mixed facts9 [.call ⟨true, []⟩ (.bool x5) [], .d true] [⟨(nT c1)⟩, ⟨(ok_law06_alive k _ e0)⟩] (by kernel_rfl)
end Go.Ws
