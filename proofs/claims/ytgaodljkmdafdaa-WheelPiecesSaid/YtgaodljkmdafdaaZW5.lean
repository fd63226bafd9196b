/-
  law06_WheelPieces: what the machine makes of it. (Printed by my own program.)
  Conditions: none.
-/
import Derived.Test.YtgaodljkmdafdaaZPre
import Derived.Test.YtgaodljkmdafdaaZPure
import Derived.Test.YtgaodljkmdafdaaZW10
import Derived.Test.YtgaodljkmdafdaaZW12
import Derived.Test.YtgaodljkmdafdaaZW16
import Derived.Test.YtgaodljkmdafdaaZW19
import Derived.Test.YtgaodljkmdafdaaZW21
import Derived.Test.YtgaodljkmdafdaaZW22
import Derived.Test.YtgaodljkmdafdaaZW23
set_option linter.unusedVariables false
set_option linter.unusedSimpArgs false
namespace Go.Ws
open Go.Proofs
set_option linter.unusedSimpArgs false
set_option linter.unusedVariables false
set_option maxRecDepth 1000000
set_option maxHeartbeats 4000000
noncomputable def X5 : Ctx := ⟨Try.f5, [], true⟩
noncomputable def L5_0 : Code := at_ Try.f5 [1, 1, 1, 1, 1, 1, 0, 1, 4, 5]
def S5_0 (x1 : Int) (x2 : List (Int × Int)) (x3 : List Int) (v5001_1 : Int) (v5001_2 : Int) (v5001_3 : Int) (v5001_4 : List (Int × Int)) (v5001_5 : List Int) : St := ⟨mkT 88 [(2, (.hp 0 0)), (5, (.hp 1 0)), (6, (.ref 1 2 0 0 v5001_5.length .virt)), (7, (.int .i64 v5001_1)), (34, (.sl 1 (List.map e_u16 x3))), (35, (.int .i64 (nI x3.length))), (36, (.int .i64 v5001_2))], [(.row [(.int .i64 x1), (.sl 2 (List.map e_i64_i64 x2))]), (.row [(.int .i64 v5001_3), (.sl 2 (List.map e_i64_i64 v5001_4))]), (.arr 1 (List.map e_i64 v5001_5) 0 0 false)]⟩
def E5_0_0 (x1 : Int) (x2 : List (Int × Int)) (v5002_1 : Int) (v5002_2 : Int) (v5002_3 : List (Int × Int)) (v5002_4 : List Int) : St := ⟨mkT 88 [(2, (.hp 0 0)), (5, (.hp 1 0)), (6, (.ref 1 2 0 0 v5002_4.length .virt)), (7, (.int .i64 v5002_1))], [(.row [(.int .i64 x1), (.sl 2 (List.map e_i64_i64 x2))]), (.row [(.int .i64 v5002_2), (.sl 2 (List.map e_i64_i64 v5002_3))]), (.arr 1 (List.map e_i64 v5002_4) 0 0 false)]⟩
def O5_0 (x1 : Int) (x2 : List (Int × Int)) (x3 : List Int) (y : (Sum (Int × Int × (List (Int × Int)) × (List Int)) (Bool))) : GX := match y with
  | .inl y => .st (.exit 0) (E5_0_0 x1 x2 y.1 y.2.1 y.2.2.1 y.2.2.2)
  | .inr y => .fin (.bool y) []
theorem ok_law06_WheelPieces_l0 (x1 : Int) (x2 : List (Int × Int)) (x3 : List Int) (y : (Sum (Int × Int × (List (Int × Int)) × (List Int)) (Bool))) : ∀ (k : Nat) (v5001_1 : Int) (v5001_2 : Int) (v5001_3 : Int) (v5001_4 : List (Int × Int)) (v5001_5 : List Int), law06_WheelPieces_l0 k x1 x2 x3 v5001_1 v5001_2 v5001_3 v5001_4 v5001_5 = some y → LT Try.prog X5 L5_0 (S5_0 x1 x2 x3 v5001_1 v5001_2 v5001_3 v5001_4 v5001_5) (O5_0 x1 x2 x3 y)
  | 0, v5001_1, v5001_2, v5001_3, v5001_4, v5001_5, h => by cases h
  | k + 1, v5001_1, v5001_2, v5001_3, v5001_4, v5001_5, h => by
    rw [law06_WheelPieces_l0] at h
    by_cases cL0 : ltI v5001_2 (nI x3.length) = true
    · rw [if_pos cL0] at h
      by_cases cL1 : inI v5001_2 x3.length = true
      · rw [if_pos cL1] at h
        obtain ⟨v5000_1, eL2, h⟩ := Option.bind_eq_some_iff.1 h
        obtain ⟨v5000_2, eL3, h⟩ := Option.bind_eq_some_iff.1 h
        by_cases cL4 : eqI v5000_2.2.2.2 0 = true
        · rw [if_pos cL4] at h
          by_cases cL5 : roomI (((v5001_5 ++ v5000_2.2.2.1).length) * 8) = true
          · rw [if_pos cL5] at h
            exact LT.next mixed (hs := ⟨[(2, []), (5, []), (6, []), (7, []), (34, []), (35, []), (36, [])], [⟨.tmp 2, [], none⟩, ⟨.tmp 5, [], none⟩, ⟨.tmp 6, [], some 1⟩], false, [], []⟩) (es := none) [.d true, .n x3.length, .row [(.int .u16 v5000_1)], .call ⟨true, []⟩ (.tup [(.agg [(.int .i64 v5000_2.1), (.sl 2 (List.map e_i64_i64 v5000_2.2.1))]), (.sl 1 (List.map e_i64 v5000_2.2.2.1)), (.int .i64 v5000_2.2.2.2)]) [], .d false, .n ((v5001_5 ++ v5000_2.2.2.1).length), .n v5001_5.length, .d true, .rows (List.map e_i64 (v5001_5 ++ v5000_2.2.2.1)), .n ((v5001_5 ++ v5000_2.2.2.1).length), .rows (List.map e_i64 (v5001_5 ++ v5000_2.2.2.1))] [⟨(take_all e_i64 (l := (v5001_5 ++ v5000_2.2.2.1)) (n := ((v5001_5 ++ v5000_2.2.2.1).length)) rfl)⟩, ⟨(rfl : (v5001_5 ++ v5000_2.2.2.1).length = (v5001_5 ++ v5000_2.2.2.1).length)⟩, ⟨(zle ((v5001_5 ++ v5000_2.2.2.1).length))⟩, ⟨(app_map e_i64 v5001_5 v5000_2.2.2.1)⟩, ⟨(eqN_self v5001_5.length)⟩, ⟨(len_map e_i64 v5001_5)⟩, ⟨cL5⟩, ⟨(by simp only [List.length_append, List.length_cons, List.length_nil, List.length_take, List.length_drop, List.length_set, List.length_replicate, List.length_map, List.map_nil, List.map_cons] <;> omega : v5001_5.length + (List.map e_i64 v5000_2.2.2.1).length = (v5001_5 ++ v5000_2.2.2.1).length)⟩, ⟨(nF cL4)⟩, ⟨(ok_wheel_Tick k v5001_3 v5001_4 (conv .i64 v5000_1) _ eL3)⟩, ⟨(cells_map (e := e_u16) eL2 1 0 1 (by decide))⟩, ⟨cL1⟩, ⟨(len_map e_u16 x3)⟩, ⟨cL0⟩] (by kernel_rfl) (ok_law06_WheelPieces_l0 x1 x2 x3 y k (iadd .i64 v5001_1 (conv .i64 v5000_1)) (iadd .i64 v5001_2 1) v5000_2.1 v5000_2.2.1 (v5001_5 ++ v5000_2.2.2.1) h)
          · rw [if_neg cL5] at h
            replace cL5 := eqf cL5
            cases h
        · rw [if_neg cL4] at h
          replace cL4 := eqf cL4
          by_cases cL5 : eqI v5000_2.2.2.2 3 = true
          · rw [if_pos cL5] at h
            obtain rfl := Option.some.inj h
            show LT _ _ _ _ (.fin (.bool (eqI (nI v5000_2.2.2.1.length) 0)) [])
            exact LT.done mixed (hs := ⟨[], [], false, [], []⟩) (es := none) [.d true, .n x3.length, .row [(.int .u16 v5000_1)], .call ⟨true, []⟩ (.tup [(.agg [(.int .i64 v5000_2.1), (.sl 2 (List.map e_i64_i64 v5000_2.2.1))]), (.sl 1 (List.map e_i64 v5000_2.2.2.1)), (.int .i64 v5000_2.2.2.2)]) [], .d true, .d true, .d true, .n v5000_2.2.2.1.length, .d true, .d true] [⟨cL5⟩, ⟨cL5⟩, ⟨(len_map e_i64 v5000_2.2.2.1)⟩, ⟨cL5⟩, ⟨cL5⟩, ⟨(nT cL4)⟩, ⟨(ok_wheel_Tick k v5001_3 v5001_4 (conv .i64 v5000_1) _ eL3)⟩, ⟨(cells_map (e := e_u16) eL2 1 0 1 (by decide))⟩, ⟨cL1⟩, ⟨(len_map e_u16 x3)⟩, ⟨cL0⟩] (by kernel_rfl) (fun s h => by cases h)
          · rw [if_neg cL5] at h
            replace cL5 := eqf cL5
            obtain rfl := Option.some.inj h
            show LT _ _ _ _ (.fin (.bool false) [])
            exact LT.done mixed (hs := ⟨[], [], false, [], []⟩) (es := none) [.d true, .n x3.length, .row [(.int .u16 v5000_1)], .call ⟨true, []⟩ (.tup [(.agg [(.int .i64 v5000_2.1), (.sl 2 (List.map e_i64_i64 v5000_2.2.1))]), (.sl 1 (List.map e_i64 v5000_2.2.2.1)), (.int .i64 v5000_2.2.2.2)]) [], .d true, .d false, .d false, .d false, .d false] [⟨cL5⟩, ⟨cL5⟩, ⟨cL5⟩, ⟨cL5⟩, ⟨(nT cL4)⟩, ⟨(ok_wheel_Tick k v5001_3 v5001_4 (conv .i64 v5000_1) _ eL3)⟩, ⟨(cells_map (e := e_u16) eL2 1 0 1 (by decide))⟩, ⟨cL1⟩, ⟨(len_map e_u16 x3)⟩, ⟨cL0⟩] (by kernel_rfl) (fun s h => by cases h)
      · rw [if_neg cL1] at h
        replace cL1 := eqf cL1
        cases h
    · rw [if_neg cL0] at h
      replace cL0 := eqf cL0
      obtain rfl := Option.some.inj h
      show LT _ _ _ _ (.st (.exit 0) (E5_0_0 x1 x2 v5001_1 v5001_3 v5001_4 v5001_5))
      exact LT.done mixed (hs := ⟨[], [], false, [], []⟩) (es := (some ⟨[(2, []), (5, []), (6, []), (7, [])], [⟨.tmp 2, [], none⟩, ⟨.tmp 5, [], none⟩, ⟨.tmp 6, [], none⟩], false, [], []⟩)) [.d false] [⟨cL0⟩] (by kernel_rfl) (fun s h => by cases h)
theorem ok_law06_WheelPieces (k : Nat) (x1 : Int) (x2 : List (Int × Int)) (x3 : List Int) (r : Bool) (h : law06_WheelPieces k x1 x2 x3 = some r) : Tri Try.prog 5 [(.agg [(.int .i64 x1), (.sl 2 (List.map e_i64_i64 x2))]), (.sl 1 (List.map e_u16 x3))] [] (.bool r) [] := by
    unfold law06_WheelPieces at h
    obtain ⟨x4, e0, h⟩ := Option.bind_eq_some_iff.1 h
    by_cases c1 : x4 = true
    · rw [if_pos c1] at h
      by_cases c2 : ltI 100 (nI x2.length) = true
      · rw [if_pos c2] at h
        obtain rfl := Option.some.inj h
        exact Tri.of (x := X5) mixed facts5 [.call ⟨true, []⟩ (.bool x4) [], .d false, .n x2.length, .d true, .d true, .d true, .d true, .d true, .d true, .d true, .d true, .d true] [⟨(rfl : true = true)⟩, ⟨(rfl : true = true)⟩, ⟨(rfl : true = true)⟩, ⟨(rfl : true = true)⟩, ⟨(rfl : true = true)⟩, ⟨c2⟩, ⟨c2⟩, ⟨c2⟩, ⟨c2⟩, ⟨(len_map e_i64_i64 x2)⟩, ⟨(nF c1)⟩, ⟨(ok_law06_alive k _ e0)⟩] (by kernel_rfl)
      · rw [if_neg c2] at h
        replace c2 := eqf c2
        by_cases c3 : ltI 100 (nI x3.length) = true
        · rw [if_pos c3] at h
          obtain rfl := Option.some.inj h
          exact Tri.of (x := X5) mixed facts5 [.call ⟨true, []⟩ (.bool x4) [], .d false, .n x2.length, .d false, .d false, .n x3.length, .d false, .d false, .d true, .d true, .d true, .d true, .d true] [⟨(rfl : true = true)⟩, ⟨c3⟩, ⟨c3⟩, ⟨c3⟩, ⟨c3⟩, ⟨c2⟩, ⟨c2⟩, ⟨(len_map e_u16 x3)⟩, ⟨c2⟩, ⟨c2⟩, ⟨(len_map e_i64_i64 x2)⟩, ⟨(nF c1)⟩, ⟨(ok_law06_alive k _ e0)⟩] (by kernel_rfl)
        · rw [if_neg c3] at h
          replace c3 := eqf c3
          obtain ⟨x5, e4, h⟩ := Option.bind_eq_some_iff.1 h
          by_cases c5 : x5 = true
          · rw [if_pos c5] at h
            obtain ⟨x6, e6, h⟩ := Option.bind_eq_some_iff.1 h
            obtain ⟨x7, e7, h⟩ := Option.bind_eq_some_iff.1 h
            cases x7 with
            | inl x8 =>
              simp only [Sum.elim_inl] at h
              obtain ⟨x9, e9, h⟩ := Option.bind_eq_some_iff.1 h
              obtain ⟨x10, e10, h⟩ := Option.bind_eq_some_iff.1 h
              by_cases c11 : eqI x10.2.2.2 0 = true
              · rw [if_pos c11] at h
                obtain ⟨x11, e12, h⟩ := Option.bind_eq_some_iff.1 h
                by_cases c13 : x11 = true
                · rw [if_pos c13] at h
                  obtain ⟨x12, e14, h⟩ := Option.bind_eq_some_iff.1 h
                  obtain ⟨x13, e15, h⟩ := Option.bind_eq_some_iff.1 h
                  obtain ⟨x14, e16, h⟩ := Option.bind_eq_some_iff.1 h
                  obtain rfl := Option.some.inj h
                  exact Tri.of (x := X5) mixed facts5 [.call ⟨true, []⟩ (.bool x4) [], .d false, .n x2.length, .d false, .d false, .n x3.length, .d false, .d false, .d false, .d false, .call ⟨true, []⟩ (.bool x5) [], .d false, .d false, .d false, .call ⟨true, []⟩ (.agg [(.int .i64 x6.1), (.sl 2 (List.map e_i64_i64 x6.2))]) [], .n x3.length, .norm 2 ⟨[(2, []), (5, []), (6, []), (7, []), (34, []), (35, []), (36, [])], [⟨.tmp 2, [], none⟩, ⟨.tmp 5, [], none⟩, ⟨.tmp 6, [], some 1⟩], false, [], []⟩, .n 0, .rows (List.map e_i64 []), .out (.st .normal (E5_0_0 x1 x2 x8.1 x8.2.1 x8.2.2.1 x8.2.2.2)), .call ⟨true, []⟩ (.agg [(.int .i64 x9.1), (.sl 2 (List.map e_i64_i64 x9.2))]) [], .call ⟨true, []⟩ (.tup [(.agg [(.int .i64 x10.1), (.sl 2 (List.map e_i64_i64 x10.2.1))]), (.sl 1 (List.map e_i64 x10.2.2.1)), (.int .i64 x10.2.2.2)]) [], .d true, .d true, .d true, .call ⟨true, []⟩ (.bool x11) [], .rows (List.map e_i64 x8.2.2.2), .d true, .d true, .d true, .call ⟨true, []⟩ (.agg [(.int .i64 x12.1), (.sl 2 (List.map e_i64_i64 x12.2))]) [], .d true, .d true, .call ⟨true, []⟩ (.agg [(.int .i64 x13.1), (.sl 2 (List.map e_i64_i64 x13.2))]) [], .d true, .call ⟨true, []⟩ (.bool x14) [], .d true] [⟨c13⟩, ⟨(ok_ref06_Same k x12.1 x12.2 x13.1 x13.2 _ e16)⟩, ⟨c13⟩, ⟨(ok_law06_Ours k x10.1 x10.2.1 _ e15)⟩, ⟨c13⟩, ⟨c13⟩, ⟨(ok_law06_Ours k x8.2.1 x8.2.2.1 _ e14)⟩, ⟨c13⟩, ⟨c13⟩, ⟨c11⟩, ⟨(ok_law06_same k x10.2.2.1 x8.2.2.2 _ e12)⟩, ⟨(part_all e_i64 (l := x8.2.2.2) (n := x8.2.2.2.length) rfl)⟩, ⟨(le_map e_i64 (Nat.le_refl x8.2.2.2.length) : 0 + x8.2.2.2.length ≤ (List.map e_i64 x8.2.2.2).length)⟩, ⟨c11⟩, ⟨c11⟩, ⟨c11⟩, ⟨(ok_wheel_Tick k x9.1 x9.2 x8.1 _ e10)⟩, ⟨(ok_law06_Theirs k x1 x2 _ e9)⟩, ⟨(LT.block (ok_law06_WheelPieces_l0 x1 x2 x3 _ k 0 0 x6.1 x6.2 [] e7))⟩, ⟨(take_all e_i64 (l := []) (n := 0) rfl)⟩, ⟨(rfl : 0 = 0)⟩, ⟨(zle 0)⟩, ⟨(len_map e_u16 x3)⟩, ⟨(ok_law06_Theirs k x1 x2 _ e6)⟩, ⟨(nF c5)⟩, ⟨c3⟩, ⟨c3⟩, ⟨(ok_ref06_Right k x1 x2 _ e4)⟩, ⟨c3⟩, ⟨c3⟩, ⟨c2⟩, ⟨c2⟩, ⟨(len_map e_u16 x3)⟩, ⟨c2⟩, ⟨c2⟩, ⟨(len_map e_i64_i64 x2)⟩, ⟨(nF c1)⟩, ⟨(ok_law06_alive k _ e0)⟩] (by kernel_rfl)
                · rw [if_neg c13] at h
                  replace c13 := eqf c13
                  obtain rfl := Option.some.inj h
                  exact Tri.of (x := X5) mixed facts5 [.call ⟨true, []⟩ (.bool x4) [], .d false, .n x2.length, .d false, .d false, .n x3.length, .d false, .d false, .d false, .d false, .call ⟨true, []⟩ (.bool x5) [], .d false, .d false, .d false, .call ⟨true, []⟩ (.agg [(.int .i64 x6.1), (.sl 2 (List.map e_i64_i64 x6.2))]) [], .n x3.length, .norm 2 ⟨[(2, []), (5, []), (6, []), (7, []), (34, []), (35, []), (36, [])], [⟨.tmp 2, [], none⟩, ⟨.tmp 5, [], none⟩, ⟨.tmp 6, [], some 1⟩], false, [], []⟩, .n 0, .rows (List.map e_i64 []), .out (.st .normal (E5_0_0 x1 x2 x8.1 x8.2.1 x8.2.2.1 x8.2.2.2)), .call ⟨true, []⟩ (.agg [(.int .i64 x9.1), (.sl 2 (List.map e_i64_i64 x9.2))]) [], .call ⟨true, []⟩ (.tup [(.agg [(.int .i64 x10.1), (.sl 2 (List.map e_i64_i64 x10.2.1))]), (.sl 1 (List.map e_i64 x10.2.2.1)), (.int .i64 x10.2.2.2)]) [], .d true, .d true, .d true, .call ⟨true, []⟩ (.bool x11) [], .rows (List.map e_i64 x8.2.2.2), .d true, .d false, .d false, .d false, .d false, .d false, .d false] [⟨c13⟩, ⟨c13⟩, ⟨c13⟩, ⟨c13⟩, ⟨c13⟩, ⟨c13⟩, ⟨c11⟩, ⟨(ok_law06_same k x10.2.2.1 x8.2.2.2 _ e12)⟩, ⟨(part_all e_i64 (l := x8.2.2.2) (n := x8.2.2.2.length) rfl)⟩, ⟨(le_map e_i64 (Nat.le_refl x8.2.2.2.length) : 0 + x8.2.2.2.length ≤ (List.map e_i64 x8.2.2.2).length)⟩, ⟨c11⟩, ⟨c11⟩, ⟨c11⟩, ⟨(ok_wheel_Tick k x9.1 x9.2 x8.1 _ e10)⟩, ⟨(ok_law06_Theirs k x1 x2 _ e9)⟩, ⟨(LT.block (ok_law06_WheelPieces_l0 x1 x2 x3 _ k 0 0 x6.1 x6.2 [] e7))⟩, ⟨(take_all e_i64 (l := []) (n := 0) rfl)⟩, ⟨(rfl : 0 = 0)⟩, ⟨(zle 0)⟩, ⟨(len_map e_u16 x3)⟩, ⟨(ok_law06_Theirs k x1 x2 _ e6)⟩, ⟨(nF c5)⟩, ⟨c3⟩, ⟨c3⟩, ⟨(ok_ref06_Right k x1 x2 _ e4)⟩, ⟨c3⟩, ⟨c3⟩, ⟨c2⟩, ⟨c2⟩, ⟨(len_map e_u16 x3)⟩, ⟨c2⟩, ⟨c2⟩, ⟨(len_map e_i64_i64 x2)⟩, ⟨(nF c1)⟩, ⟨(ok_law06_alive k _ e0)⟩] (by kernel_rfl)
              · rw [if_neg c11] at h
                replace c11 := eqf c11
                obtain rfl := Option.some.inj h
                exact Tri.of (x := X5) mixed facts5 [.call ⟨true, []⟩ (.bool x4) [], .d false, .n x2.length, .d false, .d false, .n x3.length, .d false, .d false, .d false, .d false, .call ⟨true, []⟩ (.bool x5) [], .d false, .d false, .d false, .call ⟨true, []⟩ (.agg [(.int .i64 x6.1), (.sl 2 (List.map e_i64_i64 x6.2))]) [], .n x3.length, .norm 2 ⟨[(2, []), (5, []), (6, []), (7, []), (34, []), (35, []), (36, [])], [⟨.tmp 2, [], none⟩, ⟨.tmp 5, [], none⟩, ⟨.tmp 6, [], some 1⟩], false, [], []⟩, .n 0, .rows (List.map e_i64 []), .out (.st .normal (E5_0_0 x1 x2 x8.1 x8.2.1 x8.2.2.1 x8.2.2.2)), .call ⟨true, []⟩ (.agg [(.int .i64 x9.1), (.sl 2 (List.map e_i64_i64 x9.2))]) [], .call ⟨true, []⟩ (.tup [(.agg [(.int .i64 x10.1), (.sl 2 (List.map e_i64_i64 x10.2.1))]), (.sl 1 (List.map e_i64 x10.2.2.1)), (.int .i64 x10.2.2.2)]) [], .d false, .d false, .d false, .d false, .d false, .d false, .d false, .d false, .d false, .d false] [⟨(rfl : false = false)⟩, ⟨(rfl : false = false)⟩, ⟨(rfl : false = false)⟩, ⟨(rfl : false = false)⟩, ⟨(rfl : false = false)⟩, ⟨(rfl : false = false)⟩, ⟨c11⟩, ⟨c11⟩, ⟨c11⟩, ⟨c11⟩, ⟨(ok_wheel_Tick k x9.1 x9.2 x8.1 _ e10)⟩, ⟨(ok_law06_Theirs k x1 x2 _ e9)⟩, ⟨(LT.block (ok_law06_WheelPieces_l0 x1 x2 x3 _ k 0 0 x6.1 x6.2 [] e7))⟩, ⟨(take_all e_i64 (l := []) (n := 0) rfl)⟩, ⟨(rfl : 0 = 0)⟩, ⟨(zle 0)⟩, ⟨(len_map e_u16 x3)⟩, ⟨(ok_law06_Theirs k x1 x2 _ e6)⟩, ⟨(nF c5)⟩, ⟨c3⟩, ⟨c3⟩, ⟨(ok_ref06_Right k x1 x2 _ e4)⟩, ⟨c3⟩, ⟨c3⟩, ⟨c2⟩, ⟨c2⟩, ⟨(len_map e_u16 x3)⟩, ⟨c2⟩, ⟨c2⟩, ⟨(len_map e_i64_i64 x2)⟩, ⟨(nF c1)⟩, ⟨(ok_law06_alive k _ e0)⟩] (by kernel_rfl)
            | inr x8 =>
              simp only [Sum.elim_inr] at h
              obtain rfl := Option.some.inj h
              exact Tri.of (x := X5) mixed facts5 [.call ⟨true, []⟩ (.bool x4) [], .d false, .n x2.length, .d false, .d false, .n x3.length, .d false, .d false, .d false, .d false, .call ⟨true, []⟩ (.bool x5) [], .d false, .d false, .d false, .call ⟨true, []⟩ (.agg [(.int .i64 x6.1), (.sl 2 (List.map e_i64_i64 x6.2))]) [], .n x3.length, .norm 2 ⟨[(2, []), (5, []), (6, []), (7, []), (34, []), (35, []), (36, [])], [⟨.tmp 2, [], none⟩, ⟨.tmp 5, [], none⟩, ⟨.tmp 6, [], some 1⟩], false, [], []⟩, .n 0, .rows (List.map e_i64 []), .out (.fin (.bool x8) [])] [⟨(LT.blockFin (id := 0) (ok_law06_WheelPieces_l0 x1 x2 x3 _ k 0 0 x6.1 x6.2 [] e7))⟩, ⟨(take_all e_i64 (l := []) (n := 0) rfl)⟩, ⟨(rfl : 0 = 0)⟩, ⟨(zle 0)⟩, ⟨(len_map e_u16 x3)⟩, ⟨(ok_law06_Theirs k x1 x2 _ e6)⟩, ⟨(nF c5)⟩, ⟨c3⟩, ⟨c3⟩, ⟨(ok_ref06_Right k x1 x2 _ e4)⟩, ⟨c3⟩, ⟨c3⟩, ⟨c2⟩, ⟨c2⟩, ⟨(len_map e_u16 x3)⟩, ⟨c2⟩, ⟨c2⟩, ⟨(len_map e_i64_i64 x2)⟩, ⟨(nF c1)⟩, ⟨(ok_law06_alive k _ e0)⟩] (by kernel_rfl)
          · rw [if_neg c5] at h
            replace c5 := eqf c5
            obtain rfl := Option.some.inj h
            exact Tri.of (x := X5) mixed facts5 [.call ⟨true, []⟩ (.bool x4) [], .d false, .n x2.length, .d false, .d false, .n x3.length, .d false, .d false, .d false, .d false, .call ⟨true, []⟩ (.bool x5) [], .d false, .d false, .d true] [⟨(nT c5)⟩, ⟨c3⟩, ⟨c3⟩, ⟨(ok_ref06_Right k x1 x2 _ e4)⟩, ⟨c3⟩, ⟨c3⟩, ⟨c2⟩, ⟨c2⟩, ⟨(len_map e_u16 x3)⟩, ⟨c2⟩, ⟨c2⟩, ⟨(len_map e_i64_i64 x2)⟩, ⟨(nF c1)⟩, ⟨(ok_law06_alive k _ e0)⟩] (by kernel_rfl)
    · rw [if_neg c1] at h
      replace c1 := eqf c1
      obtain rfl := Option.some.inj h
      exact Tri.of (x := X5) mixed facts5 [.call ⟨true, []⟩ (.bool x4) [], .d true] [⟨(nT c1)⟩, ⟨(ok_law06_alive k _ e0)⟩] (by kernel_rfl)
end Go.Ws
