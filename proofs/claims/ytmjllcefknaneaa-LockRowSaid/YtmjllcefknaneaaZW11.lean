/-
  lock_Take: what the machine makes of it. (Printed by my own program.)
  Conditions: none.
-/
import Derived.Test.YtmjllcefknaneaaZPre
import Derived.Test.YtmjllcefknaneaaZPure
import Derived.Test.YtmjllcefknaneaaZW14
import Derived.Test.YtmjllcefknaneaaZW22
import Derived.Test.YtmjllcefknaneaaZW23
import Derived.Test.YtmjllcefknaneaaZW24
import Derived.Test.YtmjllcefknaneaaZW26
set_option linter.unusedVariables false
set_option linter.unusedSimpArgs false
namespace Go.Ws
open Go.Proofs
set_option linter.unusedSimpArgs false
set_option linter.unusedVariables false
set_option maxRecDepth 1000000
set_option maxHeartbeats 4000000
noncomputable def X11 : Ctx := ⟨Try.f11, [], true⟩
noncomputable def L11_0 : Code := at_ Try.f11 [1, 1, 1, 0, 1, 4, 5]
def S11_0 (x1 : List (Int × Int × Bool)) (x2 : Int) (x3 : Int) (x4 : Bool) (v11001_1 : Int) : St := ⟨mkT 82 [(0, (.ref 3 0 0 0 x1.length .virt)), (1, (.int .i64 x2)), (2, (.int .u8 x3)), (3, (.bool x4)), (27, (.ref 3 0 0 0 x1.length .virt)), (28, (.int .i64 (nI x1.length))), (29, (.int .i64 v11001_1))], [(.arr 3 (List.map e_u8_i64_b x1) 0 0 false)]⟩
def E11_0_0 (x1 : List (Int × Int × Bool)) (x2 : Int) (x3 : Int) (x4 : Bool) : St := ⟨mkT 82 [(0, (.ref 3 0 0 0 x1.length .virt)), (1, (.int .i64 x2)), (2, (.int .u8 x3)), (3, (.bool x4))], [(.arr 3 (List.map e_u8_i64_b x1) 0 0 false)]⟩
def O11_0 (x1 : List (Int × Int × Bool)) (x2 : Int) (x3 : Int) (x4 : Bool) (y : (Sum (Unit) ((List (Int × Int × Bool)) × Int))) : GX := match y with
  | .inl y => .st (.exit 0) (E11_0_0 x1 x2 x3 x4)
  | .inr y => .fin (.tup [(.sl 3 (List.map e_u8_i64_b y.1)), (.int .i64 y.2)]) []
theorem ok_lock_Take_l0 (x1 : List (Int × Int × Bool)) (x2 : Int) (x3 : Int) (x4 : Bool) (y : (Sum (Unit) ((List (Int × Int × Bool)) × Int))) : ∀ (k : Nat) (v11001_1 : Int), lock_Take_l0 k x1 x2 x3 x4 v11001_1 = some y → LT Try.prog X11 L11_0 (S11_0 x1 x2 x3 x4 v11001_1) (O11_0 x1 x2 x3 x4 y)
  | 0, v11001_1, h => by cases h
  | k + 1, v11001_1, h => by
    rw [lock_Take_l0] at h
    by_cases cL0 : ltI v11001_1 (nI x1.length) = true
    · rw [if_pos cL0] at h
      by_cases cL1 : inI v11001_1 x1.length = true
      · rw [if_pos cL1] at h
        obtain ⟨v11000_1, eL2, h⟩ := Option.bind_eq_some_iff.1 h
        by_cases cL3 : eqI v11000_1.1 x3 = true
        · rw [if_pos cL3] at h
          by_cases cL4 : eqI v11000_1.2.1 x2 = true
          · rw [if_pos cL4] at h
            exact LT.next mixed (hs := ⟨[(0, []), (1, []), (2, []), (3, []), (27, []), (28, []), (29, [])], [⟨.tmp 0, [], none⟩], false, [], []⟩) (es := none) [.d true, .row [(.int .u8 v11000_1.1), (.int .i64 v11000_1.2.1), (.bool v11000_1.2.2)], .d true, .d true, .d true, .d true, .d true, .d false, .d false, .d false, .d false, .d false] [⟨(rfl : false = false)⟩, ⟨(nF cL4)⟩, ⟨(nF cL4)⟩, ⟨(nF cL4)⟩, ⟨(nF cL4)⟩, ⟨cL3⟩, ⟨cL3⟩, ⟨cL3⟩, ⟨cL3⟩, ⟨cL3⟩, ⟨(cells_map (e := e_u8_i64_b) eL2 3 0 3 (by decide))⟩, ⟨cL1⟩, ⟨cL0⟩] (by kernel_rfl) (ok_lock_Take_l0 x1 x2 x3 x4 y k (iadd .i64 v11001_1 1) h)
          · rw [if_neg cL4] at h
            replace cL4 := eqf cL4
            by_cases cL5 : x4 = true
            · rw [if_pos cL5] at h
              obtain rfl := Option.some.inj h
              show LT _ _ _ _ (.fin (.tup [(.sl 3 (List.map e_u8_i64_b ((x1, 9).1))), (.int .i64 ((x1, 9).2))]) [])
              exact LT.done mixed (hs := ⟨[], [], false, [], []⟩) (es := none) [.d true, .row [(.int .u8 v11000_1.1), (.int .i64 v11000_1.2.1), (.bool v11000_1.2.2)], .d true, .d true, .d true, .d true, .d true, .d true, .d true, .d true, .d true, .d true, .d true, .d true, .d true, .rows (List.map e_u8_i64_b x1)] [⟨(part_all e_u8_i64_b (l := x1) (n := x1.length) rfl)⟩, ⟨(le_map e_u8_i64_b (Nat.le_refl x1.length) : 0 + x1.length ≤ (List.map e_u8_i64_b x1).length)⟩, ⟨(rfl : true = true)⟩, ⟨(nT cL4)⟩, ⟨cL5⟩, ⟨(nT cL4)⟩, ⟨cL5⟩, ⟨cL5⟩, ⟨(nT cL4)⟩, ⟨(nT cL4)⟩, ⟨cL3⟩, ⟨cL3⟩, ⟨cL3⟩, ⟨cL3⟩, ⟨cL3⟩, ⟨(cells_map (e := e_u8_i64_b) eL2 3 0 3 (by decide))⟩, ⟨cL1⟩, ⟨cL0⟩] (by kernel_rfl) (fun s h => by cases h)
            · rw [if_neg cL5] at h
              replace cL5 := eqf cL5
              by_cases cL6 : v11000_1.2.2 = true
              · rw [if_pos cL6] at h
                obtain rfl := Option.some.inj h
                show LT _ _ _ _ (.fin (.tup [(.sl 3 (List.map e_u8_i64_b ((x1, 9).1))), (.int .i64 ((x1, 9).2))]) [])
                exact LT.done mixed (hs := ⟨[], [], false, [], []⟩) (es := none) [.d true, .row [(.int .u8 v11000_1.1), (.int .i64 v11000_1.2.1), (.bool v11000_1.2.2)], .d true, .d true, .d true, .d true, .d true, .d true, .d true, .d false, .d false, .d true, .d false, .d true, .d true, .rows (List.map e_u8_i64_b x1)] [⟨(part_all e_u8_i64_b (l := x1) (n := x1.length) rfl)⟩, ⟨(le_map e_u8_i64_b (Nat.le_refl x1.length) : 0 + x1.length ≤ (List.map e_u8_i64_b x1).length)⟩, ⟨cL6⟩, ⟨(nT cL4)⟩, ⟨cL5⟩, ⟨(nT cL4)⟩, ⟨cL5⟩, ⟨cL5⟩, ⟨(nT cL4)⟩, ⟨(nT cL4)⟩, ⟨cL3⟩, ⟨cL3⟩, ⟨cL3⟩, ⟨cL3⟩, ⟨cL3⟩, ⟨(cells_map (e := e_u8_i64_b) eL2 3 0 3 (by decide))⟩, ⟨cL1⟩, ⟨cL0⟩] (by kernel_rfl) (fun s h => by cases h)
              · rw [if_neg cL6] at h
                replace cL6 := eqf cL6
                exact LT.next mixed (hs := ⟨[(0, []), (1, []), (2, []), (3, []), (27, []), (28, []), (29, [])], [⟨.tmp 0, [], none⟩], false, [], []⟩) (es := none) [.d true, .row [(.int .u8 v11000_1.1), (.int .i64 v11000_1.2.1), (.bool v11000_1.2.2)], .d true, .d true, .d true, .d true, .d true, .d true, .d true, .d false, .d false, .d true, .d false, .d true, .d false] [⟨cL6⟩, ⟨(nT cL4)⟩, ⟨cL5⟩, ⟨(nT cL4)⟩, ⟨cL5⟩, ⟨cL5⟩, ⟨(nT cL4)⟩, ⟨(nT cL4)⟩, ⟨cL3⟩, ⟨cL3⟩, ⟨cL3⟩, ⟨cL3⟩, ⟨cL3⟩, ⟨(cells_map (e := e_u8_i64_b) eL2 3 0 3 (by decide))⟩, ⟨cL1⟩, ⟨cL0⟩] (by kernel_rfl) (ok_lock_Take_l0 x1 x2 x3 x4 y k (iadd .i64 v11001_1 1) h)
        · rw [if_neg cL3] at h
          replace cL3 := eqf cL3
          exact LT.next mixed (hs := ⟨[(0, []), (1, []), (2, []), (3, []), (27, []), (28, []), (29, [])], [⟨.tmp 0, [], none⟩], false, [], []⟩) (es := none) [.d true, .row [(.int .u8 v11000_1.1), (.int .i64 v11000_1.2.1), (.bool v11000_1.2.2)], .d false, .d false, .d false, .d false, .d false, .d false, .d false, .d false, .d false, .d false] [⟨(rfl : false = false)⟩, ⟨(rfl : false = false)⟩, ⟨(rfl : false = false)⟩, ⟨(rfl : false = false)⟩, ⟨(rfl : false = false)⟩, ⟨cL3⟩, ⟨cL3⟩, ⟨cL3⟩, ⟨cL3⟩, ⟨cL3⟩, ⟨(cells_map (e := e_u8_i64_b) eL2 3 0 3 (by decide))⟩, ⟨cL1⟩, ⟨cL0⟩] (by kernel_rfl) (ok_lock_Take_l0 x1 x2 x3 x4 y k (iadd .i64 v11001_1 1) h)
      · rw [if_neg cL1] at h
        replace cL1 := eqf cL1
        cases h
    · rw [if_neg cL0] at h
      replace cL0 := eqf cL0
      obtain rfl := Option.some.inj h
      show LT _ _ _ _ (.st (.exit 0) (E11_0_0 x1 x2 x3 x4))
      exact LT.done mixed (hs := ⟨[], [], false, [], []⟩) (es := (some ⟨[(0, []), (1, []), (2, []), (3, [])], [⟨.tmp 0, [], none⟩], false, [], []⟩)) [.d false] [⟨cL0⟩] (by kernel_rfl) (fun s h => by cases h)
theorem ok_lock_Take (k : Nat) (x1 : List (Int × Int × Bool)) (x2 : Int) (x3 : Int) (x4 : Bool) (r : (List (Int × Int × Bool)) × Int) (h : lock_Take k x1 x2 x3 x4 = some r) : Tri Try.prog 11 [(.sl 3 (List.map e_u8_i64_b x1)), (.int .i64 x2), (.int .u8 x3), (.bool x4)] [] (.tup [(.sl 3 (List.map e_u8_i64_b r.1)), (.int .i64 r.2)]) [] := by
    unfold lock_Take at h
    obtain ⟨x5, e0, h⟩ := Option.bind_eq_some_iff.1 h
    obtain ⟨x6, e1, h⟩ := Option.bind_eq_some_iff.1 h
    by_cases c2 : x6 = true
    · rw [if_pos c2] at h
      by_cases c3 : (lock_may x2 x3) = true
      · rw [if_pos c3] at h
        obtain ⟨x7, e4, h⟩ := Option.bind_eq_some_iff.1 h
        cases x7 with
        | inl x8 =>
          simp only [Sum.elim_inl] at h
          obtain ⟨x9, e6, h⟩ := Option.bind_eq_some_iff.1 h
          by_cases c7 : x9.2 = true
          · rw [if_pos c7] at h
            by_cases c8 : inI x9.1 x1.length = true
            · rw [if_pos c8] at h
              obtain ⟨x10, e9, h⟩ := Option.bind_eq_some_iff.1 h
              by_cases c10 : x10.2.2 = true
              · rw [if_pos c10] at h
                obtain rfl := Option.some.inj h
                exact Tri.of (x := X11) mixed facts11 [.call ⟨true, []⟩ (.ref 3 0 0 0 x1.length .virt) [(.arr 3 (List.map e_u8_i64_b x1) 0 0 false)], .call ⟨true, []⟩ (.bool x6) [], .rows (List.map e_u8_i64_b x1), .d false, .d false, .d false, .call ⟨true, []⟩ (.bool (lock_may x2 x3)) [], .d false, .d false, .d false, .norm 2 ⟨[(0, []), (1, []), (2, []), (3, []), (27, []), (28, []), (29, [])], [⟨.tmp 0, [], none⟩], false, [], []⟩, .out (.st .normal (E11_0_0 x1 x2 x3 x4)), .call ⟨true, []⟩ (.tup [(.int .i64 x9.1), (.bool x9.2)]) [], .rows (List.map e_u8_i64_b x1), .d false, .row [(.bool x10.2.2)], .d true, .d true, .rows (List.map e_u8_i64_b (List.set x1 (tN x9.1) (x10.1, x10.2.1, true))), .rows (List.map e_u8_i64_b (List.set x1 (tN x9.1) (x10.1, x10.2.1, true)))] [⟨(part_all e_u8_i64_b (l := (List.set x1 (tN x9.1) (x10.1, x10.2.1, true))) (n := x1.length) (by simp : x1.length = List.length (α := Int × Int × Bool) (List.set x1 (tN x9.1) (x10.1, x10.2.1, true))))⟩, ⟨(le_map e_u8_i64_b (Nat.le_of_eq (by simp : x1.length = List.length (α := Int × Int × Bool) (List.set x1 (tN x9.1) (x10.1, x10.2.1, true)))))⟩, ⟨(store_map (e := e_u8_i64_b) e9 2 [(.bool true)] (x10.1, x10.2.1, true) rfl)⟩, ⟨c8⟩, ⟨c10⟩, ⟨c10⟩, ⟨(cells_map (e := e_u8_i64_b) e9 3 2 1 (by decide))⟩, ⟨c8⟩, ⟨(nF c7)⟩, ⟨(ok_slices_BinarySearchFunc k x1 x3 x2 x4 _ e6)⟩, ⟨(part_all e_u8_i64_b (l := x1) (n := x1.length) rfl)⟩, ⟨(le_map e_u8_i64_b (Nat.le_refl x1.length) : 0 + x1.length ≤ (List.map e_u8_i64_b x1).length)⟩, ⟨(LT.block (ok_lock_Take_l0 x1 x2 x3 x4 _ k 0 e4))⟩, ⟨(nF c3)⟩, ⟨(nF c2)⟩, ⟨(nF c2)⟩, ⟨(ok_lock_may x2 x3)⟩, ⟨(nF c2)⟩, ⟨(nF c2)⟩, ⟨(nF c2)⟩, ⟨(ok_lock_Right k x1 _ e1)⟩, ⟨(part_all e_u8_i64_b (l := x1) (n := x1.length) rfl)⟩, ⟨(le_map e_u8_i64_b (Nat.le_refl x1.length) : 0 + x1.length ≤ (List.map e_u8_i64_b x1).length)⟩, ⟨(ok_slices_Clone k x1 _ e0)⟩] (by kernel_rfl)
              · rw [if_neg c10] at h
                replace c10 := eqf c10
                obtain rfl := Option.some.inj h
                exact Tri.of (x := X11) mixed facts11 [.call ⟨true, []⟩ (.ref 3 0 0 0 x1.length .virt) [(.arr 3 (List.map e_u8_i64_b x1) 0 0 false)], .call ⟨true, []⟩ (.bool x6) [], .rows (List.map e_u8_i64_b x1), .d false, .d false, .d false, .call ⟨true, []⟩ (.bool (lock_may x2 x3)) [], .d false, .d false, .d false, .norm 2 ⟨[(0, []), (1, []), (2, []), (3, []), (27, []), (28, []), (29, [])], [⟨.tmp 0, [], none⟩], false, [], []⟩, .out (.st .normal (E11_0_0 x1 x2 x3 x4)), .call ⟨true, []⟩ (.tup [(.int .i64 x9.1), (.bool x9.2)]) [], .rows (List.map e_u8_i64_b x1), .d false, .row [(.bool x10.2.2)], .d false, .d false, .rows (List.map e_u8_i64_b (List.set x1 (tN x9.1) (x10.1, x10.2.1, x4))), .rows (List.map e_u8_i64_b (List.set x1 (tN x9.1) (x10.1, x10.2.1, x4)))] [⟨(part_all e_u8_i64_b (l := (List.set x1 (tN x9.1) (x10.1, x10.2.1, x4))) (n := x1.length) (by simp : x1.length = List.length (α := Int × Int × Bool) (List.set x1 (tN x9.1) (x10.1, x10.2.1, x4))))⟩, ⟨(le_map e_u8_i64_b (Nat.le_of_eq (by simp : x1.length = List.length (α := Int × Int × Bool) (List.set x1 (tN x9.1) (x10.1, x10.2.1, x4)))))⟩, ⟨(store_map (e := e_u8_i64_b) e9 2 [(.bool x4)] (x10.1, x10.2.1, x4) rfl)⟩, ⟨c8⟩, ⟨c10⟩, ⟨c10⟩, ⟨(cells_map (e := e_u8_i64_b) e9 3 2 1 (by decide))⟩, ⟨c8⟩, ⟨(nF c7)⟩, ⟨(ok_slices_BinarySearchFunc k x1 x3 x2 x4 _ e6)⟩, ⟨(part_all e_u8_i64_b (l := x1) (n := x1.length) rfl)⟩, ⟨(le_map e_u8_i64_b (Nat.le_refl x1.length) : 0 + x1.length ≤ (List.map e_u8_i64_b x1).length)⟩, ⟨(LT.block (ok_lock_Take_l0 x1 x2 x3 x4 _ k 0 e4))⟩, ⟨(nF c3)⟩, ⟨(nF c2)⟩, ⟨(nF c2)⟩, ⟨(ok_lock_may x2 x3)⟩, ⟨(nF c2)⟩, ⟨(nF c2)⟩, ⟨(nF c2)⟩, ⟨(ok_lock_Right k x1 _ e1)⟩, ⟨(part_all e_u8_i64_b (l := x1) (n := x1.length) rfl)⟩, ⟨(le_map e_u8_i64_b (Nat.le_refl x1.length) : 0 + x1.length ≤ (List.map e_u8_i64_b x1).length)⟩, ⟨(ok_slices_Clone k x1 _ e0)⟩] (by kernel_rfl)
            · rw [if_neg c8] at h
              replace c8 := eqf c8
              cases h
          · rw [if_neg c7] at h
            replace c7 := eqf c7
            obtain ⟨x10, e8, h⟩ := Option.bind_eq_some_iff.1 h
            obtain rfl := Option.some.inj h
            exact Tri.of (x := X11) mixed facts11 [.call ⟨true, []⟩ (.ref 3 0 0 0 x1.length .virt) [(.arr 3 (List.map e_u8_i64_b x1) 0 0 false)], .call ⟨true, []⟩ (.bool x6) [], .rows (List.map e_u8_i64_b x1), .d false, .d false, .d false, .call ⟨true, []⟩ (.bool (lock_may x2 x3)) [], .d false, .d false, .d false, .norm 2 ⟨[(0, []), (1, []), (2, []), (3, []), (27, []), (28, []), (29, [])], [⟨.tmp 0, [], none⟩], false, [], []⟩, .out (.st .normal (E11_0_0 x1 x2 x3 x4)), .call ⟨true, []⟩ (.tup [(.int .i64 x9.1), (.bool x9.2)]) [], .rows (List.map e_u8_i64_b x1), .d true, .call ⟨false, []⟩ (.ref 3 0 1 0 x10.length .full) [(.arr 3 (List.map e_u8_i64_b x10) 1 1 false), (.arr 3 (List.map e_u8_i64_b [(x3, x2, x4)]) 0 0 false)], .rows (List.map e_u8_i64_b x10)] [⟨(part_all e_u8_i64_b (l := x10) (n := x10.length) rfl)⟩, ⟨(le_map e_u8_i64_b (Nat.le_refl x10.length) : 0 + x10.length ≤ (List.map e_u8_i64_b x10).length)⟩, ⟨(ok_slices_Insert k x9.1 x1 [(x3, x2, x4)] _ e8)⟩, ⟨(nT c7)⟩, ⟨(ok_slices_BinarySearchFunc k x1 x3 x2 x4 _ e6)⟩, ⟨(part_all e_u8_i64_b (l := x1) (n := x1.length) rfl)⟩, ⟨(le_map e_u8_i64_b (Nat.le_refl x1.length) : 0 + x1.length ≤ (List.map e_u8_i64_b x1).length)⟩, ⟨(LT.block (ok_lock_Take_l0 x1 x2 x3 x4 _ k 0 e4))⟩, ⟨(nF c3)⟩, ⟨(nF c2)⟩, ⟨(nF c2)⟩, ⟨(ok_lock_may x2 x3)⟩, ⟨(nF c2)⟩, ⟨(nF c2)⟩, ⟨(nF c2)⟩, ⟨(ok_lock_Right k x1 _ e1)⟩, ⟨(part_all e_u8_i64_b (l := x1) (n := x1.length) rfl)⟩, ⟨(le_map e_u8_i64_b (Nat.le_refl x1.length) : 0 + x1.length ≤ (List.map e_u8_i64_b x1).length)⟩, ⟨(ok_slices_Clone k x1 _ e0)⟩] (by kernel_rfl)
        | inr x8 =>
          simp only [Sum.elim_inr] at h
          obtain rfl := Option.some.inj h
          exact Tri.of (x := X11) mixed facts11 [.call ⟨true, []⟩ (.ref 3 0 0 0 x1.length .virt) [(.arr 3 (List.map e_u8_i64_b x1) 0 0 false)], .call ⟨true, []⟩ (.bool x6) [], .rows (List.map e_u8_i64_b x1), .d false, .d false, .d false, .call ⟨true, []⟩ (.bool (lock_may x2 x3)) [], .d false, .d false, .d false, .norm 2 ⟨[(0, []), (1, []), (2, []), (3, []), (27, []), (28, []), (29, [])], [⟨.tmp 0, [], none⟩], false, [], []⟩, .out (.fin (.tup [(.sl 3 (List.map e_u8_i64_b x8.1)), (.int .i64 x8.2)]) [])] [⟨(LT.blockFin (id := 0) (ok_lock_Take_l0 x1 x2 x3 x4 _ k 0 e4))⟩, ⟨(nF c3)⟩, ⟨(nF c2)⟩, ⟨(nF c2)⟩, ⟨(ok_lock_may x2 x3)⟩, ⟨(nF c2)⟩, ⟨(nF c2)⟩, ⟨(nF c2)⟩, ⟨(ok_lock_Right k x1 _ e1)⟩, ⟨(part_all e_u8_i64_b (l := x1) (n := x1.length) rfl)⟩, ⟨(le_map e_u8_i64_b (Nat.le_refl x1.length) : 0 + x1.length ≤ (List.map e_u8_i64_b x1).length)⟩, ⟨(ok_slices_Clone k x1 _ e0)⟩] (by kernel_rfl)
      · rw [if_neg c3] at h
        replace c3 := eqf c3
        obtain rfl := Option.some.inj h
        exact Tri.of (x := X11) mixed facts11 [.call ⟨true, []⟩ (.ref 3 0 0 0 x1.length .virt) [(.arr 3 (List.map e_u8_i64_b x1) 0 0 false)], .call ⟨true, []⟩ (.bool x6) [], .rows (List.map e_u8_i64_b x1), .d false, .d false, .d false, .call ⟨true, []⟩ (.bool (lock_may x2 x3)) [], .d false, .d false, .d true, .rows (List.map e_u8_i64_b x1)] [⟨(part_all e_u8_i64_b (l := x1) (n := x1.length) rfl)⟩, ⟨(le_map e_u8_i64_b (Nat.le_refl x1.length) : 0 + x1.length ≤ (List.map e_u8_i64_b x1).length)⟩, ⟨(nT c3)⟩, ⟨(nF c2)⟩, ⟨(nF c2)⟩, ⟨(ok_lock_may x2 x3)⟩, ⟨(nF c2)⟩, ⟨(nF c2)⟩, ⟨(nF c2)⟩, ⟨(ok_lock_Right k x1 _ e1)⟩, ⟨(part_all e_u8_i64_b (l := x1) (n := x1.length) rfl)⟩, ⟨(le_map e_u8_i64_b (Nat.le_refl x1.length) : 0 + x1.length ≤ (List.map e_u8_i64_b x1).length)⟩, ⟨(ok_slices_Clone k x1 _ e0)⟩] (by kernel_rfl)
    · rw [if_neg c2] at h
      replace c2 := eqf c2
      obtain rfl := Option.some.inj h
      exact Tri.of (x := X11) mixed facts11 [.call ⟨true, []⟩ (.ref 3 0 0 0 x1.length .virt) [(.arr 3 (List.map e_u8_i64_b x1) 0 0 false)], .call ⟨true, []⟩ (.bool x6) [], .rows (List.map e_u8_i64_b x1), .d true, .d true, .d true, .d true, .d true, .d true, .rows (List.map e_u8_i64_b x1)] [⟨(part_all e_u8_i64_b (l := x1) (n := x1.length) rfl)⟩, ⟨(le_map e_u8_i64_b (Nat.le_refl x1.length) : 0 + x1.length ≤ (List.map e_u8_i64_b x1).length)⟩, ⟨(rfl : true = true)⟩, ⟨(nT c2)⟩, ⟨(nT c2)⟩, ⟨(nT c2)⟩, ⟨(nT c2)⟩, ⟨(nT c2)⟩, ⟨(ok_lock_Right k x1 _ e1)⟩, ⟨(part_all e_u8_i64_b (l := x1) (n := x1.length) rfl)⟩, ⟨(le_map e_u8_i64_b (Nat.le_refl x1.length) : 0 + x1.length ≤ (List.map e_u8_i64_b x1).length)⟩, ⟨(ok_slices_Clone k x1 _ e0)⟩] (by kernel_rfl)
end Go.Ws
