/-
  lock_Right: what the machine makes of it. (Printed by my own program.)
  Conditions: none.
-/
import Derived.Test.YtmjllcefknaneaaZPre
import Derived.Test.YtmjllcefknaneaaZPure
import Derived.Test.YtmjllcefknaneaaZW23
import Derived.Test.YtmjllcefknaneaaZW25
set_option linter.unusedVariables false
set_option linter.unusedSimpArgs false
namespace Go.Ws
open Go.Proofs
set_option linter.unusedSimpArgs false
set_option linter.unusedVariables false
set_option maxRecDepth 1000000
set_option maxHeartbeats 4000000
noncomputable def X14 : Ctx := ⟨Try.f14, [], true⟩
noncomputable def L14_0 : Code := at_ Try.f14 [1, 0, 1, 4, 5]
def S14_0 (x1 : List (Int × Int × Bool)) (v14001_1 : Int) : St := ⟨mkT 46 [(0, (.sl 3 (List.map e_u8_i64_b x1))), (6, (.sl 3 (List.map e_u8_i64_b x1))), (7, (.int .i64 (nI x1.length))), (8, (.int .i64 v14001_1))], []⟩
def E14_0_0 : St := ⟨mkT 46 [], []⟩
def O14_0 (x1 : List (Int × Int × Bool)) (y : (Sum (Unit) (Bool))) : GX := match y with
  | .inl y => .st (.exit 0) (E14_0_0)
  | .inr y => .fin (.bool y) []
theorem ok_lock_Right_l0 (x1 : List (Int × Int × Bool)) (y : (Sum (Unit) (Bool))) : ∀ (k : Nat) (v14001_1 : Int), lock_Right_l0 k x1 v14001_1 = some y → LT Try.prog X14 L14_0 (S14_0 x1 v14001_1) (O14_0 x1 y)
  | 0, v14001_1, h => by cases h
  | k + 1, v14001_1, h => by
    rw [lock_Right_l0] at h
    by_cases cL0 : ltI v14001_1 (nI x1.length) = true
    · rw [if_pos cL0] at h
      by_cases cL1 : inI v14001_1 x1.length = true
      · rw [if_pos cL1] at h
        obtain ⟨v14000_1, eL2, h⟩ := Option.bind_eq_some_iff.1 h
        by_cases cL3 : (lock_may v14000_1.2.1 v14000_1.1) = true
        · rw [if_pos cL3] at h
          by_cases cL4 : eqI v14001_1 0 = true
          · rw [if_pos cL4] at h
            exact LT.next mixed (hs := ⟨[(0, []), (6, []), (7, []), (8, [])], [], false, [], []⟩) (es := none) [.d true, .n x1.length, .row [(.int .u8 v14000_1.1), (.int .i64 v14000_1.2.1), (.bool v14000_1.2.2)], .call ⟨true, []⟩ (.bool (lock_may v14000_1.2.1 v14000_1.1)) [], .d false, .d true] [⟨cL4⟩, ⟨(nF cL3)⟩, ⟨(ok_lock_may v14000_1.2.1 v14000_1.1)⟩, ⟨(cells_map (e := e_u8_i64_b) eL2 3 0 3 (by decide))⟩, ⟨cL1⟩, ⟨(len_map e_u8_i64_b x1)⟩, ⟨cL0⟩] (by kernel_rfl) (ok_lock_Right_l0 x1 y k (iadd .i64 v14001_1 1) h)
          · rw [if_neg cL4] at h
            replace cL4 := eqf cL4
            by_cases cL5 : inI (isub .i64 v14001_1 1) x1.length = true
            · rw [if_pos cL5] at h
              obtain ⟨v14000_2, eL6, h⟩ := Option.bind_eq_some_iff.1 h
              obtain ⟨v14000_3, eL7, h⟩ := Option.bind_eq_some_iff.1 h
              by_cases cL8 : ltI v14000_3 0 = true
              · rw [if_pos cL8] at h
                by_cases cL9 : eqI v14000_2.1 v14000_1.1 = true
                · rw [if_pos cL9] at h
                  by_cases cL10 : v14000_2.2.2 = true
                  · rw [if_pos cL10] at h
                    obtain rfl := Option.some.inj h
                    show LT _ _ _ _ (.fin (.bool false) [])
                    exact LT.done mixed (hs := ⟨[], [], false, [], []⟩) (es := none) [.d true, .n x1.length, .row [(.int .u8 v14000_1.1), (.int .i64 v14000_1.2.1), (.bool v14000_1.2.2)], .call ⟨true, []⟩ (.bool (lock_may v14000_1.2.1 v14000_1.1)) [], .d false, .d false, .n x1.length, .row [(.int .u8 v14000_2.1), (.int .i64 v14000_2.2.1), (.bool v14000_2.2.2)], .call ⟨true, []⟩ (.int .i64 v14000_3) [], .d false, .d false, .d false, .d false, .d false, .d false, .d true, .d true, .d true, .d true, .d true, .d true, .d true, .d false, .d true, .d false, .d true] [⟨(rfl : true = true)⟩, ⟨(nF cL8)⟩, ⟨cL9⟩, ⟨(nF cL8)⟩, ⟨cL10⟩, ⟨cL9⟩, ⟨cL10⟩, ⟨cL10⟩, ⟨cL9⟩, ⟨cL9⟩, ⟨cL9⟩, ⟨(nF cL8)⟩, ⟨(nF cL8)⟩, ⟨(nF cL8)⟩, ⟨(nF cL8)⟩, ⟨(nF cL8)⟩, ⟨(nF cL8)⟩, ⟨(ok_lock_order k v14000_2.1 v14000_2.2.1 v14000_2.2.2 v14000_1.1 v14000_1.2.1 v14000_1.2.2 _ eL7)⟩, ⟨(cells_map (e := e_u8_i64_b) eL6 3 0 3 (by decide))⟩, ⟨cL5⟩, ⟨(len_map e_u8_i64_b x1)⟩, ⟨cL4⟩, ⟨(nF cL3)⟩, ⟨(ok_lock_may v14000_1.2.1 v14000_1.1)⟩, ⟨(cells_map (e := e_u8_i64_b) eL2 3 0 3 (by decide))⟩, ⟨cL1⟩, ⟨(len_map e_u8_i64_b x1)⟩, ⟨cL0⟩] (by kernel_rfl) (fun s h => by cases h)
                  · rw [if_neg cL10] at h
                    replace cL10 := eqf cL10
                    by_cases cL11 : v14000_1.2.2 = true
                    · rw [if_pos cL11] at h
                      obtain rfl := Option.some.inj h
                      show LT _ _ _ _ (.fin (.bool false) [])
                      exact LT.done mixed (hs := ⟨[], [], false, [], []⟩) (es := none) [.d true, .n x1.length, .row [(.int .u8 v14000_1.1), (.int .i64 v14000_1.2.1), (.bool v14000_1.2.2)], .call ⟨true, []⟩ (.bool (lock_may v14000_1.2.1 v14000_1.1)) [], .d false, .d false, .n x1.length, .row [(.int .u8 v14000_2.1), (.int .i64 v14000_2.2.1), (.bool v14000_2.2.2)], .call ⟨true, []⟩ (.int .i64 v14000_3) [], .d false, .d false, .d false, .d false, .d false, .d false, .d true, .d true, .d true, .d false, .d false, .d true, .d false, .d false, .d true, .d false, .d true] [⟨cL11⟩, ⟨(nF cL8)⟩, ⟨cL9⟩, ⟨(nF cL8)⟩, ⟨cL10⟩, ⟨cL9⟩, ⟨cL10⟩, ⟨cL10⟩, ⟨cL9⟩, ⟨cL9⟩, ⟨cL9⟩, ⟨(nF cL8)⟩, ⟨(nF cL8)⟩, ⟨(nF cL8)⟩, ⟨(nF cL8)⟩, ⟨(nF cL8)⟩, ⟨(nF cL8)⟩, ⟨(ok_lock_order k v14000_2.1 v14000_2.2.1 v14000_2.2.2 v14000_1.1 v14000_1.2.1 v14000_1.2.2 _ eL7)⟩, ⟨(cells_map (e := e_u8_i64_b) eL6 3 0 3 (by decide))⟩, ⟨cL5⟩, ⟨(len_map e_u8_i64_b x1)⟩, ⟨cL4⟩, ⟨(nF cL3)⟩, ⟨(ok_lock_may v14000_1.2.1 v14000_1.1)⟩, ⟨(cells_map (e := e_u8_i64_b) eL2 3 0 3 (by decide))⟩, ⟨cL1⟩, ⟨(len_map e_u8_i64_b x1)⟩, ⟨cL0⟩] (by kernel_rfl) (fun s h => by cases h)
                    · rw [if_neg cL11] at h
                      replace cL11 := eqf cL11
                      exact LT.next mixed (hs := ⟨[(0, []), (6, []), (7, []), (8, [])], [], false, [], []⟩) (es := none) [.d true, .n x1.length, .row [(.int .u8 v14000_1.1), (.int .i64 v14000_1.2.1), (.bool v14000_1.2.2)], .call ⟨true, []⟩ (.bool (lock_may v14000_1.2.1 v14000_1.1)) [], .d false, .d false, .n x1.length, .row [(.int .u8 v14000_2.1), (.int .i64 v14000_2.2.1), (.bool v14000_2.2.2)], .call ⟨true, []⟩ (.int .i64 v14000_3) [], .d false, .d false, .d false, .d false, .d false, .d false, .d true, .d true, .d true, .d false, .d false, .d true, .d false, .d false, .d true, .d false, .d false] [⟨cL11⟩, ⟨(nF cL8)⟩, ⟨cL9⟩, ⟨(nF cL8)⟩, ⟨cL10⟩, ⟨cL9⟩, ⟨cL10⟩, ⟨cL10⟩, ⟨cL9⟩, ⟨cL9⟩, ⟨cL9⟩, ⟨(nF cL8)⟩, ⟨(nF cL8)⟩, ⟨(nF cL8)⟩, ⟨(nF cL8)⟩, ⟨(nF cL8)⟩, ⟨(nF cL8)⟩, ⟨(ok_lock_order k v14000_2.1 v14000_2.2.1 v14000_2.2.2 v14000_1.1 v14000_1.2.1 v14000_1.2.2 _ eL7)⟩, ⟨(cells_map (e := e_u8_i64_b) eL6 3 0 3 (by decide))⟩, ⟨cL5⟩, ⟨(len_map e_u8_i64_b x1)⟩, ⟨cL4⟩, ⟨(nF cL3)⟩, ⟨(ok_lock_may v14000_1.2.1 v14000_1.1)⟩, ⟨(cells_map (e := e_u8_i64_b) eL2 3 0 3 (by decide))⟩, ⟨cL1⟩, ⟨(len_map e_u8_i64_b x1)⟩, ⟨cL0⟩] (by kernel_rfl) (ok_lock_Right_l0 x1 y k (iadd .i64 v14001_1 1) h)
                · rw [if_neg cL9] at h
                  replace cL9 := eqf cL9
                  exact LT.next mixed (hs := ⟨[(0, []), (6, []), (7, []), (8, [])], [], false, [], []⟩) (es := none) [.d true, .n x1.length, .row [(.int .u8 v14000_1.1), (.int .i64 v14000_1.2.1), (.bool v14000_1.2.2)], .call ⟨true, []⟩ (.bool (lock_may v14000_1.2.1 v14000_1.1)) [], .d false, .d false, .n x1.length, .row [(.int .u8 v14000_2.1), (.int .i64 v14000_2.2.1), (.bool v14000_2.2.2)], .call ⟨true, []⟩ (.int .i64 v14000_3) [], .d false, .d false, .d false, .d false, .d false, .d false, .d false, .d false, .d false, .d false, .d false, .d false, .d false, .d false] [⟨(rfl : false = false)⟩, ⟨(nF cL8)⟩, ⟨cL9⟩, ⟨(nF cL8)⟩, ⟨cL9⟩, ⟨cL9⟩, ⟨cL9⟩, ⟨cL9⟩, ⟨(nF cL8)⟩, ⟨(nF cL8)⟩, ⟨(nF cL8)⟩, ⟨(nF cL8)⟩, ⟨(nF cL8)⟩, ⟨(nF cL8)⟩, ⟨(ok_lock_order k v14000_2.1 v14000_2.2.1 v14000_2.2.2 v14000_1.1 v14000_1.2.1 v14000_1.2.2 _ eL7)⟩, ⟨(cells_map (e := e_u8_i64_b) eL6 3 0 3 (by decide))⟩, ⟨cL5⟩, ⟨(len_map e_u8_i64_b x1)⟩, ⟨cL4⟩, ⟨(nF cL3)⟩, ⟨(ok_lock_may v14000_1.2.1 v14000_1.1)⟩, ⟨(cells_map (e := e_u8_i64_b) eL2 3 0 3 (by decide))⟩, ⟨cL1⟩, ⟨(len_map e_u8_i64_b x1)⟩, ⟨cL0⟩] (by kernel_rfl) (ok_lock_Right_l0 x1 y k (iadd .i64 v14001_1 1) h)
              · rw [if_neg cL8] at h
                replace cL8 := eqf cL8
                obtain rfl := Option.some.inj h
                show LT _ _ _ _ (.fin (.bool false) [])
                exact LT.done mixed (hs := ⟨[], [], false, [], []⟩) (es := none) [.d true, .n x1.length, .row [(.int .u8 v14000_1.1), (.int .i64 v14000_1.2.1), (.bool v14000_1.2.2)], .call ⟨true, []⟩ (.bool (lock_may v14000_1.2.1 v14000_1.1)) [], .d false, .d false, .n x1.length, .row [(.int .u8 v14000_2.1), (.int .i64 v14000_2.2.1), (.bool v14000_2.2.2)], .call ⟨true, []⟩ (.int .i64 v14000_3) [], .d true, .d true, .d true, .d true, .d true, .d true, .d true, .d true, .d true] [⟨(rfl : true = true)⟩, ⟨(nT cL8)⟩, ⟨(nT cL8)⟩, ⟨(nT cL8)⟩, ⟨(nT cL8)⟩, ⟨(nT cL8)⟩, ⟨(nT cL8)⟩, ⟨(nT cL8)⟩, ⟨(nT cL8)⟩, ⟨(ok_lock_order k v14000_2.1 v14000_2.2.1 v14000_2.2.2 v14000_1.1 v14000_1.2.1 v14000_1.2.2 _ eL7)⟩, ⟨(cells_map (e := e_u8_i64_b) eL6 3 0 3 (by decide))⟩, ⟨cL5⟩, ⟨(len_map e_u8_i64_b x1)⟩, ⟨cL4⟩, ⟨(nF cL3)⟩, ⟨(ok_lock_may v14000_1.2.1 v14000_1.1)⟩, ⟨(cells_map (e := e_u8_i64_b) eL2 3 0 3 (by decide))⟩, ⟨cL1⟩, ⟨(len_map e_u8_i64_b x1)⟩, ⟨cL0⟩] (by kernel_rfl) (fun s h => by cases h)
            · rw [if_neg cL5] at h
              replace cL5 := eqf cL5
              cases h
        · rw [if_neg cL3] at h
          replace cL3 := eqf cL3
          obtain rfl := Option.some.inj h
          show LT _ _ _ _ (.fin (.bool false) [])
          exact LT.done mixed (hs := ⟨[], [], false, [], []⟩) (es := none) [.d true, .n x1.length, .row [(.int .u8 v14000_1.1), (.int .i64 v14000_1.2.1), (.bool v14000_1.2.2)], .call ⟨true, []⟩ (.bool (lock_may v14000_1.2.1 v14000_1.1)) [], .d true] [⟨(nT cL3)⟩, ⟨(ok_lock_may v14000_1.2.1 v14000_1.1)⟩, ⟨(cells_map (e := e_u8_i64_b) eL2 3 0 3 (by decide))⟩, ⟨cL1⟩, ⟨(len_map e_u8_i64_b x1)⟩, ⟨cL0⟩] (by kernel_rfl) (fun s h => by cases h)
      · rw [if_neg cL1] at h
        replace cL1 := eqf cL1
        cases h
    · rw [if_neg cL0] at h
      replace cL0 := eqf cL0
      obtain rfl := Option.some.inj h
      show LT _ _ _ _ (.st (.exit 0) (E14_0_0))
      exact LT.done mixed (hs := ⟨[], [], false, [], []⟩) (es := (some ⟨[], [], false, [], []⟩)) [.d false] [⟨cL0⟩] (by kernel_rfl) (fun s h => by cases h)
theorem ok_lock_Right (k : Nat) (x1 : List (Int × Int × Bool)) (r : Bool) (h : lock_Right k x1 = some r) : Tri Try.prog 14 [(.sl 3 (List.map e_u8_i64_b x1))] [] (.bool r) [] := by
    unfold lock_Right at h
    obtain ⟨x2, e0, h⟩ := Option.bind_eq_some_iff.1 h
    cases x2 with
    | inl x3 =>
      simp only [Sum.elim_inl] at h
      obtain rfl := Option.some.inj h
      exact Tri.of (x := X14) mixed facts14 [.n x1.length, .norm 2 ⟨[(0, []), (6, []), (7, []), (8, [])], [], false, [], []⟩, .out (.st .normal (E14_0_0))] [⟨(LT.block (ok_lock_Right_l0 x1 _ k 0 e0))⟩, ⟨(len_map e_u8_i64_b x1)⟩] (by kernel_rfl)
    | inr x3 =>
      simp only [Sum.elim_inr] at h
      obtain rfl := Option.some.inj h
      exact Tri.of (x := X14) mixed facts14 [.n x1.length, .norm 2 ⟨[(0, []), (6, []), (7, []), (8, [])], [], false, [], []⟩, .out (.fin (.bool x3) [])] [⟨(LT.blockFin (id := 0) (ok_lock_Right_l0 x1 _ k 0 e0))⟩, ⟨(len_map e_u8_i64_b x1)⟩] (by kernel_rfl)
end Go.Ws
