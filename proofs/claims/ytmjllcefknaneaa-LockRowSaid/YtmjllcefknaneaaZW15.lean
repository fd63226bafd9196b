/-
  ref07_Right: what the machine makes of it. (Printed by my own program.)
  Conditions: none.
-/
import Derived.Test.YtmjllcefknaneaaZPre
import Derived.Test.YtmjllcefknaneaaZPure
import Derived.Test.YtmjllcefknaneaaZW27
set_option linter.unusedVariables false
set_option linter.unusedSimpArgs false
namespace Go.Ws
open Go.Proofs
set_option linter.unusedSimpArgs false
set_option linter.unusedVariables false
set_option maxRecDepth 1000000
set_option maxHeartbeats 4000000
noncomputable def X15 : Ctx := ⟨Try.f15, [], true⟩
noncomputable def L15_1 : Code := at_ Try.f15 [1, 0, 1, 4, 5, 1, 0, 4, 1, 1, 1, 1, 4, 5]
def S15_1 (x1 : List (Int × Int × Bool)) (v15000_1 : Int × Int × Bool) (v15011_1 : Int) (v15011_2 : Int) : St := ⟨mkT 81 [(0, (.sl 3 (List.map e_u8_i64_b x1))), (3, (.int .i64 v15011_2)), (4, (.hp 0 0)), (5, (.int .i64 v15011_1))], [(.row [(.int .u8 v15000_1.1), (.int .i64 v15000_1.2.1), (.bool v15000_1.2.2)])]⟩
def E15_1_2 (x1 : List (Int × Int × Bool)) (v15012_1 : Int) : St := ⟨mkT 81 [(0, (.sl 3 (List.map e_u8_i64_b x1))), (3, (.int .i64 v15012_1))], []⟩
def O15_1 (x1 : List (Int × Int × Bool)) (v15000_1 : Int × Int × Bool) (y : (Sum (Int) (Bool))) : GX := match y with
  | .inl y => .st (.exit 2) (E15_1_2 x1 y)
  | .inr y => .fin (.bool y) []
noncomputable def L15_0 : Code := at_ Try.f15 [1, 0, 1, 4, 5]
def S15_0 (x1 : List (Int × Int × Bool)) (v15001_1 : Int) : St := ⟨mkT 81 [(0, (.sl 3 (List.map e_u8_i64_b x1))), (3, (.int .i64 v15001_1))], []⟩
def E15_0_0 : St := ⟨mkT 81 [], []⟩
def O15_0 (x1 : List (Int × Int × Bool)) (y : (Sum (Unit) (Bool))) : GX := match y with
  | .inl y => .st (.exit 0) (E15_0_0)
  | .inr y => .fin (.bool y) []
theorem ok_ref07_Right_l1 (x1 : List (Int × Int × Bool)) (v15000_1 : Int × Int × Bool) (y : (Sum (Int) (Bool))) : ∀ (k : Nat) (v15011_1 : Int) (v15011_2 : Int), ref07_Right_l1 k x1 v15000_1 v15011_1 v15011_2 = some y → LT Try.prog X15 L15_1 (S15_1 x1 v15000_1 v15011_1 v15011_2) (O15_1 x1 v15000_1 y)
  | 0, v15011_1, v15011_2, h => by cases h
  | k + 1, v15011_1, v15011_2, h => by
    rw [ref07_Right_l1] at h
    by_cases cL0 : ltI v15011_1 (nI x1.length) = true
    · rw [if_pos cL0] at h
      by_cases cL1 : eqI v15011_1 v15011_2 = true
      · rw [if_pos cL1] at h
        exact LT.next mixed (hs := ⟨[(0, []), (3, []), (4, []), (5, [])], [⟨.tmp 4, [], none⟩], false, [], []⟩) (es := none) [.n x1.length, .d true, .d false, .d false, .d false, .d false, .d false, .d false, .d false, .d false, .d false, .d false, .d false, .d false, .d false] [⟨(rfl : false = false)⟩, ⟨(rfl : false = false)⟩, ⟨(rfl : false = false)⟩, ⟨(rfl : false = false)⟩, ⟨(nF cL1)⟩, ⟨(nF cL1)⟩, ⟨(nF cL1)⟩, ⟨(nF cL1)⟩, ⟨(nF cL1)⟩, ⟨(nF cL1)⟩, ⟨(nF cL1)⟩, ⟨(nF cL1)⟩, ⟨(nF cL1)⟩, ⟨cL0⟩, ⟨(len_map e_u8_i64_b x1)⟩] (by kernel_rfl) (ok_ref07_Right_l1 x1 v15000_1 y k (iadd .i64 v15011_1 1) v15011_2 h)
      · rw [if_neg cL1] at h
        replace cL1 := eqf cL1
        by_cases cL2 : inI v15011_1 x1.length = true
        · rw [if_pos cL2] at h
          obtain ⟨v15010_1, eL3, h⟩ := Option.bind_eq_some_iff.1 h
          by_cases cL4 : eqI v15010_1.1 v15000_1.1 = true
          · rw [if_pos cL4] at h
            by_cases cL5 : v15000_1.2.2 = true
            · rw [if_pos cL5] at h
              obtain rfl := Option.some.inj h
              show LT _ _ _ _ (.fin (.bool false) [])
              exact LT.done mixed (hs := ⟨[], [], false, [], []⟩) (es := none) [.n x1.length, .d true, .d true, .d true, .d true, .n x1.length, .d true, .d true, .row [(.int .u8 v15010_1.1)], .d true, .d true, .d true, .d true, .d true, .d true, .d true, .d true] [⟨cL5⟩, ⟨cL4⟩, ⟨cL4⟩, ⟨cL4⟩, ⟨(nT cL1)⟩, ⟨(nT cL1)⟩, ⟨(nT cL1)⟩, ⟨(nT cL1)⟩, ⟨(cells_map (e := e_u8_i64_b) eL3 3 0 1 (by decide))⟩, ⟨(nT cL1)⟩, ⟨(nT cL1)⟩, ⟨cL2⟩, ⟨(len_map e_u8_i64_b x1)⟩, ⟨(nT cL1)⟩, ⟨(nT cL1)⟩, ⟨(nT cL1)⟩, ⟨cL0⟩, ⟨(len_map e_u8_i64_b x1)⟩] (by kernel_rfl) (fun s h => by cases h)
            · rw [if_neg cL5] at h
              replace cL5 := eqf cL5
              exact LT.next mixed (hs := ⟨[(0, []), (3, []), (4, []), (5, [])], [⟨.tmp 4, [], none⟩], false, [], []⟩) (es := none) [.n x1.length, .d true, .d true, .d true, .d true, .n x1.length, .d true, .d true, .row [(.int .u8 v15010_1.1)], .d true, .d true, .d true, .d true, .d true, .d true, .d true, .d false] [⟨cL5⟩, ⟨cL4⟩, ⟨cL4⟩, ⟨cL4⟩, ⟨(nT cL1)⟩, ⟨(nT cL1)⟩, ⟨(nT cL1)⟩, ⟨(nT cL1)⟩, ⟨(cells_map (e := e_u8_i64_b) eL3 3 0 1 (by decide))⟩, ⟨(nT cL1)⟩, ⟨(nT cL1)⟩, ⟨cL2⟩, ⟨(len_map e_u8_i64_b x1)⟩, ⟨(nT cL1)⟩, ⟨(nT cL1)⟩, ⟨(nT cL1)⟩, ⟨cL0⟩, ⟨(len_map e_u8_i64_b x1)⟩] (by kernel_rfl) (ok_ref07_Right_l1 x1 v15000_1 y k (iadd .i64 v15011_1 1) v15011_2 h)
          · rw [if_neg cL4] at h
            replace cL4 := eqf cL4
            exact LT.next mixed (hs := ⟨[(0, []), (3, []), (4, []), (5, [])], [⟨.tmp 4, [], none⟩], false, [], []⟩) (es := none) [.n x1.length, .d true, .d true, .d true, .d true, .n x1.length, .d true, .d true, .row [(.int .u8 v15010_1.1)], .d true, .d true, .d true, .d true, .d false, .d false, .d false, .d false] [⟨(rfl : false = false)⟩, ⟨cL4⟩, ⟨cL4⟩, ⟨cL4⟩, ⟨(nT cL1)⟩, ⟨(nT cL1)⟩, ⟨(nT cL1)⟩, ⟨(nT cL1)⟩, ⟨(cells_map (e := e_u8_i64_b) eL3 3 0 1 (by decide))⟩, ⟨(nT cL1)⟩, ⟨(nT cL1)⟩, ⟨cL2⟩, ⟨(len_map e_u8_i64_b x1)⟩, ⟨(nT cL1)⟩, ⟨(nT cL1)⟩, ⟨(nT cL1)⟩, ⟨cL0⟩, ⟨(len_map e_u8_i64_b x1)⟩] (by kernel_rfl) (ok_ref07_Right_l1 x1 v15000_1 y k (iadd .i64 v15011_1 1) v15011_2 h)
        · rw [if_neg cL2] at h
          replace cL2 := eqf cL2
          cases h
    · rw [if_neg cL0] at h
      replace cL0 := eqf cL0
      obtain rfl := Option.some.inj h
      show LT _ _ _ _ (.st (.exit 2) (E15_1_2 x1 v15011_2))
      exact LT.done mixed (hs := ⟨[], [], false, [], []⟩) (es := (some ⟨[(0, []), (3, [])], [], false, [], []⟩)) [.n x1.length, .d false] [⟨cL0⟩, ⟨(len_map e_u8_i64_b x1)⟩] (by kernel_rfl) (fun s h => by cases h)
theorem ok_ref07_Right_l0 (x1 : List (Int × Int × Bool)) (y : (Sum (Unit) (Bool))) : ∀ (k : Nat) (v15001_1 : Int), ref07_Right_l0 k x1 v15001_1 = some y → LT Try.prog X15 L15_0 (S15_0 x1 v15001_1) (O15_0 x1 y)
  | 0, v15001_1, h => by cases h
  | k + 1, v15001_1, h => by
    rw [ref07_Right_l0] at h
    by_cases cL0 : ltI v15001_1 (nI x1.length) = true
    · rw [if_pos cL0] at h
      by_cases cL1 : inI v15001_1 x1.length = true
      · rw [if_pos cL1] at h
        obtain ⟨v15000_1, eL2, h⟩ := Option.bind_eq_some_iff.1 h
        by_cases cL3 : (ref07_may v15000_1.2.1 v15000_1.1) = true
        · rw [if_pos cL3] at h
          by_cases cL4 : ltI 0 v15001_1 = true
          · rw [if_pos cL4] at h
            by_cases cL5 : inI (isub .i64 v15001_1 1) x1.length = true
            · rw [if_pos cL5] at h
              obtain ⟨v15000_2, eL6, h⟩ := Option.bind_eq_some_iff.1 h
              by_cases cL7 : ltI v15000_2.1 v15000_1.1 = true
              · rw [if_pos cL7] at h
                obtain ⟨v15000_3, eL8, h⟩ := Option.bind_eq_some_iff.1 h
                cases v15000_3 with
                | inl v15000_4 =>
                  simp only [Sum.elim_inl] at h
                  exact LT.next mixed (hs := ⟨[(0, []), (3, [])], [], false, [], []⟩) (es := none) [.n x1.length, .d true, .n x1.length, .row [(.int .u8 v15000_1.1), (.int .i64 v15000_1.2.1), (.bool v15000_1.2.2)], .call ⟨true, []⟩ (.bool (ref07_may v15000_1.2.1 v15000_1.1)) [], .d false, .d true, .d true, .d true, .d true, .n x1.length, .d true, .d true, .row [(.int .u8 v15000_2.1)], .d true, .d true, .d true, .d true, .d true, .d true, .d true, .d true, .d true, .d true, .d true, .d true, .d true, .d true, .d true, .d true, .d true, .d true, .d true, .d false, .norm 8 ⟨[(0, []), (3, []), (4, []), (5, [])], [⟨.tmp 4, [], none⟩], false, [], []⟩, .out (.st .normal (E15_1_2 x1 v15000_4))] [⟨(LT.block (ok_ref07_Right_l1 x1 v15000_1 _ k 0 v15001_1 eL8))⟩, ⟨(nF rfl)⟩, ⟨cL4⟩, ⟨cL4⟩, ⟨cL7⟩, ⟨cL4⟩, ⟨cL7⟩, ⟨cL7⟩, ⟨cL7⟩, ⟨cL7⟩, ⟨cL7⟩, ⟨cL7⟩, ⟨cL7⟩, ⟨cL7⟩, ⟨cL7⟩, ⟨cL7⟩, ⟨cL7⟩, ⟨cL4⟩, ⟨cL4⟩, ⟨cL4⟩, ⟨cL4⟩, ⟨(cells_map (e := e_u8_i64_b) eL6 3 0 1 (by decide))⟩, ⟨cL4⟩, ⟨cL4⟩, ⟨cL5⟩, ⟨(len_map e_u8_i64_b x1)⟩, ⟨cL4⟩, ⟨cL4⟩, ⟨cL4⟩, ⟨cL4⟩, ⟨(nF cL3)⟩, ⟨(ok_ref07_may v15000_1.2.1 v15000_1.1)⟩, ⟨(cells_map (e := e_u8_i64_b) eL2 3 0 3 (by decide))⟩, ⟨cL1⟩, ⟨(len_map e_u8_i64_b x1)⟩, ⟨cL0⟩, ⟨(len_map e_u8_i64_b x1)⟩] (by kernel_rfl) (ok_ref07_Right_l0 x1 y k (iadd .i64 v15000_4 1) h)
                | inr v15000_4 =>
                  simp only [Sum.elim_inr] at h
                  obtain rfl := Option.some.inj h
                  show LT _ _ _ _ (.fin (.bool v15000_4) [])
                  exact LT.done mixed (hs := ⟨[], [], false, [], []⟩) (es := none) [.n x1.length, .d true, .n x1.length, .row [(.int .u8 v15000_1.1), (.int .i64 v15000_1.2.1), (.bool v15000_1.2.2)], .call ⟨true, []⟩ (.bool (ref07_may v15000_1.2.1 v15000_1.1)) [], .d false, .d true, .d true, .d true, .d true, .n x1.length, .d true, .d true, .row [(.int .u8 v15000_2.1)], .d true, .d true, .d true, .d true, .d true, .d true, .d true, .d true, .d true, .d true, .d true, .d true, .d true, .d true, .d true, .d true, .d true, .d true, .d true, .d false, .norm 8 ⟨[(0, []), (3, []), (4, []), (5, [])], [⟨.tmp 4, [], none⟩], false, [], []⟩, .out (.fin (.bool v15000_4) [])] [⟨(LT.blockFin (id := 2) (ok_ref07_Right_l1 x1 v15000_1 _ k 0 v15001_1 eL8))⟩, ⟨(nF rfl)⟩, ⟨cL4⟩, ⟨cL4⟩, ⟨cL7⟩, ⟨cL4⟩, ⟨cL7⟩, ⟨cL7⟩, ⟨cL7⟩, ⟨cL7⟩, ⟨cL7⟩, ⟨cL7⟩, ⟨cL7⟩, ⟨cL7⟩, ⟨cL7⟩, ⟨cL7⟩, ⟨cL7⟩, ⟨cL4⟩, ⟨cL4⟩, ⟨cL4⟩, ⟨cL4⟩, ⟨(cells_map (e := e_u8_i64_b) eL6 3 0 1 (by decide))⟩, ⟨cL4⟩, ⟨cL4⟩, ⟨cL5⟩, ⟨(len_map e_u8_i64_b x1)⟩, ⟨cL4⟩, ⟨cL4⟩, ⟨cL4⟩, ⟨cL4⟩, ⟨(nF cL3)⟩, ⟨(ok_ref07_may v15000_1.2.1 v15000_1.1)⟩, ⟨(cells_map (e := e_u8_i64_b) eL2 3 0 3 (by decide))⟩, ⟨cL1⟩, ⟨(len_map e_u8_i64_b x1)⟩, ⟨cL0⟩, ⟨(len_map e_u8_i64_b x1)⟩] (by kernel_rfl) (fun s h => by cases h)
              · rw [if_neg cL7] at h
                replace cL7 := eqf cL7
                by_cases cL8 : eqI v15000_2.1 v15000_1.1 = true
                · rw [if_pos cL8] at h
                  by_cases cL9 : ltI v15000_2.2.1 v15000_1.2.1 = true
                  · rw [if_pos cL9] at h
                    obtain ⟨v15000_3, eL10, h⟩ := Option.bind_eq_some_iff.1 h
                    cases v15000_3 with
                    | inl v15000_4 =>
                      simp only [Sum.elim_inl] at h
                      exact LT.next mixed (hs := ⟨[(0, []), (3, [])], [], false, [], []⟩) (es := none) [.n x1.length, .d true, .n x1.length, .row [(.int .u8 v15000_1.1), (.int .i64 v15000_1.2.1), (.bool v15000_1.2.2)], .call ⟨true, []⟩ (.bool (ref07_may v15000_1.2.1 v15000_1.1)) [], .d false, .d true, .d true, .d true, .d true, .n x1.length, .d true, .d true, .row [(.int .u8 v15000_2.1)], .d true, .d true, .d true, .d true, .d false, .d false, .d false, .d false, .n x1.length, .d false, .d false, .row [(.int .u8 v15000_2.1)], .d false, .d false, .d false, .d false, .d true, .d true, .d true, .d true, .n x1.length, .d true, .d true, .row [(.int .i64 v15000_2.2.1)], .d true, .d true, .d true, .d false, .d true, .d true, .d false, .d true, .d true, .d false, .norm 8 ⟨[(0, []), (3, []), (4, []), (5, [])], [⟨.tmp 4, [], none⟩], false, [], []⟩, .out (.st .normal (E15_1_2 x1 v15000_4))] [⟨(LT.block (ok_ref07_Right_l1 x1 v15000_1 _ k 0 v15001_1 eL10))⟩, ⟨(nF cL9)⟩, ⟨cL4⟩, ⟨cL4⟩, ⟨cL7⟩, ⟨cL4⟩, ⟨cL8⟩, ⟨cL7⟩, ⟨cL8⟩, ⟨cL8⟩, ⟨cL8⟩, ⟨(cells_map (e := e_u8_i64_b) eL6 3 1 1 (by decide))⟩, ⟨cL8⟩, ⟨cL8⟩, ⟨cL5⟩, ⟨(len_map e_u8_i64_b x1)⟩, ⟨cL8⟩, ⟨cL8⟩, ⟨cL8⟩, ⟨cL8⟩, ⟨cL7⟩, ⟨cL7⟩, ⟨cL7⟩, ⟨cL7⟩, ⟨(cells_map (e := e_u8_i64_b) eL6 3 0 1 (by decide))⟩, ⟨cL7⟩, ⟨cL7⟩, ⟨cL5⟩, ⟨(len_map e_u8_i64_b x1)⟩, ⟨cL7⟩, ⟨cL7⟩, ⟨cL7⟩, ⟨cL7⟩, ⟨cL4⟩, ⟨cL4⟩, ⟨cL4⟩, ⟨cL4⟩, ⟨(cells_map (e := e_u8_i64_b) eL6 3 0 1 (by decide))⟩, ⟨cL4⟩, ⟨cL4⟩, ⟨cL5⟩, ⟨(len_map e_u8_i64_b x1)⟩, ⟨cL4⟩, ⟨cL4⟩, ⟨cL4⟩, ⟨cL4⟩, ⟨(nF cL3)⟩, ⟨(ok_ref07_may v15000_1.2.1 v15000_1.1)⟩, ⟨(cells_map (e := e_u8_i64_b) eL2 3 0 3 (by decide))⟩, ⟨cL1⟩, ⟨(len_map e_u8_i64_b x1)⟩, ⟨cL0⟩, ⟨(len_map e_u8_i64_b x1)⟩] (by kernel_rfl) (ok_ref07_Right_l0 x1 y k (iadd .i64 v15000_4 1) h)
                    | inr v15000_4 =>
                      simp only [Sum.elim_inr] at h
                      obtain rfl := Option.some.inj h
                      show LT _ _ _ _ (.fin (.bool v15000_4) [])
                      exact LT.done mixed (hs := ⟨[], [], false, [], []⟩) (es := none) [.n x1.length, .d true, .n x1.length, .row [(.int .u8 v15000_1.1), (.int .i64 v15000_1.2.1), (.bool v15000_1.2.2)], .call ⟨true, []⟩ (.bool (ref07_may v15000_1.2.1 v15000_1.1)) [], .d false, .d true, .d true, .d true, .d true, .n x1.length, .d true, .d true, .row [(.int .u8 v15000_2.1)], .d true, .d true, .d true, .d true, .d false, .d false, .d false, .d false, .n x1.length, .d false, .d false, .row [(.int .u8 v15000_2.1)], .d false, .d false, .d false, .d false, .d true, .d true, .d true, .d true, .n x1.length, .d true, .d true, .row [(.int .i64 v15000_2.2.1)], .d true, .d true, .d true, .d false, .d true, .d true, .d false, .d true, .d true, .d false, .norm 8 ⟨[(0, []), (3, []), (4, []), (5, [])], [⟨.tmp 4, [], none⟩], false, [], []⟩, .out (.fin (.bool v15000_4) [])] [⟨(LT.blockFin (id := 2) (ok_ref07_Right_l1 x1 v15000_1 _ k 0 v15001_1 eL10))⟩, ⟨(nF cL9)⟩, ⟨cL4⟩, ⟨cL4⟩, ⟨cL7⟩, ⟨cL4⟩, ⟨cL8⟩, ⟨cL7⟩, ⟨cL8⟩, ⟨cL8⟩, ⟨cL8⟩, ⟨(cells_map (e := e_u8_i64_b) eL6 3 1 1 (by decide))⟩, ⟨cL8⟩, ⟨cL8⟩, ⟨cL5⟩, ⟨(len_map e_u8_i64_b x1)⟩, ⟨cL8⟩, ⟨cL8⟩, ⟨cL8⟩, ⟨cL8⟩, ⟨cL7⟩, ⟨cL7⟩, ⟨cL7⟩, ⟨cL7⟩, ⟨(cells_map (e := e_u8_i64_b) eL6 3 0 1 (by decide))⟩, ⟨cL7⟩, ⟨cL7⟩, ⟨cL5⟩, ⟨(len_map e_u8_i64_b x1)⟩, ⟨cL7⟩, ⟨cL7⟩, ⟨cL7⟩, ⟨cL7⟩, ⟨cL4⟩, ⟨cL4⟩, ⟨cL4⟩, ⟨cL4⟩, ⟨(cells_map (e := e_u8_i64_b) eL6 3 0 1 (by decide))⟩, ⟨cL4⟩, ⟨cL4⟩, ⟨cL5⟩, ⟨(len_map e_u8_i64_b x1)⟩, ⟨cL4⟩, ⟨cL4⟩, ⟨cL4⟩, ⟨cL4⟩, ⟨(nF cL3)⟩, ⟨(ok_ref07_may v15000_1.2.1 v15000_1.1)⟩, ⟨(cells_map (e := e_u8_i64_b) eL2 3 0 3 (by decide))⟩, ⟨cL1⟩, ⟨(len_map e_u8_i64_b x1)⟩, ⟨cL0⟩, ⟨(len_map e_u8_i64_b x1)⟩] (by kernel_rfl) (fun s h => by cases h)
                  · rw [if_neg cL9] at h
                    replace cL9 := eqf cL9
                    obtain rfl := Option.some.inj h
                    show LT _ _ _ _ (.fin (.bool false) [])
                    exact LT.done mixed (hs := ⟨[], [], false, [], []⟩) (es := none) [.n x1.length, .d true, .n x1.length, .row [(.int .u8 v15000_1.1), (.int .i64 v15000_1.2.1), (.bool v15000_1.2.2)], .call ⟨true, []⟩ (.bool (ref07_may v15000_1.2.1 v15000_1.1)) [], .d false, .d true, .d true, .d true, .d true, .n x1.length, .d true, .d true, .row [(.int .u8 v15000_2.1)], .d true, .d true, .d true, .d true, .d false, .d false, .d false, .d false, .n x1.length, .d false, .d false, .row [(.int .u8 v15000_2.1)], .d false, .d false, .d false, .d false, .d true, .d true, .d true, .d true, .n x1.length, .d true, .d true, .row [(.int .i64 v15000_2.2.1)], .d true, .d true, .d true, .d false, .d true, .d true, .d false, .d true, .d true, .d true] [⟨(nT cL9)⟩, ⟨cL4⟩, ⟨cL4⟩, ⟨cL7⟩, ⟨cL4⟩, ⟨cL8⟩, ⟨cL7⟩, ⟨cL8⟩, ⟨cL8⟩, ⟨cL8⟩, ⟨(cells_map (e := e_u8_i64_b) eL6 3 1 1 (by decide))⟩, ⟨cL8⟩, ⟨cL8⟩, ⟨cL5⟩, ⟨(len_map e_u8_i64_b x1)⟩, ⟨cL8⟩, ⟨cL8⟩, ⟨cL8⟩, ⟨cL8⟩, ⟨cL7⟩, ⟨cL7⟩, ⟨cL7⟩, ⟨cL7⟩, ⟨(cells_map (e := e_u8_i64_b) eL6 3 0 1 (by decide))⟩, ⟨cL7⟩, ⟨cL7⟩, ⟨cL5⟩, ⟨(len_map e_u8_i64_b x1)⟩, ⟨cL7⟩, ⟨cL7⟩, ⟨cL7⟩, ⟨cL7⟩, ⟨cL4⟩, ⟨cL4⟩, ⟨cL4⟩, ⟨cL4⟩, ⟨(cells_map (e := e_u8_i64_b) eL6 3 0 1 (by decide))⟩, ⟨cL4⟩, ⟨cL4⟩, ⟨cL5⟩, ⟨(len_map e_u8_i64_b x1)⟩, ⟨cL4⟩, ⟨cL4⟩, ⟨cL4⟩, ⟨cL4⟩, ⟨(nF cL3)⟩, ⟨(ok_ref07_may v15000_1.2.1 v15000_1.1)⟩, ⟨(cells_map (e := e_u8_i64_b) eL2 3 0 3 (by decide))⟩, ⟨cL1⟩, ⟨(len_map e_u8_i64_b x1)⟩, ⟨cL0⟩, ⟨(len_map e_u8_i64_b x1)⟩] (by kernel_rfl) (fun s h => by cases h)
                · rw [if_neg cL8] at h
                  replace cL8 := eqf cL8
                  obtain rfl := Option.some.inj h
                  show LT _ _ _ _ (.fin (.bool false) [])
                  exact LT.done mixed (hs := ⟨[], [], false, [], []⟩) (es := none) [.n x1.length, .d true, .n x1.length, .row [(.int .u8 v15000_1.1), (.int .i64 v15000_1.2.1), (.bool v15000_1.2.2)], .call ⟨true, []⟩ (.bool (ref07_may v15000_1.2.1 v15000_1.1)) [], .d false, .d true, .d true, .d true, .d true, .n x1.length, .d true, .d true, .row [(.int .u8 v15000_2.1)], .d true, .d true, .d true, .d true, .d false, .d false, .d false, .d false, .n x1.length, .d false, .d false, .row [(.int .u8 v15000_2.1)], .d false, .d false, .d false, .d false, .d false, .d false, .d false, .d false, .d false, .d false, .d false, .d false, .d false, .d false, .d false, .d true, .d false, .d true, .d true, .d true] [⟨(nT rfl)⟩, ⟨cL4⟩, ⟨cL4⟩, ⟨cL7⟩, ⟨cL4⟩, ⟨cL8⟩, ⟨cL7⟩, ⟨cL8⟩, ⟨cL8⟩, ⟨cL8⟩, ⟨cL8⟩, ⟨cL8⟩, ⟨cL8⟩, ⟨cL8⟩, ⟨cL8⟩, ⟨cL8⟩, ⟨cL7⟩, ⟨cL7⟩, ⟨cL7⟩, ⟨cL7⟩, ⟨(cells_map (e := e_u8_i64_b) eL6 3 0 1 (by decide))⟩, ⟨cL7⟩, ⟨cL7⟩, ⟨cL5⟩, ⟨(len_map e_u8_i64_b x1)⟩, ⟨cL7⟩, ⟨cL7⟩, ⟨cL7⟩, ⟨cL7⟩, ⟨cL4⟩, ⟨cL4⟩, ⟨cL4⟩, ⟨cL4⟩, ⟨(cells_map (e := e_u8_i64_b) eL6 3 0 1 (by decide))⟩, ⟨cL4⟩, ⟨cL4⟩, ⟨cL5⟩, ⟨(len_map e_u8_i64_b x1)⟩, ⟨cL4⟩, ⟨cL4⟩, ⟨cL4⟩, ⟨cL4⟩, ⟨(nF cL3)⟩, ⟨(ok_ref07_may v15000_1.2.1 v15000_1.1)⟩, ⟨(cells_map (e := e_u8_i64_b) eL2 3 0 3 (by decide))⟩, ⟨cL1⟩, ⟨(len_map e_u8_i64_b x1)⟩, ⟨cL0⟩, ⟨(len_map e_u8_i64_b x1)⟩] (by kernel_rfl) (fun s h => by cases h)
            · rw [if_neg cL5] at h
              replace cL5 := eqf cL5
              cases h
          · rw [if_neg cL4] at h
            replace cL4 := eqf cL4
            obtain ⟨v15000_2, eL5, h⟩ := Option.bind_eq_some_iff.1 h
            cases v15000_2 with
            | inl v15000_3 =>
              simp only [Sum.elim_inl] at h
              exact LT.next mixed (hs := ⟨[(0, []), (3, [])], [], false, [], []⟩) (es := none) [.n x1.length, .d true, .n x1.length, .row [(.int .u8 v15000_1.1), (.int .i64 v15000_1.2.1), (.bool v15000_1.2.2)], .call ⟨true, []⟩ (.bool (ref07_may v15000_1.2.1 v15000_1.1)) [], .d false, .d false, .d false, .d false, .d false, .d false, .d false, .d false, .d false, .d false, .d false, .d false, .d false, .d false, .d false, .norm 8 ⟨[(0, []), (3, []), (4, []), (5, [])], [⟨.tmp 4, [], none⟩], false, [], []⟩, .out (.st .normal (E15_1_2 x1 v15000_3))] [⟨(LT.block (ok_ref07_Right_l1 x1 v15000_1 _ k 0 v15001_1 eL5))⟩, ⟨(rfl : false = false)⟩, ⟨cL4⟩, ⟨cL4⟩, ⟨cL4⟩, ⟨cL4⟩, ⟨cL4⟩, ⟨cL4⟩, ⟨cL4⟩, ⟨cL4⟩, ⟨cL4⟩, ⟨cL4⟩, ⟨cL4⟩, ⟨cL4⟩, ⟨cL4⟩, ⟨(nF cL3)⟩, ⟨(ok_ref07_may v15000_1.2.1 v15000_1.1)⟩, ⟨(cells_map (e := e_u8_i64_b) eL2 3 0 3 (by decide))⟩, ⟨cL1⟩, ⟨(len_map e_u8_i64_b x1)⟩, ⟨cL0⟩, ⟨(len_map e_u8_i64_b x1)⟩] (by kernel_rfl) (ok_ref07_Right_l0 x1 y k (iadd .i64 v15000_3 1) h)
            | inr v15000_3 =>
              simp only [Sum.elim_inr] at h
              obtain rfl := Option.some.inj h
              show LT _ _ _ _ (.fin (.bool v15000_3) [])
              exact LT.done mixed (hs := ⟨[], [], false, [], []⟩) (es := none) [.n x1.length, .d true, .n x1.length, .row [(.int .u8 v15000_1.1), (.int .i64 v15000_1.2.1), (.bool v15000_1.2.2)], .call ⟨true, []⟩ (.bool (ref07_may v15000_1.2.1 v15000_1.1)) [], .d false, .d false, .d false, .d false, .d false, .d false, .d false, .d false, .d false, .d false, .d false, .d false, .d false, .d false, .d false, .norm 8 ⟨[(0, []), (3, []), (4, []), (5, [])], [⟨.tmp 4, [], none⟩], false, [], []⟩, .out (.fin (.bool v15000_3) [])] [⟨(LT.blockFin (id := 2) (ok_ref07_Right_l1 x1 v15000_1 _ k 0 v15001_1 eL5))⟩, ⟨(rfl : false = false)⟩, ⟨cL4⟩, ⟨cL4⟩, ⟨cL4⟩, ⟨cL4⟩, ⟨cL4⟩, ⟨cL4⟩, ⟨cL4⟩, ⟨cL4⟩, ⟨cL4⟩, ⟨cL4⟩, ⟨cL4⟩, ⟨cL4⟩, ⟨cL4⟩, ⟨(nF cL3)⟩, ⟨(ok_ref07_may v15000_1.2.1 v15000_1.1)⟩, ⟨(cells_map (e := e_u8_i64_b) eL2 3 0 3 (by decide))⟩, ⟨cL1⟩, ⟨(len_map e_u8_i64_b x1)⟩, ⟨cL0⟩, ⟨(len_map e_u8_i64_b x1)⟩] (by kernel_rfl) (fun s h => by cases h)
        · rw [if_neg cL3] at h
          replace cL3 := eqf cL3
          obtain rfl := Option.some.inj h
          show LT _ _ _ _ (.fin (.bool false) [])
          exact LT.done mixed (hs := ⟨[], [], false, [], []⟩) (es := none) [.n x1.length, .d true, .n x1.length, .row [(.int .u8 v15000_1.1), (.int .i64 v15000_1.2.1), (.bool v15000_1.2.2)], .call ⟨true, []⟩ (.bool (ref07_may v15000_1.2.1 v15000_1.1)) [], .d true] [⟨(nT cL3)⟩, ⟨(ok_ref07_may v15000_1.2.1 v15000_1.1)⟩, ⟨(cells_map (e := e_u8_i64_b) eL2 3 0 3 (by decide))⟩, ⟨cL1⟩, ⟨(len_map e_u8_i64_b x1)⟩, ⟨cL0⟩, ⟨(len_map e_u8_i64_b x1)⟩] (by kernel_rfl) (fun s h => by cases h)
      · rw [if_neg cL1] at h
        replace cL1 := eqf cL1
        cases h
    · rw [if_neg cL0] at h
      replace cL0 := eqf cL0
      obtain rfl := Option.some.inj h
      show LT _ _ _ _ (.st (.exit 0) (E15_0_0))
      exact LT.done mixed (hs := ⟨[], [], false, [], []⟩) (es := (some ⟨[], [], false, [], []⟩)) [.n x1.length, .d false] [⟨cL0⟩, ⟨(len_map e_u8_i64_b x1)⟩] (by kernel_rfl) (fun s h => by cases h)
theorem ok_ref07_Right (k : Nat) (x1 : List (Int × Int × Bool)) (r : Bool) (h : ref07_Right k x1 = some r) : Tri Try.prog 15 [(.sl 3 (List.map e_u8_i64_b x1))] [] (.bool r) [] := by
    unfold ref07_Right at h
    obtain ⟨x2, e0, h⟩ := Option.bind_eq_some_iff.1 h
    cases x2 with
    | inl x3 =>
      simp only [Sum.elim_inl] at h
      obtain rfl := Option.some.inj h
      exact Tri.of (x := X15) mixed facts15 [.norm 2 ⟨[(0, []), (3, [])], [], false, [], []⟩, .out (.st .normal (E15_0_0))] [⟨(LT.block (ok_ref07_Right_l0 x1 _ k 0 e0))⟩] (by kernel_rfl)
    | inr x3 =>
      simp only [Sum.elim_inr] at h
      obtain rfl := Option.some.inj h
      exact Tri.of (x := X15) mixed facts15 [.norm 2 ⟨[(0, []), (3, [])], [], false, [], []⟩, .out (.fin (.bool x3) [])] [⟨(LT.blockFin (id := 0) (ok_ref07_Right_l0 x1 _ k 0 e0))⟩] (by kernel_rfl)
end Go.Ws
