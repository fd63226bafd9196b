/-
  ref07_Holds: what the machine makes of it. (Printed by my own program.)
  Conditions: none.
-/
import Derived.Test.YtmjllcefknaneaaZPre
import Derived.Test.YtmjllcefknaneaaZPure
set_option linter.unusedVariables false
set_option linter.unusedSimpArgs false
namespace Go.Ws
open Go.Proofs
set_option linter.unusedSimpArgs false
set_option linter.unusedVariables false
set_option maxRecDepth 1000000
set_option maxHeartbeats 4000000
noncomputable def X21 : Ctx := ⟨Try.f21, [], true⟩
noncomputable def L21_0 : Code := at_ Try.f21 [1, 0, 1, 4, 5]
def S21_0 (x1 : List (Int × Int × Bool)) (x2 : Int) (x3 : Int) (v21001_1 : Int) : St := ⟨mkT 35 [(0, (.sl 3 (List.map e_u8_i64_b x1))), (1, (.int .i64 x2)), (2, (.int .u8 x3)), (7, (.int .i64 v21001_1))], []⟩
def E21_0_0 : St := ⟨mkT 35 [], []⟩
def O21_0 (x1 : List (Int × Int × Bool)) (x2 : Int) (x3 : Int) (y : (Sum (Unit) (Int))) : GX := match y with
  | .inl y => .st (.exit 0) (E21_0_0)
  | .inr y => .fin (.int .i64 y) []
theorem ok_ref07_Holds_l0 (x1 : List (Int × Int × Bool)) (x2 : Int) (x3 : Int) (y : (Sum (Unit) (Int))) : ∀ (k : Nat) (v21001_1 : Int), ref07_Holds_l0 k x1 x2 x3 v21001_1 = some y → LT Try.prog X21 L21_0 (S21_0 x1 x2 x3 v21001_1) (O21_0 x1 x2 x3 y)
  | 0, v21001_1, h => by cases h
  | k + 1, v21001_1, h => by
    rw [ref07_Holds_l0] at h
    by_cases cL0 : ltI v21001_1 (nI x1.length) = true
    · rw [if_pos cL0] at h
      by_cases cL1 : inI v21001_1 x1.length = true
      · rw [if_pos cL1] at h
        obtain ⟨v21000_1, eL2, h⟩ := Option.bind_eq_some_iff.1 h
        by_cases cL3 : eqI v21000_1.1 x3 = true
        · rw [if_pos cL3] at h
          by_cases cL4 : eqI v21000_1.2.1 x2 = true
          · rw [if_pos cL4] at h
            by_cases cL5 : v21000_1.2.2 = true
            · rw [if_pos cL5] at h
              obtain rfl := Option.some.inj h
              show LT _ _ _ _ (.fin (.int .i64 2) [])
              exact LT.done mixed (hs := ⟨[], [], false, [], []⟩) (es := none) [.n x1.length, .d true, .n x1.length, .row [(.int .u8 v21000_1.1)], .d true, .d true, .d true, .n x1.length, .d true, .d true, .row [(.int .i64 v21000_1.2.1)], .d true, .d true, .d true, .d true, .n x1.length, .row [(.bool v21000_1.2.2)], .d true] [⟨cL5⟩, ⟨(cells_map (e := e_u8_i64_b) eL2 3 2 1 (by decide))⟩, ⟨cL1⟩, ⟨(len_map e_u8_i64_b x1)⟩, ⟨cL4⟩, ⟨cL3⟩, ⟨cL3⟩, ⟨cL3⟩, ⟨(cells_map (e := e_u8_i64_b) eL2 3 1 1 (by decide))⟩, ⟨cL3⟩, ⟨cL3⟩, ⟨cL1⟩, ⟨(len_map e_u8_i64_b x1)⟩, ⟨cL3⟩, ⟨cL3⟩, ⟨cL3⟩, ⟨(cells_map (e := e_u8_i64_b) eL2 3 0 1 (by decide))⟩, ⟨cL1⟩, ⟨(len_map e_u8_i64_b x1)⟩, ⟨cL0⟩, ⟨(len_map e_u8_i64_b x1)⟩] (by kernel_rfl) (fun s h => by cases h)
            · rw [if_neg cL5] at h
              replace cL5 := eqf cL5
              obtain rfl := Option.some.inj h
              show LT _ _ _ _ (.fin (.int .i64 1) [])
              exact LT.done mixed (hs := ⟨[], [], false, [], []⟩) (es := none) [.n x1.length, .d true, .n x1.length, .row [(.int .u8 v21000_1.1)], .d true, .d true, .d true, .n x1.length, .d true, .d true, .row [(.int .i64 v21000_1.2.1)], .d true, .d true, .d true, .d true, .n x1.length, .row [(.bool v21000_1.2.2)], .d false] [⟨cL5⟩, ⟨(cells_map (e := e_u8_i64_b) eL2 3 2 1 (by decide))⟩, ⟨cL1⟩, ⟨(len_map e_u8_i64_b x1)⟩, ⟨cL4⟩, ⟨cL3⟩, ⟨cL3⟩, ⟨cL3⟩, ⟨(cells_map (e := e_u8_i64_b) eL2 3 1 1 (by decide))⟩, ⟨cL3⟩, ⟨cL3⟩, ⟨cL1⟩, ⟨(len_map e_u8_i64_b x1)⟩, ⟨cL3⟩, ⟨cL3⟩, ⟨cL3⟩, ⟨(cells_map (e := e_u8_i64_b) eL2 3 0 1 (by decide))⟩, ⟨cL1⟩, ⟨(len_map e_u8_i64_b x1)⟩, ⟨cL0⟩, ⟨(len_map e_u8_i64_b x1)⟩] (by kernel_rfl) (fun s h => by cases h)
          · rw [if_neg cL4] at h
            replace cL4 := eqf cL4
            exact LT.next mixed (hs := ⟨[(0, []), (1, []), (2, []), (7, [])], [], false, [], []⟩) (es := none) [.n x1.length, .d true, .n x1.length, .row [(.int .u8 v21000_1.1)], .d true, .d true, .d true, .n x1.length, .d true, .d true, .row [(.int .i64 v21000_1.2.1)], .d true, .d true, .d true, .d false] [⟨cL4⟩, ⟨cL3⟩, ⟨cL3⟩, ⟨cL3⟩, ⟨(cells_map (e := e_u8_i64_b) eL2 3 1 1 (by decide))⟩, ⟨cL3⟩, ⟨cL3⟩, ⟨cL1⟩, ⟨(len_map e_u8_i64_b x1)⟩, ⟨cL3⟩, ⟨cL3⟩, ⟨cL3⟩, ⟨(cells_map (e := e_u8_i64_b) eL2 3 0 1 (by decide))⟩, ⟨cL1⟩, ⟨(len_map e_u8_i64_b x1)⟩, ⟨cL0⟩, ⟨(len_map e_u8_i64_b x1)⟩] (by kernel_rfl) (ok_ref07_Holds_l0 x1 x2 x3 y k (iadd .i64 v21001_1 1) h)
        · rw [if_neg cL3] at h
          replace cL3 := eqf cL3
          exact LT.next mixed (hs := ⟨[(0, []), (1, []), (2, []), (7, [])], [], false, [], []⟩) (es := none) [.n x1.length, .d true, .n x1.length, .row [(.int .u8 v21000_1.1)], .d false, .d false, .d false, .d false, .d false, .d false, .d false, .d false, .d false] [⟨(rfl : false = false)⟩, ⟨cL3⟩, ⟨cL3⟩, ⟨cL3⟩, ⟨cL3⟩, ⟨cL3⟩, ⟨cL3⟩, ⟨cL3⟩, ⟨cL3⟩, ⟨(cells_map (e := e_u8_i64_b) eL2 3 0 1 (by decide))⟩, ⟨cL1⟩, ⟨(len_map e_u8_i64_b x1)⟩, ⟨cL0⟩, ⟨(len_map e_u8_i64_b x1)⟩] (by kernel_rfl) (ok_ref07_Holds_l0 x1 x2 x3 y k (iadd .i64 v21001_1 1) h)
      · rw [if_neg cL1] at h
        replace cL1 := eqf cL1
        cases h
    · rw [if_neg cL0] at h
      replace cL0 := eqf cL0
      obtain rfl := Option.some.inj h
      show LT _ _ _ _ (.st (.exit 0) (E21_0_0))
      exact LT.done mixed (hs := ⟨[], [], false, [], []⟩) (es := (some ⟨[], [], false, [], []⟩)) [.n x1.length, .d false] [⟨cL0⟩, ⟨(len_map e_u8_i64_b x1)⟩] (by kernel_rfl) (fun s h => by cases h)
theorem ok_ref07_Holds (k : Nat) (x1 : List (Int × Int × Bool)) (x2 : Int) (x3 : Int) (r : Int) (h : ref07_Holds k x1 x2 x3 = some r) : Tri Try.prog 21 [(.sl 3 (List.map e_u8_i64_b x1)), (.int .i64 x2), (.int .u8 x3)] [] (.int .i64 r) [] := by
    unfold ref07_Holds at h
    obtain ⟨x4, e0, h⟩ := Option.bind_eq_some_iff.1 h
    cases x4 with
    | inl x5 =>
      simp only [Sum.elim_inl] at h
      obtain rfl := Option.some.inj h
      exact Tri.of (x := X21) mixed facts21 [.norm 2 ⟨[(0, []), (1, []), (2, []), (7, [])], [], false, [], []⟩, .out (.st .normal (E21_0_0))] [⟨(LT.block (ok_ref07_Holds_l0 x1 x2 x3 _ k 0 e0))⟩] (by kernel_rfl)
    | inr x5 =>
      simp only [Sum.elim_inr] at h
      obtain rfl := Option.some.inj h
      exact Tri.of (x := X21) mixed facts21 [.norm 2 ⟨[(0, []), (1, []), (2, []), (7, [])], [], false, [], []⟩, .out (.fin (.int .i64 x5) [])] [⟨(LT.blockFin (id := 0) (ok_ref07_Holds_l0 x1 x2 x3 _ k 0 e0))⟩] (by kernel_rfl)
end Go.Ws
