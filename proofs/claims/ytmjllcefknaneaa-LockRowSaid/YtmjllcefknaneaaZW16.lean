/-
  ref07_Same: what the machine makes of it. (Printed by my own program.)
  Conditions: none.
-/
import Derived.Test.YtmjllcefknaneaaZPre
import Derived.Test.YtmjllcefknaneaaZPure
set_option linter.unusedVariables false
set_option linter.unusedSimpArgs false
namespace Go.Ws
open Go.Proofs
set_option linter.unusedSimpArgs false
set_option linter.unusedVariables false
set_option maxRecDepth 1000000
set_option maxHeartbeats 4000000
noncomputable def X16 : Ctx := ⟨Try.f16, [], true⟩
noncomputable def L16_0 : Code := at_ Try.f16 [1, 1, 0, 1, 4, 5]
def S16_0 (x1 : List (Int × Int × Bool)) (x2 : List (Int × Int × Bool)) (v16001_1 : Int) : St := ⟨mkT 26 [(0, (.sl 3 (List.map e_u8_i64_b x1))), (1, (.sl 3 (List.map e_u8_i64_b x2))), (5, (.int .i64 v16001_1))], []⟩
def E16_0_0 : St := ⟨mkT 26 [], []⟩
def O16_0 (x1 : List (Int × Int × Bool)) (x2 : List (Int × Int × Bool)) (y : (Sum (Unit) (Bool))) : GX := match y with
  | .inl y => .st (.exit 0) (E16_0_0)
  | .inr y => .fin (.bool y) []
theorem ok_ref07_Same_l0 (x1 : List (Int × Int × Bool)) (x2 : List (Int × Int × Bool)) (y : (Sum (Unit) (Bool))) : ∀ (k : Nat) (v16001_1 : Int), ref07_Same_l0 k x1 x2 v16001_1 = some y → LT Try.prog X16 L16_0 (S16_0 x1 x2 v16001_1) (O16_0 x1 x2 y)
  | 0, v16001_1, h => by cases h
  | k + 1, v16001_1, h => by
    rw [ref07_Same_l0] at h
    by_cases cL0 : ltI v16001_1 (nI x1.length) = true
    · rw [if_pos cL0] at h
      by_cases cL1 : inI v16001_1 x1.length = true
      · rw [if_pos cL1] at h
        obtain ⟨v16000_1, eL2, h⟩ := Option.bind_eq_some_iff.1 h
        by_cases cL3 : inI v16001_1 x2.length = true
        · rw [if_pos cL3] at h
          obtain ⟨v16000_2, eL4, h⟩ := Option.bind_eq_some_iff.1 h
          by_cases cL5 : eqI v16000_1.1 v16000_2.1 = true
          · rw [if_pos cL5] at h
            by_cases cL6 : eqI v16000_1.2.1 v16000_2.2.1 = true
            · rw [if_pos cL6] at h
              by_cases cL7 : eqB v16000_1.2.2 v16000_2.2.2 = true
              · rw [if_pos cL7] at h
                exact LT.next mixed (hs := ⟨[(0, []), (1, []), (5, [])], [], false, [], []⟩) (es := none) [.n x1.length, .d true, .n x1.length, .row [(.int .u8 v16000_1.1), (.int .i64 v16000_1.2.1), (.bool v16000_1.2.2)], .n x2.length, .row [(.int .u8 v16000_2.1), (.int .i64 v16000_2.2.1), (.bool v16000_2.2.2)], .d false] [⟨(nF (aT cL5 (aT cL6 cL7)))⟩, ⟨(cells_map (e := e_u8_i64_b) eL4 3 0 3 (by decide))⟩, ⟨cL3⟩, ⟨(len_map e_u8_i64_b x2)⟩, ⟨(cells_map (e := e_u8_i64_b) eL2 3 0 3 (by decide))⟩, ⟨cL1⟩, ⟨(len_map e_u8_i64_b x1)⟩, ⟨cL0⟩, ⟨(len_map e_u8_i64_b x1)⟩] (by kernel_rfl) (ok_ref07_Same_l0 x1 x2 y k (iadd .i64 v16001_1 1) h)
              · rw [if_neg cL7] at h
                replace cL7 := eqf cL7
                obtain rfl := Option.some.inj h
                show LT _ _ _ _ (.fin (.bool false) [])
                exact LT.done mixed (hs := ⟨[], [], false, [], []⟩) (es := none) [.n x1.length, .d true, .n x1.length, .row [(.int .u8 v16000_1.1), (.int .i64 v16000_1.2.1), (.bool v16000_1.2.2)], .n x2.length, .row [(.int .u8 v16000_2.1), (.int .i64 v16000_2.2.1), (.bool v16000_2.2.2)], .d true] [⟨(nT (aF2 cL5 (aF2 cL6 cL7)))⟩, ⟨(cells_map (e := e_u8_i64_b) eL4 3 0 3 (by decide))⟩, ⟨cL3⟩, ⟨(len_map e_u8_i64_b x2)⟩, ⟨(cells_map (e := e_u8_i64_b) eL2 3 0 3 (by decide))⟩, ⟨cL1⟩, ⟨(len_map e_u8_i64_b x1)⟩, ⟨cL0⟩, ⟨(len_map e_u8_i64_b x1)⟩] (by kernel_rfl) (fun s h => by cases h)
            · rw [if_neg cL6] at h
              replace cL6 := eqf cL6
              obtain rfl := Option.some.inj h
              show LT _ _ _ _ (.fin (.bool false) [])
              exact LT.done mixed (hs := ⟨[], [], false, [], []⟩) (es := none) [.n x1.length, .d true, .n x1.length, .row [(.int .u8 v16000_1.1), (.int .i64 v16000_1.2.1), (.bool v16000_1.2.2)], .n x2.length, .row [(.int .u8 v16000_2.1), (.int .i64 v16000_2.2.1), (.bool v16000_2.2.2)], .d true] [⟨(nT (aF2 cL5 (aF1 (b := eqB v16000_1.2.2 v16000_2.2.2) cL6)))⟩, ⟨(cells_map (e := e_u8_i64_b) eL4 3 0 3 (by decide))⟩, ⟨cL3⟩, ⟨(len_map e_u8_i64_b x2)⟩, ⟨(cells_map (e := e_u8_i64_b) eL2 3 0 3 (by decide))⟩, ⟨cL1⟩, ⟨(len_map e_u8_i64_b x1)⟩, ⟨cL0⟩, ⟨(len_map e_u8_i64_b x1)⟩] (by kernel_rfl) (fun s h => by cases h)
          · rw [if_neg cL5] at h
            replace cL5 := eqf cL5
            obtain rfl := Option.some.inj h
            show LT _ _ _ _ (.fin (.bool false) [])
            exact LT.done mixed (hs := ⟨[], [], false, [], []⟩) (es := none) [.n x1.length, .d true, .n x1.length, .row [(.int .u8 v16000_1.1), (.int .i64 v16000_1.2.1), (.bool v16000_1.2.2)], .n x2.length, .row [(.int .u8 v16000_2.1), (.int .i64 v16000_2.2.1), (.bool v16000_2.2.2)], .d true] [⟨(nT (aF1 (b := (eqI v16000_1.2.1 v16000_2.2.1 && eqB v16000_1.2.2 v16000_2.2.2)) cL5))⟩, ⟨(cells_map (e := e_u8_i64_b) eL4 3 0 3 (by decide))⟩, ⟨cL3⟩, ⟨(len_map e_u8_i64_b x2)⟩, ⟨(cells_map (e := e_u8_i64_b) eL2 3 0 3 (by decide))⟩, ⟨cL1⟩, ⟨(len_map e_u8_i64_b x1)⟩, ⟨cL0⟩, ⟨(len_map e_u8_i64_b x1)⟩] (by kernel_rfl) (fun s h => by cases h)
        · rw [if_neg cL3] at h
          replace cL3 := eqf cL3
          cases h
      · rw [if_neg cL1] at h
        replace cL1 := eqf cL1
        cases h
    · rw [if_neg cL0] at h
      replace cL0 := eqf cL0
      obtain rfl := Option.some.inj h
      show LT _ _ _ _ (.st (.exit 0) (E16_0_0))
      exact LT.done mixed (hs := ⟨[], [], false, [], []⟩) (es := (some ⟨[], [], false, [], []⟩)) [.n x1.length, .d false] [⟨cL0⟩, ⟨(len_map e_u8_i64_b x1)⟩] (by kernel_rfl) (fun s h => by cases h)
theorem ok_ref07_Same (k : Nat) (x1 : List (Int × Int × Bool)) (x2 : List (Int × Int × Bool)) (r : Bool) (h : ref07_Same k x1 x2 = some r) : Tri Try.prog 16 [(.sl 3 (List.map e_u8_i64_b x1)), (.sl 3 (List.map e_u8_i64_b x2))] [] (.bool r) [] := by
    unfold ref07_Same at h
    by_cases c0 : eqI (nI x1.length) (nI x2.length) = true
    · rw [if_pos c0] at h
      obtain ⟨x3, e1, h⟩ := Option.bind_eq_some_iff.1 h
      cases x3 with
      | inl x4 =>
        simp only [Sum.elim_inl] at h
        obtain rfl := Option.some.inj h
        exact Tri.of (x := X16) mixed facts16 [.n x1.length, .n x2.length, .d false, .norm 2 ⟨[(0, []), (1, []), (5, [])], [], false, [], []⟩, .out (.st .normal (E16_0_0))] [⟨(LT.block (ok_ref07_Same_l0 x1 x2 _ k 0 e1))⟩, ⟨(nF c0)⟩, ⟨(len_map e_u8_i64_b x2)⟩, ⟨(len_map e_u8_i64_b x1)⟩] (by kernel_rfl)
      | inr x4 =>
        simp only [Sum.elim_inr] at h
        obtain rfl := Option.some.inj h
        exact Tri.of (x := X16) mixed facts16 [.n x1.length, .n x2.length, .d false, .norm 2 ⟨[(0, []), (1, []), (5, [])], [], false, [], []⟩, .out (.fin (.bool x4) [])] [⟨(LT.blockFin (id := 0) (ok_ref07_Same_l0 x1 x2 _ k 0 e1))⟩, ⟨(nF c0)⟩, ⟨(len_map e_u8_i64_b x2)⟩, ⟨(len_map e_u8_i64_b x1)⟩] (by kernel_rfl)
    · rw [if_neg c0] at h
      replace c0 := eqf c0
      obtain rfl := Option.some.inj h
      exact Tri.of (x := X16) mixed facts16 [.n x1.length, .n x2.length, .d true] [⟨(nT c0)⟩, ⟨(len_map e_u8_i64_b x2)⟩, ⟨(len_map e_u8_i64_b x1)⟩] (by kernel_rfl)
end Go.Ws
