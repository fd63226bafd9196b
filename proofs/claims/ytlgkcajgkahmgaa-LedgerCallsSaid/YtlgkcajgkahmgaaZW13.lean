/-
  ref08_Same: what the machine makes of it. (Printed by my own program.)
  Conditions: none.
-/
import Derived.Test.YtlgkcajgkahmgaaZPre
import Derived.Test.YtlgkcajgkahmgaaZPure
set_option linter.unusedVariables false
set_option linter.unusedSimpArgs false
namespace Go.Ws
open Go.Proofs
set_option linter.unusedSimpArgs false
set_option linter.unusedVariables false
set_option maxRecDepth 1000000
set_option maxHeartbeats 4000000
noncomputable def X13 : Ctx := ⟨Try.f13, [], true⟩
noncomputable def L13_0 : Code := at_ Try.f13 [1, 1, 0, 1, 4, 5]
def S13_0 (x1 : List (Int × Int)) (x2 : List (Int × Int)) (v13001_1 : Int) : St := ⟨mkT 26 [(0, (.sl 2 (List.map e_u8_i64 x1))), (1, (.sl 2 (List.map e_u8_i64 x2))), (5, (.int .i64 v13001_1))], []⟩
def E13_0_0 : St := ⟨mkT 26 [], []⟩
def O13_0 (x1 : List (Int × Int)) (x2 : List (Int × Int)) (y : (Sum (Unit) (Bool))) : GX := match y with
  | .inl y => .st (.exit 0) (E13_0_0)
  | .inr y => .fin (.bool y) []
theorem ok_ref08_Same_l0 (x1 : List (Int × Int)) (x2 : List (Int × Int)) (y : (Sum (Unit) (Bool))) : ∀ (k : Nat) (v13001_1 : Int), ref08_Same_l0 k x1 x2 v13001_1 = some y → LT Try.prog X13 L13_0 (S13_0 x1 x2 v13001_1) (O13_0 x1 x2 y)
  | 0, v13001_1, h => by cases h
  | k + 1, v13001_1, h => by
    rw [ref08_Same_l0] at h
    by_cases cL0 : ltI v13001_1 (nI x1.length) = true
    · rw [if_pos cL0] at h
      by_cases cL1 : inI v13001_1 x1.length = true
      · rw [if_pos cL1] at h
        obtain ⟨v13000_1, eL2, h⟩ := Option.bind_eq_some_iff.1 h
        by_cases cL3 : inI v13001_1 x2.length = true
        · rw [if_pos cL3] at h
          obtain ⟨v13000_2, eL4, h⟩ := Option.bind_eq_some_iff.1 h
          by_cases cL5 : eqI v13000_1.1 v13000_2.1 = true
          · rw [if_pos cL5] at h
            by_cases cL6 : eqI v13000_1.2 v13000_2.2 = true
            · rw [if_pos cL6] at h
              exact LT.next mixed (hs := ⟨[(0, []), (1, []), (5, [])], [], false, [], []⟩) (es := none) [.n x1.length, .d true, .n x1.length, .row [(.int .u8 v13000_1.1), (.int .i64 v13000_1.2)], .n x2.length, .row [(.int .u8 v13000_2.1), (.int .i64 v13000_2.2)], .d false] [⟨(nF (aT cL5 cL6))⟩, ⟨(cells_map (e := e_u8_i64) eL4 2 0 2 (by decide))⟩, ⟨cL3⟩, ⟨(len_map e_u8_i64 x2)⟩, ⟨(cells_map (e := e_u8_i64) eL2 2 0 2 (by decide))⟩, ⟨cL1⟩, ⟨(len_map e_u8_i64 x1)⟩, ⟨cL0⟩, ⟨(len_map e_u8_i64 x1)⟩] (by kernel_rfl) (ok_ref08_Same_l0 x1 x2 y k (iadd .i64 v13001_1 1) h)
            · rw [if_neg cL6] at h
              replace cL6 := eqf cL6
              obtain rfl := Option.some.inj h
              show LT _ _ _ _ (.fin (.bool false) [])
              exact LT.done mixed (hs := ⟨[], [], false, [], []⟩) (es := none) [.n x1.length, .d true, .n x1.length, .row [(.int .u8 v13000_1.1), (.int .i64 v13000_1.2)], .n x2.length, .row [(.int .u8 v13000_2.1), (.int .i64 v13000_2.2)], .d true] [⟨(nT (aF2 cL5 cL6))⟩, ⟨(cells_map (e := e_u8_i64) eL4 2 0 2 (by decide))⟩, ⟨cL3⟩, ⟨(len_map e_u8_i64 x2)⟩, ⟨(cells_map (e := e_u8_i64) eL2 2 0 2 (by decide))⟩, ⟨cL1⟩, ⟨(len_map e_u8_i64 x1)⟩, ⟨cL0⟩, ⟨(len_map e_u8_i64 x1)⟩] (by kernel_rfl) (fun s h => by cases h)
          · rw [if_neg cL5] at h
            replace cL5 := eqf cL5
            obtain rfl := Option.some.inj h
            show LT _ _ _ _ (.fin (.bool false) [])
            exact LT.done mixed (hs := ⟨[], [], false, [], []⟩) (es := none) [.n x1.length, .d true, .n x1.length, .row [(.int .u8 v13000_1.1), (.int .i64 v13000_1.2)], .n x2.length, .row [(.int .u8 v13000_2.1), (.int .i64 v13000_2.2)], .d true] [⟨(nT (aF1 (b := eqI v13000_1.2 v13000_2.2) cL5))⟩, ⟨(cells_map (e := e_u8_i64) eL4 2 0 2 (by decide))⟩, ⟨cL3⟩, ⟨(len_map e_u8_i64 x2)⟩, ⟨(cells_map (e := e_u8_i64) eL2 2 0 2 (by decide))⟩, ⟨cL1⟩, ⟨(len_map e_u8_i64 x1)⟩, ⟨cL0⟩, ⟨(len_map e_u8_i64 x1)⟩] (by kernel_rfl) (fun s h => by cases h)
        · rw [if_neg cL3] at h
          replace cL3 := eqf cL3
          cases h
      · rw [if_neg cL1] at h
        replace cL1 := eqf cL1
        cases h
    · rw [if_neg cL0] at h
      replace cL0 := eqf cL0
      obtain rfl := Option.some.inj h
      show LT _ _ _ _ (.st (.exit 0) (E13_0_0))
      exact LT.done mixed (hs := ⟨[], [], false, [], []⟩) (es := (some ⟨[], [], false, [], []⟩)) [.n x1.length, .d false] [⟨cL0⟩, ⟨(len_map e_u8_i64 x1)⟩] (by kernel_rfl) (fun s h => by cases h)
theorem ok_ref08_Same (k : Nat) (x1 : List (Int × Int)) (x2 : List (Int × Int)) (r : Bool) (h : ref08_Same k x1 x2 = some r) : Tri Try.prog 13 [(.sl 2 (List.map e_u8_i64 x1)), (.sl 2 (List.map e_u8_i64 x2))] [] (.bool r) [] := by
    unfold ref08_Same at h
    by_cases c0 : eqI (nI x1.length) (nI x2.length) = true
    · rw [if_pos c0] at h
      obtain ⟨x3, e1, h⟩ := Option.bind_eq_some_iff.1 h
      cases x3 with
      | inl x4 =>
        simp only [Sum.elim_inl] at h
        obtain rfl := Option.some.inj h
        exact Tri.of (x := X13) mixed facts13 [.n x1.length, .n x2.length, .d false, .norm 2 ⟨[(0, []), (1, []), (5, [])], [], false, [], []⟩, .out (.st .normal (E13_0_0))] [⟨(LT.block (ok_ref08_Same_l0 x1 x2 _ k 0 e1))⟩, ⟨(nF c0)⟩, ⟨(len_map e_u8_i64 x2)⟩, ⟨(len_map e_u8_i64 x1)⟩] (by kernel_rfl)
      | inr x4 =>
        simp only [Sum.elim_inr] at h
        obtain rfl := Option.some.inj h
        exact Tri.of (x := X13) mixed facts13 [.n x1.length, .n x2.length, .d false, .norm 2 ⟨[(0, []), (1, []), (5, [])], [], false, [], []⟩, .out (.fin (.bool x4) [])] [⟨(LT.blockFin (id := 0) (ok_ref08_Same_l0 x1 x2 _ k 0 e1))⟩, ⟨(nF c0)⟩, ⟨(len_map e_u8_i64 x2)⟩, ⟨(len_map e_u8_i64 x1)⟩] (by kernel_rfl)
    · rw [if_neg c0] at h
      replace c0 := eqf c0
      obtain rfl := Option.some.inj h
      exact Tri.of (x := X13) mixed facts13 [.n x1.length, .n x2.length, .d true] [⟨(nT c0)⟩, ⟨(len_map e_u8_i64 x2)⟩, ⟨(len_map e_u8_i64 x1)⟩] (by kernel_rfl)
end Go.Ws
