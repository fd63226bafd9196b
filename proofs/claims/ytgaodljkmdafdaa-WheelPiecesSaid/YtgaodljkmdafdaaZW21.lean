/-
  ref06_Same: what the machine makes of it. (Printed by my own program.)
  Conditions: none.
-/
import Derived.Test.YtgaodljkmdafdaaZPre
import Derived.Test.YtgaodljkmdafdaaZPure
set_option linter.unusedVariables false
set_option linter.unusedSimpArgs false
namespace Go.Ws
open Go.Proofs
set_option linter.unusedSimpArgs false
set_option linter.unusedVariables false
set_option maxRecDepth 1000000
set_option maxHeartbeats 4000000
noncomputable def X21 : Ctx := ⟨Try.f21, [], true⟩
noncomputable def L21_0 : Code := at_ Try.f21 [1, 1, 0, 1, 4, 5]
def S21_0 (x1 : Int) (x2 : List (Int × Int)) (x3 : Int) (x4 : List (Int × Int)) (v21001_1 : Int) : St := ⟨mkT 38 [(2, (.hp 0 0)), (3, (.hp 1 0)), (5, (.int .i64 v21001_1))], [(.row [(.int .i64 x1), (.sl 2 (List.map e_i64_i64 x2))]), (.row [(.int .i64 x3), (.sl 2 (List.map e_i64_i64 x4))])]⟩
def E21_0_0 : St := ⟨mkT 38 [], []⟩
def O21_0 (x1 : Int) (x2 : List (Int × Int)) (x3 : Int) (x4 : List (Int × Int)) (y : (Sum (Unit) (Bool))) : GX := match y with
  | .inl y => .st (.exit 0) (E21_0_0)
  | .inr y => .fin (.bool y) []
theorem ok_ref06_Same_l0 (x1 : Int) (x2 : List (Int × Int)) (x3 : Int) (x4 : List (Int × Int)) (y : (Sum (Unit) (Bool))) : ∀ (k : Nat) (v21001_1 : Int), ref06_Same_l0 k x1 x2 x3 x4 v21001_1 = some y → LT Try.prog X21 L21_0 (S21_0 x1 x2 x3 x4 v21001_1) (O21_0 x1 x2 x3 x4 y)
  | 0, v21001_1, h => by cases h
  | k + 1, v21001_1, h => by
    rw [ref06_Same_l0] at h
    by_cases cL0 : ltI v21001_1 (nI x2.length) = true
    · rw [if_pos cL0] at h
      by_cases cL1 : inI v21001_1 x2.length = true
      · rw [if_pos cL1] at h
        obtain ⟨v21000_1, eL2, h⟩ := Option.bind_eq_some_iff.1 h
        by_cases cL3 : inI v21001_1 x4.length = true
        · rw [if_pos cL3] at h
          obtain ⟨v21000_2, eL4, h⟩ := Option.bind_eq_some_iff.1 h
          by_cases cL5 : eqI v21000_1.1 v21000_2.1 = true
          · rw [if_pos cL5] at h
            by_cases cL6 : eqI v21000_1.2 v21000_2.2 = true
            · rw [if_pos cL6] at h
              exact LT.next mixed (hs := ⟨[(2, []), (3, []), (5, [])], [⟨.tmp 2, [], none⟩, ⟨.tmp 3, [], none⟩], false, [], []⟩) (es := none) [.n x2.length, .d true, .n x2.length, .row [(.int .i64 v21000_1.1), (.int .i64 v21000_1.2)], .n x4.length, .row [(.int .i64 v21000_2.1), (.int .i64 v21000_2.2)], .d false] [⟨(nF (aT cL5 cL6))⟩, ⟨(cells_map (e := e_i64_i64) eL4 2 0 2 (by decide))⟩, ⟨cL3⟩, ⟨(len_map e_i64_i64 x4)⟩, ⟨(cells_map (e := e_i64_i64) eL2 2 0 2 (by decide))⟩, ⟨cL1⟩, ⟨(len_map e_i64_i64 x2)⟩, ⟨cL0⟩, ⟨(len_map e_i64_i64 x2)⟩] (by kernel_rfl) (ok_ref06_Same_l0 x1 x2 x3 x4 y k (iadd .i64 v21001_1 1) h)
            · rw [if_neg cL6] at h
              replace cL6 := eqf cL6
              obtain rfl := Option.some.inj h
              show LT _ _ _ _ (.fin (.bool false) [])
              exact LT.done mixed (hs := ⟨[], [], false, [], []⟩) (es := none) [.n x2.length, .d true, .n x2.length, .row [(.int .i64 v21000_1.1), (.int .i64 v21000_1.2)], .n x4.length, .row [(.int .i64 v21000_2.1), (.int .i64 v21000_2.2)], .d true] [⟨(nT (aF2 cL5 cL6))⟩, ⟨(cells_map (e := e_i64_i64) eL4 2 0 2 (by decide))⟩, ⟨cL3⟩, ⟨(len_map e_i64_i64 x4)⟩, ⟨(cells_map (e := e_i64_i64) eL2 2 0 2 (by decide))⟩, ⟨cL1⟩, ⟨(len_map e_i64_i64 x2)⟩, ⟨cL0⟩, ⟨(len_map e_i64_i64 x2)⟩] (by kernel_rfl) (fun s h => by cases h)
          · rw [if_neg cL5] at h
            replace cL5 := eqf cL5
            obtain rfl := Option.some.inj h
            show LT _ _ _ _ (.fin (.bool false) [])
            exact LT.done mixed (hs := ⟨[], [], false, [], []⟩) (es := none) [.n x2.length, .d true, .n x2.length, .row [(.int .i64 v21000_1.1), (.int .i64 v21000_1.2)], .n x4.length, .row [(.int .i64 v21000_2.1), (.int .i64 v21000_2.2)], .d true] [⟨(nT (aF1 (b := eqI v21000_1.2 v21000_2.2) cL5))⟩, ⟨(cells_map (e := e_i64_i64) eL4 2 0 2 (by decide))⟩, ⟨cL3⟩, ⟨(len_map e_i64_i64 x4)⟩, ⟨(cells_map (e := e_i64_i64) eL2 2 0 2 (by decide))⟩, ⟨cL1⟩, ⟨(len_map e_i64_i64 x2)⟩, ⟨cL0⟩, ⟨(len_map e_i64_i64 x2)⟩] (by kernel_rfl) (fun s h => by cases h)
        · rw [if_neg cL3] at h
          replace cL3 := eqf cL3
          cases h
      · rw [if_neg cL1] at h
        replace cL1 := eqf cL1
        cases h
    · rw [if_neg cL0] at h
      replace cL0 := eqf cL0
      obtain rfl := Option.some.inj h
      show LT _ _ _ _ (.st (.exit 0) (E21_0_0))
      exact LT.done mixed (hs := ⟨[], [], false, [], []⟩) (es := (some ⟨[], [], false, [], []⟩)) [.n x2.length, .d false] [⟨cL0⟩, ⟨(len_map e_i64_i64 x2)⟩] (by kernel_rfl) (fun s h => by cases h)
theorem ok_ref06_Same (k : Nat) (x1 : Int) (x2 : List (Int × Int)) (x3 : Int) (x4 : List (Int × Int)) (r : Bool) (h : ref06_Same k x1 x2 x3 x4 = some r) : Tri Try.prog 21 [(.agg [(.int .i64 x1), (.sl 2 (List.map e_i64_i64 x2))]), (.agg [(.int .i64 x3), (.sl 2 (List.map e_i64_i64 x4))])] [] (.bool r) [] := by
    unfold ref06_Same at h
    by_cases c0 : eqI x1 x3 = true
    · rw [if_pos c0] at h
      by_cases c1 : eqI (nI x2.length) (nI x4.length) = true
      · rw [if_pos c1] at h
        obtain ⟨x5, e2, h⟩ := Option.bind_eq_some_iff.1 h
        cases x5 with
        | inl x6 =>
          simp only [Sum.elim_inl] at h
          obtain rfl := Option.some.inj h
          exact Tri.of (x := X21) mixed facts21 [.d false, .d false, .d false, .n x2.length, .d false, .d false, .d false, .n x4.length, .d false, .d false, .d false, .norm 2 ⟨[(2, []), (3, []), (5, [])], [⟨.tmp 2, [], none⟩, ⟨.tmp 3, [], none⟩], false, [], []⟩, .out (.st .normal (E21_0_0))] [⟨(LT.block (ok_ref06_Same_l0 x1 x2 x3 x4 _ k 0 e2))⟩, ⟨(nF c1)⟩, ⟨(nF c0)⟩, ⟨(nF c0)⟩, ⟨(len_map e_i64_i64 x4)⟩, ⟨(nF c0)⟩, ⟨(nF c0)⟩, ⟨(nF c0)⟩, ⟨(len_map e_i64_i64 x2)⟩, ⟨(nF c0)⟩, ⟨(nF c0)⟩, ⟨(nF c0)⟩] (by kernel_rfl)
        | inr x6 =>
          simp only [Sum.elim_inr] at h
          obtain rfl := Option.some.inj h
          exact Tri.of (x := X21) mixed facts21 [.d false, .d false, .d false, .n x2.length, .d false, .d false, .d false, .n x4.length, .d false, .d false, .d false, .norm 2 ⟨[(2, []), (3, []), (5, [])], [⟨.tmp 2, [], none⟩, ⟨.tmp 3, [], none⟩], false, [], []⟩, .out (.fin (.bool x6) [])] [⟨(LT.blockFin (id := 0) (ok_ref06_Same_l0 x1 x2 x3 x4 _ k 0 e2))⟩, ⟨(nF c1)⟩, ⟨(nF c0)⟩, ⟨(nF c0)⟩, ⟨(len_map e_i64_i64 x4)⟩, ⟨(nF c0)⟩, ⟨(nF c0)⟩, ⟨(nF c0)⟩, ⟨(len_map e_i64_i64 x2)⟩, ⟨(nF c0)⟩, ⟨(nF c0)⟩, ⟨(nF c0)⟩] (by kernel_rfl)
      · rw [if_neg c1] at h
        replace c1 := eqf c1
        obtain rfl := Option.some.inj h
        exact Tri.of (x := X21) mixed facts21 [.d false, .d false, .d false, .n x2.length, .d false, .d false, .d false, .n x4.length, .d false, .d false, .d true] [⟨(nT c1)⟩, ⟨(nF c0)⟩, ⟨(nF c0)⟩, ⟨(len_map e_i64_i64 x4)⟩, ⟨(nF c0)⟩, ⟨(nF c0)⟩, ⟨(nF c0)⟩, ⟨(len_map e_i64_i64 x2)⟩, ⟨(nF c0)⟩, ⟨(nF c0)⟩, ⟨(nF c0)⟩] (by kernel_rfl)
    · rw [if_neg c0] at h
      replace c0 := eqf c0
      obtain rfl := Option.some.inj h
      exact Tri.of (x := X21) mixed facts21 [.d true, .d true, .d true, .d true, .d true, .d true, .d true, .d true, .d true] [⟨(rfl : true = true)⟩, ⟨(nT c0)⟩, ⟨(nT c0)⟩, ⟨(nT c0)⟩, ⟨(nT c0)⟩, ⟨(nT c0)⟩, ⟨(nT c0)⟩, ⟨(nT c0)⟩, ⟨(nT c0)⟩] (by kernel_rfl)
end Go.Ws
