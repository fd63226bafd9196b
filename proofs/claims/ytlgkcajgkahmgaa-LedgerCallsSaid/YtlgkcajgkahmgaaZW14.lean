/-
  ledger_Right: what the machine makes of it. (Printed by my own program.)
  Conditions: none.
-/
import Derived.Test.YtlgkcajgkahmgaaZPre
import Derived.Test.YtlgkcajgkahmgaaZPure
set_option linter.unusedVariables false
set_option linter.unusedSimpArgs false
namespace Go.Ws
open Go.Proofs
set_option linter.unusedSimpArgs false
set_option linter.unusedVariables false
set_option maxRecDepth 1000000
set_option maxHeartbeats 4000000
noncomputable def X14 : Ctx := ⟨Try.f14, [], true⟩
noncomputable def L14_0 : Code := at_ Try.f14 [1, 0, 1, 4, 5]
def S14_0 (x1 : List (Int × Int)) (v14001_1 : Int) : St := ⟨mkT 36 [(0, (.sl 2 (List.map e_u8_i64 x1))), (5, (.sl 2 (List.map e_u8_i64 x1))), (6, (.int .i64 (nI x1.length))), (7, (.int .i64 v14001_1))], []⟩
def E14_0_0 : St := ⟨mkT 36 [], []⟩
def O14_0 (x1 : List (Int × Int)) (y : (Sum (Unit) (Bool))) : GX := match y with
  | .inl y => .st (.exit 0) (E14_0_0)
  | .inr y => .fin (.bool y) []
theorem ok_ledger_Right_l0 (x1 : List (Int × Int)) (y : (Sum (Unit) (Bool))) : ∀ (k : Nat) (v14001_1 : Int), ledger_Right_l0 k x1 v14001_1 = some y → LT Try.prog X14 L14_0 (S14_0 x1 v14001_1) (O14_0 x1 y)
  | 0, v14001_1, h => by cases h
  | k + 1, v14001_1, h => by
    rw [ledger_Right_l0] at h
    by_cases cL0 : ltI v14001_1 (nI x1.length) = true
    · rw [if_pos cL0] at h
      by_cases cL1 : inI v14001_1 x1.length = true
      · rw [if_pos cL1] at h
        obtain ⟨v14000_1, eL2, h⟩ := Option.bind_eq_some_iff.1 h
        by_cases cL3 : ltI v14000_1.1 64 = true
        · rw [if_pos cL3] at h
          by_cases cL4 : eqI v14000_1.2 0 = true
          · rw [if_pos cL4] at h
            obtain rfl := Option.some.inj h
            show LT _ _ _ _ (.fin (.bool false) [])
            exact LT.done mixed (hs := ⟨[], [], false, [], []⟩) (es := none) [.d true, .n x1.length, .row [(.int .u8 v14000_1.1), (.int .i64 v14000_1.2)], .d false, .d false, .d false, .d false, .d true, .d true, .d true, .d true, .d true, .d true] [⟨(rfl : true = true)⟩, ⟨cL4⟩, ⟨cL4⟩, ⟨cL4⟩, ⟨cL4⟩, ⟨cL4⟩, ⟨(nF cL3)⟩, ⟨(nF cL3)⟩, ⟨(nF cL3)⟩, ⟨(nF cL3)⟩, ⟨(cells_map (e := e_u8_i64) eL2 2 0 2 (by decide))⟩, ⟨cL1⟩, ⟨(len_map e_u8_i64 x1)⟩, ⟨cL0⟩] (by kernel_rfl) (fun s h => by cases h)
          · rw [if_neg cL4] at h
            replace cL4 := eqf cL4
            by_cases cL5 : ltI 0 v14001_1 = true
            · rw [if_pos cL5] at h
              by_cases cL6 : inI (isub .i64 v14001_1 1) x1.length = true
              · rw [if_pos cL6] at h
                obtain ⟨v14000_2, eL7, h⟩ := Option.bind_eq_some_iff.1 h
                by_cases cL8 : ltI v14000_2.1 v14000_1.1 = true
                · rw [if_pos cL8] at h
                  exact LT.next mixed (hs := ⟨[(0, []), (5, []), (6, []), (7, [])], [], false, [], []⟩) (es := none) [.d true, .n x1.length, .row [(.int .u8 v14000_1.1), (.int .i64 v14000_1.2)], .d false, .d false, .d false, .d false, .d false, .d false, .d false, .d true, .d true, .d true, .d true, .n x1.length, .d true, .d true, .row [(.int .u8 v14000_2.1)], .d true, .d true, .d true, .d false, .d true, .d false, .d false] [⟨(nF cL8)⟩, ⟨cL4⟩, ⟨cL5⟩, ⟨cL4⟩, ⟨cL5⟩, ⟨cL5⟩, ⟨cL5⟩, ⟨(cells_map (e := e_u8_i64) eL7 2 0 1 (by decide))⟩, ⟨cL5⟩, ⟨cL5⟩, ⟨cL6⟩, ⟨(len_map e_u8_i64 x1)⟩, ⟨cL5⟩, ⟨cL5⟩, ⟨cL5⟩, ⟨cL5⟩, ⟨cL4⟩, ⟨cL4⟩, ⟨cL4⟩, ⟨(nF cL3)⟩, ⟨(nF cL3)⟩, ⟨(nF cL3)⟩, ⟨(nF cL3)⟩, ⟨(cells_map (e := e_u8_i64) eL2 2 0 2 (by decide))⟩, ⟨cL1⟩, ⟨(len_map e_u8_i64 x1)⟩, ⟨cL0⟩] (by kernel_rfl) (ok_ledger_Right_l0 x1 y k (iadd .i64 v14001_1 1) h)
                · rw [if_neg cL8] at h
                  replace cL8 := eqf cL8
                  obtain rfl := Option.some.inj h
                  show LT _ _ _ _ (.fin (.bool false) [])
                  exact LT.done mixed (hs := ⟨[], [], false, [], []⟩) (es := none) [.d true, .n x1.length, .row [(.int .u8 v14000_1.1), (.int .i64 v14000_1.2)], .d false, .d false, .d false, .d false, .d false, .d false, .d false, .d true, .d true, .d true, .d true, .n x1.length, .d true, .d true, .row [(.int .u8 v14000_2.1)], .d true, .d true, .d true, .d false, .d true, .d false, .d true] [⟨(nT cL8)⟩, ⟨cL4⟩, ⟨cL5⟩, ⟨cL4⟩, ⟨cL5⟩, ⟨cL5⟩, ⟨cL5⟩, ⟨(cells_map (e := e_u8_i64) eL7 2 0 1 (by decide))⟩, ⟨cL5⟩, ⟨cL5⟩, ⟨cL6⟩, ⟨(len_map e_u8_i64 x1)⟩, ⟨cL5⟩, ⟨cL5⟩, ⟨cL5⟩, ⟨cL5⟩, ⟨cL4⟩, ⟨cL4⟩, ⟨cL4⟩, ⟨(nF cL3)⟩, ⟨(nF cL3)⟩, ⟨(nF cL3)⟩, ⟨(nF cL3)⟩, ⟨(cells_map (e := e_u8_i64) eL2 2 0 2 (by decide))⟩, ⟨cL1⟩, ⟨(len_map e_u8_i64 x1)⟩, ⟨cL0⟩] (by kernel_rfl) (fun s h => by cases h)
              · rw [if_neg cL6] at h
                replace cL6 := eqf cL6
                cases h
            · rw [if_neg cL5] at h
              replace cL5 := eqf cL5
              exact LT.next mixed (hs := ⟨[(0, []), (5, []), (6, []), (7, [])], [], false, [], []⟩) (es := none) [.d true, .n x1.length, .row [(.int .u8 v14000_1.1), (.int .i64 v14000_1.2)], .d false, .d false, .d false, .d false, .d false, .d false, .d false, .d false, .d false, .d false, .d false, .d false, .d false, .d false, .d false, .d false, .d false, .d false, .d false, .d false] [⟨(rfl : false = false)⟩, ⟨cL4⟩, ⟨cL5⟩, ⟨cL4⟩, ⟨cL5⟩, ⟨cL5⟩, ⟨cL5⟩, ⟨cL5⟩, ⟨cL5⟩, ⟨cL5⟩, ⟨cL5⟩, ⟨cL5⟩, ⟨cL5⟩, ⟨cL4⟩, ⟨cL4⟩, ⟨cL4⟩, ⟨(nF cL3)⟩, ⟨(nF cL3)⟩, ⟨(nF cL3)⟩, ⟨(nF cL3)⟩, ⟨(cells_map (e := e_u8_i64) eL2 2 0 2 (by decide))⟩, ⟨cL1⟩, ⟨(len_map e_u8_i64 x1)⟩, ⟨cL0⟩] (by kernel_rfl) (ok_ledger_Right_l0 x1 y k (iadd .i64 v14001_1 1) h)
        · rw [if_neg cL3] at h
          replace cL3 := eqf cL3
          obtain rfl := Option.some.inj h
          show LT _ _ _ _ (.fin (.bool false) [])
          exact LT.done mixed (hs := ⟨[], [], false, [], []⟩) (es := none) [.d true, .n x1.length, .row [(.int .u8 v14000_1.1), (.int .i64 v14000_1.2)], .d true, .d true, .d true, .d true, .d true, .d true, .d true, .d true, .d true, .d true] [⟨(rfl : true = true)⟩, ⟨(rfl : true = true)⟩, ⟨(rfl : true = true)⟩, ⟨(rfl : true = true)⟩, ⟨(rfl : true = true)⟩, ⟨(rfl : true = true)⟩, ⟨(nT cL3)⟩, ⟨(nT cL3)⟩, ⟨(nT cL3)⟩, ⟨(nT cL3)⟩, ⟨(cells_map (e := e_u8_i64) eL2 2 0 2 (by decide))⟩, ⟨cL1⟩, ⟨(len_map e_u8_i64 x1)⟩, ⟨cL0⟩] (by kernel_rfl) (fun s h => by cases h)
      · rw [if_neg cL1] at h
        replace cL1 := eqf cL1
        cases h
    · rw [if_neg cL0] at h
      replace cL0 := eqf cL0
      obtain rfl := Option.some.inj h
      show LT _ _ _ _ (.st (.exit 0) (E14_0_0))
      exact LT.done mixed (hs := ⟨[], [], false, [], []⟩) (es := (some ⟨[], [], false, [], []⟩)) [.d false] [⟨cL0⟩] (by kernel_rfl) (fun s h => by cases h)
theorem ok_ledger_Right (k : Nat) (x1 : List (Int × Int)) (r : Bool) (h : ledger_Right k x1 = some r) : Tri Try.prog 14 [(.sl 2 (List.map e_u8_i64 x1))] [] (.bool r) [] := by
    unfold ledger_Right at h
    obtain ⟨x2, e0, h⟩ := Option.bind_eq_some_iff.1 h
    cases x2 with
    | inl x3 =>
      simp only [Sum.elim_inl] at h
      obtain rfl := Option.some.inj h
      exact Tri.of (x := X14) mixed facts14 [.n x1.length, .norm 2 ⟨[(0, []), (5, []), (6, []), (7, [])], [], false, [], []⟩, .out (.st .normal (E14_0_0))] [⟨(LT.block (ok_ledger_Right_l0 x1 _ k 0 e0))⟩, ⟨(len_map e_u8_i64 x1)⟩] (by kernel_rfl)
    | inr x3 =>
      simp only [Sum.elim_inr] at h
      obtain rfl := Option.some.inj h
      exact Tri.of (x := X14) mixed facts14 [.n x1.length, .norm 2 ⟨[(0, []), (5, []), (6, []), (7, [])], [], false, [], []⟩, .out (.fin (.bool x3) [])] [⟨(LT.blockFin (id := 0) (ok_ledger_Right_l0 x1 _ k 0 e0))⟩, ⟨(len_map e_u8_i64 x1)⟩] (by kernel_rfl)
end Go.Ws
