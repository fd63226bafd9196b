/-
  ref08_Right: what the machine makes of it. (Printed by my own program.)
  Conditions: none.
-/
import Derived.Test.YtlgkcajgkahmgaaZPre
import Derived.Test.YtlgkcajgkahmgaaZPure
set_option linter.unusedVariables false
set_option linter.unusedSimpArgs false
namespace Go.Ws
open Go.Proofs
set_option linter.unusedSimpArgs false
set_option linter.unusedVariables false
set_option maxRecDepth 1000000
set_option maxHeartbeats 4000000
noncomputable def X10 : Ctx := ⟨Try.f10, [], true⟩
noncomputable def L10_0 : Code := at_ Try.f10 [1, 0, 1, 4, 5]
def S10_0 (x1 : List (Int × Int)) (v10001_1 : Int) : St := ⟨mkT 42 [(0, (.sl 2 (List.map e_u8_i64 x1))), (3, (.int .i64 v10001_1))], []⟩
def E10_0_0 : St := ⟨mkT 42 [], []⟩
def O10_0 (x1 : List (Int × Int)) (y : (Sum (Unit) (Bool))) : GX := match y with
  | .inl y => .st (.exit 0) (E10_0_0)
  | .inr y => .fin (.bool y) []
theorem ok_ref08_Right_l0 (x1 : List (Int × Int)) (y : (Sum (Unit) (Bool))) : ∀ (k : Nat) (v10001_1 : Int), ref08_Right_l0 k x1 v10001_1 = some y → LT Try.prog X10 L10_0 (S10_0 x1 v10001_1) (O10_0 x1 y)
  | 0, v10001_1, h => by cases h
  | k + 1, v10001_1, h => by
    rw [ref08_Right_l0] at h
    by_cases cL0 : ltI v10001_1 (nI x1.length) = true
    · rw [if_pos cL0] at h
      by_cases cL1 : inI v10001_1 x1.length = true
      · rw [if_pos cL1] at h
        obtain ⟨v10000_1, eL2, h⟩ := Option.bind_eq_some_iff.1 h
        by_cases cL3 : ltI v10000_1.1 64 = true
        · rw [if_pos cL3] at h
          by_cases cL4 : eqI v10000_1.2 0 = true
          · rw [if_pos cL4] at h
            obtain rfl := Option.some.inj h
            show LT _ _ _ _ (.fin (.bool false) [])
            exact LT.done mixed (hs := ⟨[], [], false, [], []⟩) (es := none) [.n x1.length, .d true, .n x1.length, .row [(.int .u8 v10000_1.1)], .d false, .d false, .d false, .n x1.length, .d false, .d false, .row [(.int .i64 v10000_1.2)], .d false, .d false, .d true, .d true, .d true, .d true, .d true, .d true] [⟨(rfl : true = true)⟩, ⟨cL4⟩, ⟨cL4⟩, ⟨cL4⟩, ⟨cL4⟩, ⟨cL4⟩, ⟨(nF cL3)⟩, ⟨(nF cL3)⟩, ⟨(cells_map (e := e_u8_i64) eL2 2 1 1 (by decide))⟩, ⟨(nF cL3)⟩, ⟨(nF cL3)⟩, ⟨cL1⟩, ⟨(len_map e_u8_i64 x1)⟩, ⟨(nF cL3)⟩, ⟨(nF cL3)⟩, ⟨(nF cL3)⟩, ⟨(cells_map (e := e_u8_i64) eL2 2 0 1 (by decide))⟩, ⟨cL1⟩, ⟨(len_map e_u8_i64 x1)⟩, ⟨cL0⟩, ⟨(len_map e_u8_i64 x1)⟩] (by kernel_rfl) (fun s h => by cases h)
          · rw [if_neg cL4] at h
            replace cL4 := eqf cL4
            by_cases cL5 : ltI 0 v10001_1 = true
            · rw [if_pos cL5] at h
              by_cases cL6 : inI (isub .i64 v10001_1 1) x1.length = true
              · rw [if_pos cL6] at h
                obtain ⟨v10000_2, eL7, h⟩ := Option.bind_eq_some_iff.1 h
                by_cases cL8 : ltI v10000_2.1 v10000_1.1 = true
                · rw [if_pos cL8] at h
                  exact LT.next mixed (hs := ⟨[(0, []), (3, [])], [], false, [], []⟩) (es := none) [.n x1.length, .d true, .n x1.length, .row [(.int .u8 v10000_1.1)], .d false, .d false, .d false, .n x1.length, .d false, .d false, .row [(.int .i64 v10000_1.2)], .d false, .d false, .d false, .d false, .d false, .d true, .d true, .d true, .d true, .n x1.length, .d true, .d true, .row [(.int .u8 v10000_2.1)], .d true, .d true, .d true, .n x1.length, .d true, .d true, .row [(.int .u8 v10000_1.1)], .d true, .d false, .d true, .d false, .d false] [⟨(nF cL8)⟩, ⟨cL4⟩, ⟨cL5⟩, ⟨cL4⟩, ⟨cL5⟩, ⟨(cells_map (e := e_u8_i64) eL2 2 0 1 (by decide))⟩, ⟨cL5⟩, ⟨cL5⟩, ⟨cL1⟩, ⟨(len_map e_u8_i64 x1)⟩, ⟨cL5⟩, ⟨cL5⟩, ⟨cL5⟩, ⟨(cells_map (e := e_u8_i64) eL7 2 0 1 (by decide))⟩, ⟨cL5⟩, ⟨cL5⟩, ⟨cL6⟩, ⟨(len_map e_u8_i64 x1)⟩, ⟨cL5⟩, ⟨cL5⟩, ⟨cL5⟩, ⟨cL5⟩, ⟨cL4⟩, ⟨cL4⟩, ⟨cL4⟩, ⟨(nF cL3)⟩, ⟨(nF cL3)⟩, ⟨(cells_map (e := e_u8_i64) eL2 2 1 1 (by decide))⟩, ⟨(nF cL3)⟩, ⟨(nF cL3)⟩, ⟨cL1⟩, ⟨(len_map e_u8_i64 x1)⟩, ⟨(nF cL3)⟩, ⟨(nF cL3)⟩, ⟨(nF cL3)⟩, ⟨(cells_map (e := e_u8_i64) eL2 2 0 1 (by decide))⟩, ⟨cL1⟩, ⟨(len_map e_u8_i64 x1)⟩, ⟨cL0⟩, ⟨(len_map e_u8_i64 x1)⟩] (by kernel_rfl) (ok_ref08_Right_l0 x1 y k (iadd .i64 v10001_1 1) h)
                · rw [if_neg cL8] at h
                  replace cL8 := eqf cL8
                  obtain rfl := Option.some.inj h
                  show LT _ _ _ _ (.fin (.bool false) [])
                  exact LT.done mixed (hs := ⟨[], [], false, [], []⟩) (es := none) [.n x1.length, .d true, .n x1.length, .row [(.int .u8 v10000_1.1)], .d false, .d false, .d false, .n x1.length, .d false, .d false, .row [(.int .i64 v10000_1.2)], .d false, .d false, .d false, .d false, .d false, .d true, .d true, .d true, .d true, .n x1.length, .d true, .d true, .row [(.int .u8 v10000_2.1)], .d true, .d true, .d true, .n x1.length, .d true, .d true, .row [(.int .u8 v10000_1.1)], .d true, .d false, .d true, .d false, .d true] [⟨(nT cL8)⟩, ⟨cL4⟩, ⟨cL5⟩, ⟨cL4⟩, ⟨cL5⟩, ⟨(cells_map (e := e_u8_i64) eL2 2 0 1 (by decide))⟩, ⟨cL5⟩, ⟨cL5⟩, ⟨cL1⟩, ⟨(len_map e_u8_i64 x1)⟩, ⟨cL5⟩, ⟨cL5⟩, ⟨cL5⟩, ⟨(cells_map (e := e_u8_i64) eL7 2 0 1 (by decide))⟩, ⟨cL5⟩, ⟨cL5⟩, ⟨cL6⟩, ⟨(len_map e_u8_i64 x1)⟩, ⟨cL5⟩, ⟨cL5⟩, ⟨cL5⟩, ⟨cL5⟩, ⟨cL4⟩, ⟨cL4⟩, ⟨cL4⟩, ⟨(nF cL3)⟩, ⟨(nF cL3)⟩, ⟨(cells_map (e := e_u8_i64) eL2 2 1 1 (by decide))⟩, ⟨(nF cL3)⟩, ⟨(nF cL3)⟩, ⟨cL1⟩, ⟨(len_map e_u8_i64 x1)⟩, ⟨(nF cL3)⟩, ⟨(nF cL3)⟩, ⟨(nF cL3)⟩, ⟨(cells_map (e := e_u8_i64) eL2 2 0 1 (by decide))⟩, ⟨cL1⟩, ⟨(len_map e_u8_i64 x1)⟩, ⟨cL0⟩, ⟨(len_map e_u8_i64 x1)⟩] (by kernel_rfl) (fun s h => by cases h)
              · rw [if_neg cL6] at h
                replace cL6 := eqf cL6
                cases h
            · rw [if_neg cL5] at h
              replace cL5 := eqf cL5
              exact LT.next mixed (hs := ⟨[(0, []), (3, [])], [], false, [], []⟩) (es := none) [.n x1.length, .d true, .n x1.length, .row [(.int .u8 v10000_1.1)], .d false, .d false, .d false, .n x1.length, .d false, .d false, .row [(.int .i64 v10000_1.2)], .d false, .d false, .d false, .d false, .d false, .d false, .d false, .d false, .d false, .d false, .d false, .d false, .d false, .d false, .d false, .d false, .d false, .d false, .d false, .d false, .d false] [⟨(rfl : false = false)⟩, ⟨cL4⟩, ⟨cL5⟩, ⟨cL4⟩, ⟨cL5⟩, ⟨cL5⟩, ⟨cL5⟩, ⟨cL5⟩, ⟨cL5⟩, ⟨cL5⟩, ⟨cL5⟩, ⟨cL5⟩, ⟨cL5⟩, ⟨cL5⟩, ⟨cL5⟩, ⟨cL5⟩, ⟨cL4⟩, ⟨cL4⟩, ⟨cL4⟩, ⟨(nF cL3)⟩, ⟨(nF cL3)⟩, ⟨(cells_map (e := e_u8_i64) eL2 2 1 1 (by decide))⟩, ⟨(nF cL3)⟩, ⟨(nF cL3)⟩, ⟨cL1⟩, ⟨(len_map e_u8_i64 x1)⟩, ⟨(nF cL3)⟩, ⟨(nF cL3)⟩, ⟨(nF cL3)⟩, ⟨(cells_map (e := e_u8_i64) eL2 2 0 1 (by decide))⟩, ⟨cL1⟩, ⟨(len_map e_u8_i64 x1)⟩, ⟨cL0⟩, ⟨(len_map e_u8_i64 x1)⟩] (by kernel_rfl) (ok_ref08_Right_l0 x1 y k (iadd .i64 v10001_1 1) h)
        · rw [if_neg cL3] at h
          replace cL3 := eqf cL3
          obtain rfl := Option.some.inj h
          show LT _ _ _ _ (.fin (.bool false) [])
          exact LT.done mixed (hs := ⟨[], [], false, [], []⟩) (es := none) [.n x1.length, .d true, .n x1.length, .row [(.int .u8 v10000_1.1)], .d true, .d true, .d true, .d true, .d true, .d true, .d true, .d true, .d true, .d true, .d true, .d true, .d true] [⟨(rfl : true = true)⟩, ⟨(rfl : true = true)⟩, ⟨(rfl : true = true)⟩, ⟨(rfl : true = true)⟩, ⟨(rfl : true = true)⟩, ⟨(rfl : true = true)⟩, ⟨(nT cL3)⟩, ⟨(nT cL3)⟩, ⟨(nT cL3)⟩, ⟨(nT cL3)⟩, ⟨(nT cL3)⟩, ⟨(nT cL3)⟩, ⟨(nT cL3)⟩, ⟨(cells_map (e := e_u8_i64) eL2 2 0 1 (by decide))⟩, ⟨cL1⟩, ⟨(len_map e_u8_i64 x1)⟩, ⟨cL0⟩, ⟨(len_map e_u8_i64 x1)⟩] (by kernel_rfl) (fun s h => by cases h)
      · rw [if_neg cL1] at h
        replace cL1 := eqf cL1
        cases h
    · rw [if_neg cL0] at h
      replace cL0 := eqf cL0
      obtain rfl := Option.some.inj h
      show LT _ _ _ _ (.st (.exit 0) (E10_0_0))
      exact LT.done mixed (hs := ⟨[], [], false, [], []⟩) (es := (some ⟨[], [], false, [], []⟩)) [.n x1.length, .d false] [⟨cL0⟩, ⟨(len_map e_u8_i64 x1)⟩] (by kernel_rfl) (fun s h => by cases h)
theorem ok_ref08_Right (k : Nat) (x1 : List (Int × Int)) (r : Bool) (h : ref08_Right k x1 = some r) : Tri Try.prog 10 [(.sl 2 (List.map e_u8_i64 x1))] [] (.bool r) [] := by
    unfold ref08_Right at h
    obtain ⟨x2, e0, h⟩ := Option.bind_eq_some_iff.1 h
    cases x2 with
    | inl x3 =>
      simp only [Sum.elim_inl] at h
      obtain rfl := Option.some.inj h
      exact Tri.of (x := X10) mixed facts10 [.norm 2 ⟨[(0, []), (3, [])], [], false, [], []⟩, .out (.st .normal (E10_0_0))] [⟨(LT.block (ok_ref08_Right_l0 x1 _ k 0 e0))⟩] (by kernel_rfl)
    | inr x3 =>
      simp only [Sum.elim_inr] at h
      obtain rfl := Option.some.inj h
      exact Tri.of (x := X10) mixed facts10 [.norm 2 ⟨[(0, []), (3, [])], [], false, [], []⟩, .out (.fin (.bool x3) [])] [⟨(LT.blockFin (id := 0) (ok_ref08_Right_l0 x1 _ k 0 e0))⟩] (by kernel_rfl)
end Go.Ws
