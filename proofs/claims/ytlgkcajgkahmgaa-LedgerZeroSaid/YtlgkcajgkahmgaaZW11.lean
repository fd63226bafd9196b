/-
  law08_keys: what the machine makes of it. (Printed by my own program.)
  Conditions: none.
-/
import Derived.Test.YtlgkcajgkahmgaaZPre
import Derived.Test.YtlgkcajgkahmgaaZPure
set_option linter.unusedVariables false
set_option linter.unusedSimpArgs false
namespace Go.Ws
open Go.Proofs
set_option linter.unusedSimpArgs false
set_option linter.unusedVariables false
set_option maxRecDepth 1000000
set_option maxHeartbeats 4000000
noncomputable def X11 : Ctx := ⟨Try.f11, [], true⟩
noncomputable def L11_0 : Code := at_ Try.f11 [1, 0, 1, 4, 5]
def S11_0 (x1 : List (Int × Int)) (v11001_1 : Int) : St := ⟨mkT 15 [(5, (.sl 2 (List.map e_u8_i64 x1))), (6, (.int .i64 (nI x1.length))), (7, (.int .i64 v11001_1))], []⟩
def E11_0_0 : St := ⟨mkT 15 [], []⟩
def O11_0 (x1 : List (Int × Int)) (y : (Sum (Unit) (Bool))) : GX := match y with
  | .inl y => .st (.exit 0) (E11_0_0)
  | .inr y => .fin (.bool y) []
theorem ok_law08_keys_l0 (x1 : List (Int × Int)) (y : (Sum (Unit) (Bool))) : ∀ (k : Nat) (v11001_1 : Int), law08_keys_l0 k x1 v11001_1 = some y → LT Try.prog X11 L11_0 (S11_0 x1 v11001_1) (O11_0 x1 y)
  | 0, v11001_1, h => by cases h
  | k + 1, v11001_1, h => by
    rw [law08_keys_l0] at h
    by_cases cL0 : ltI v11001_1 (nI x1.length) = true
    · rw [if_pos cL0] at h
      by_cases cL1 : inI v11001_1 x1.length = true
      · rw [if_pos cL1] at h
        obtain ⟨v11000_1, eL2, h⟩ := Option.bind_eq_some_iff.1 h
        by_cases cL3 : ltI v11000_1.1 64 = true
        · rw [if_pos cL3] at h
          exact LT.next mixed (hs := ⟨[(5, []), (6, []), (7, [])], [], false, [], []⟩) (es := none) [.d true, .n x1.length, .row [(.int .u8 v11000_1.1), (.int .i64 v11000_1.2)], .d false] [⟨(nF cL3)⟩, ⟨(cells_map (e := e_u8_i64) eL2 2 0 2 (by decide))⟩, ⟨cL1⟩, ⟨(len_map e_u8_i64 x1)⟩, ⟨cL0⟩] (by kernel_rfl) (ok_law08_keys_l0 x1 y k (iadd .i64 v11001_1 1) h)
        · rw [if_neg cL3] at h
          replace cL3 := eqf cL3
          obtain rfl := Option.some.inj h
          show LT _ _ _ _ (.fin (.bool false) [])
          exact LT.done mixed (hs := ⟨[], [], false, [], []⟩) (es := none) [.d true, .n x1.length, .row [(.int .u8 v11000_1.1), (.int .i64 v11000_1.2)], .d true] [⟨(nT cL3)⟩, ⟨(cells_map (e := e_u8_i64) eL2 2 0 2 (by decide))⟩, ⟨cL1⟩, ⟨(len_map e_u8_i64 x1)⟩, ⟨cL0⟩] (by kernel_rfl) (fun s h => by cases h)
      · rw [if_neg cL1] at h
        replace cL1 := eqf cL1
        cases h
    · rw [if_neg cL0] at h
      replace cL0 := eqf cL0
      obtain rfl := Option.some.inj h
      show LT _ _ _ _ (.st (.exit 0) (E11_0_0))
      exact LT.done mixed (hs := ⟨[], [], false, [], []⟩) (es := (some ⟨[], [], false, [], []⟩)) [.d false] [⟨cL0⟩] (by kernel_rfl) (fun s h => by cases h)
theorem ok_law08_keys (k : Nat) (x1 : List (Int × Int)) (r : Bool) (h : law08_keys k x1 = some r) : Tri Try.prog 11 [(.sl 2 (List.map e_u8_i64 x1))] [] (.bool r) [] := by
    unfold law08_keys at h
    obtain ⟨x2, e0, h⟩ := Option.bind_eq_some_iff.1 h
    cases x2 with
    | inl x3 =>
      simp only [Sum.elim_inl] at h
      obtain rfl := Option.some.inj h
      exact Tri.of (x := X11) mixed facts11 [.n x1.length, .norm 2 ⟨[(5, []), (6, []), (7, [])], [], false, [], []⟩, .out (.st .normal (E11_0_0))] [⟨(LT.block (ok_law08_keys_l0 x1 _ k 0 e0))⟩, ⟨(len_map e_u8_i64 x1)⟩] (by kernel_rfl)
    | inr x3 =>
      simp only [Sum.elim_inr] at h
      obtain rfl := Option.some.inj h
      exact Tri.of (x := X11) mixed facts11 [.n x1.length, .norm 2 ⟨[(5, []), (6, []), (7, [])], [], false, [], []⟩, .out (.fin (.bool x3) [])] [⟨(LT.blockFin (id := 0) (ok_law08_keys_l0 x1 _ k 0 e0))⟩, ⟨(len_map e_u8_i64 x1)⟩] (by kernel_rfl)
end Go.Ws
