/-
  slices_IndexFunc: what the machine makes of it. (Printed by my own program.)
  Conditions: none.
-/
import Derived.Test.YtmjllcefknaneaaZPre
import Derived.Test.YtmjllcefknaneaaZPure
import Derived.Test.YtmjllcefknaneaaZW31
set_option linter.unusedVariables false
set_option linter.unusedSimpArgs false
namespace Go.Ws
open Go.Proofs
set_option linter.unusedSimpArgs false
set_option linter.unusedVariables false
set_option maxRecDepth 1000000
set_option maxHeartbeats 4000000
noncomputable def X30 (x2 : Int) (x3 : Int) : Ctx := ⟨Try.f30, [(.row [(.int .u8 x2)]), (.row [(.int .i64 x3)])], false⟩
noncomputable def L30_0 : Code := at_ Try.f30 [1, 0, 1, 4, 5]
def S30_0 (x1 : List (Int × Int × Bool)) (x2 : Int) (x3 : Int) (v30001_1 : Int) : St := ⟨mkT 19 [(0, (.sl 3 (List.map e_u8_i64_b x1))), (1, (.fn 31 [(.hp 0 0), (.hp 1 0)])), (7, (.int .i64 (nI x1.length))), (8, (.int .i64 v30001_1))], [(.row [(.int .u8 x2)]), (.row [(.int .i64 x3)])]⟩
def E30_0_0 (x2 : Int) (x3 : Int) : St := ⟨mkT 19 [], [(.row [(.int .u8 x2)]), (.row [(.int .i64 x3)])]⟩
def O30_0 (x1 : List (Int × Int × Bool)) (x2 : Int) (x3 : Int) (y : (Sum (Unit) (Int))) : GX := match y with
  | .inl y => .st (.exit 0) (E30_0_0 x2 x3)
  | .inr y => .fin (.int .i64 y) [(.row [(.int .u8 x2)]), (.row [(.int .i64 x3)])]
theorem ok_slices_IndexFunc_l0 (x1 : List (Int × Int × Bool)) (x2 : Int) (x3 : Int) (y : (Sum (Unit) (Int))) : ∀ (k : Nat) (v30001_1 : Int), slices_IndexFunc_l0 k x1 x2 x3 v30001_1 = some y → LT Try.prog (X30 x2 x3) L30_0 (S30_0 x1 x2 x3 v30001_1) (O30_0 x1 x2 x3 y)
  | 0, v30001_1, h => by cases h
  | k + 1, v30001_1, h => by
    rw [slices_IndexFunc_l0] at h
    by_cases cL0 : ltI v30001_1 (nI x1.length) = true
    · rw [if_pos cL0] at h
      by_cases cL1 : inI v30001_1 x1.length = true
      · rw [if_pos cL1] at h
        obtain ⟨v30000_1, eL2, h⟩ := Option.bind_eq_some_iff.1 h
        by_cases cL3 : (lock_Holds_1 v30000_1.1 v30000_1.2.1 v30000_1.2.2 x2 x3) = true
        · rw [if_pos cL3] at h
          obtain rfl := Option.some.inj h
          show LT _ _ _ _ (.fin (.int .i64 v30001_1) [(.row [(.int .u8 x2)]), (.row [(.int .i64 x3)])])
          exact LT.done mixed (hs := ⟨[], [], false, [], []⟩) (es := none) [.d true, .n x1.length, .row [(.int .u8 v30000_1.1), (.int .i64 v30000_1.2.1), (.bool v30000_1.2.2)], .call ⟨false, []⟩ (.bool (lock_Holds_1 v30000_1.1 v30000_1.2.1 v30000_1.2.2 x2 x3)) [(.row [(.int .u8 x2)]), (.row [(.int .i64 x3)])], .d true, .norm 0 ⟨[(4, [])], [], false, [], []⟩] [⟨cL3⟩, ⟨(ok_lock_Holds_1 v30000_1.1 v30000_1.2.1 v30000_1.2.2 x2 x3)⟩, ⟨(cells_map (e := e_u8_i64_b) eL2 3 0 3 (by decide))⟩, ⟨cL1⟩, ⟨(len_map e_u8_i64_b x1)⟩, ⟨cL0⟩] (by kernel_rfl) (fun s h => by cases h)
        · rw [if_neg cL3] at h
          replace cL3 := eqf cL3
          exact LT.next mixed (hs := ⟨[(0, []), (1, []), (7, []), (8, [])], [], false, [], []⟩) (es := none) [.d true, .n x1.length, .row [(.int .u8 v30000_1.1), (.int .i64 v30000_1.2.1), (.bool v30000_1.2.2)], .call ⟨false, []⟩ (.bool (lock_Holds_1 v30000_1.1 v30000_1.2.1 v30000_1.2.2 x2 x3)) [(.row [(.int .u8 x2)]), (.row [(.int .i64 x3)])], .d false] [⟨cL3⟩, ⟨(ok_lock_Holds_1 v30000_1.1 v30000_1.2.1 v30000_1.2.2 x2 x3)⟩, ⟨(cells_map (e := e_u8_i64_b) eL2 3 0 3 (by decide))⟩, ⟨cL1⟩, ⟨(len_map e_u8_i64_b x1)⟩, ⟨cL0⟩] (by kernel_rfl) (ok_slices_IndexFunc_l0 x1 x2 x3 y k (iadd .i64 v30001_1 1) h)
      · rw [if_neg cL1] at h
        replace cL1 := eqf cL1
        cases h
    · rw [if_neg cL0] at h
      replace cL0 := eqf cL0
      obtain rfl := Option.some.inj h
      show LT _ _ _ _ (.st (.exit 0) (E30_0_0 x2 x3))
      exact LT.done mixed (hs := ⟨[], [], false, [], []⟩) (es := (some ⟨[], [], false, [], []⟩)) [.d false] [⟨cL0⟩] (by kernel_rfl) (fun s h => by cases h)
theorem ok_slices_IndexFunc (k : Nat) (x1 : List (Int × Int × Bool)) (x2 : Int) (x3 : Int) (r : Int) (h : slices_IndexFunc k x1 x2 x3 = some r) : Tri Try.prog 30 [(.sl 3 (List.map e_u8_i64_b x1)), (.fn 31 [(.hp 0 0), (.hp 1 0)])] [(.row [(.int .u8 x2)]), (.row [(.int .i64 x3)])] (.int .i64 r) [(.row [(.int .u8 x2)]), (.row [(.int .i64 x3)])] := by
    unfold slices_IndexFunc at h
    obtain ⟨x4, e0, h⟩ := Option.bind_eq_some_iff.1 h
    cases x4 with
    | inl x5 =>
      simp only [Sum.elim_inl] at h
      obtain rfl := Option.some.inj h
      exact Tri.of (x := (X30 x2 x3)) mixed facts30 [.n x1.length, .norm 2 ⟨[(0, []), (1, []), (7, []), (8, [])], [], false, [], []⟩, .out (.st .normal (E30_0_0 x2 x3)), .norm 0 ⟨[(4, [])], [], false, [], []⟩] [⟨(LT.block (ok_slices_IndexFunc_l0 x1 x2 x3 _ k 0 e0))⟩, ⟨(len_map e_u8_i64_b x1)⟩] (by kernel_rfl)
    | inr x5 =>
      simp only [Sum.elim_inr] at h
      obtain rfl := Option.some.inj h
      exact Tri.of (x := (X30 x2 x3)) mixed facts30 [.n x1.length, .norm 2 ⟨[(0, []), (1, []), (7, []), (8, [])], [], false, [], []⟩, .out (.fin (.int .i64 x5) [(.row [(.int .u8 x2)]), (.row [(.int .i64 x3)])])] [⟨(LT.blockFin (id := 0) (ok_slices_IndexFunc_l0 x1 x2 x3 _ k 0 e0))⟩, ⟨(len_map e_u8_i64_b x1)⟩] (by kernel_rfl)
end Go.Ws
