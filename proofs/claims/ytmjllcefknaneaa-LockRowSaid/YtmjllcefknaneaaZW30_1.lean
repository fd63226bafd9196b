/-
  slices_IndexFunc_1: what the machine makes of it. (Printed by my own program.)
  Conditions: none.
-/
import Derived.Test.YtmjllcefknaneaaZPre
import Derived.Test.YtmjllcefknaneaaZPure
import Derived.Test.YtmjllcefknaneaaZW29
set_option linter.unusedVariables false
set_option linter.unusedSimpArgs false
namespace Go.Ws
open Go.Proofs
set_option linter.unusedSimpArgs false
set_option linter.unusedVariables false
set_option maxRecDepth 1000000
set_option maxHeartbeats 4000000
noncomputable def X30_1 (x1 : List (Int × Int × Bool)) (x2 : Int) : Ctx := ⟨Try.f30, [(.arr 3 (List.map e_u8_i64_b x1) 0 0 false), (.row [(.int .i64 x2)])], false⟩
noncomputable def L30_1_0 : Code := at_ Try.f30 [1, 0, 1, 4, 5]
def S30_1_0 (x1 : List (Int × Int × Bool)) (x2 : Int) (v130001_1 : Int) : St := ⟨mkT 19 [(0, (.ref 3 0 0 0 x1.length .virt)), (1, (.fn 29 [(.hp 1 0)])), (7, (.int .i64 (nI x1.length))), (8, (.int .i64 v130001_1))], [(.arr 3 (List.map e_u8_i64_b x1) 0 0 false), (.row [(.int .i64 x2)])]⟩
def E30_1_0_0 (x1 : List (Int × Int × Bool)) (x2 : Int) : St := ⟨mkT 19 [], [(.arr 3 (List.map e_u8_i64_b x1) 0 0 false), (.row [(.int .i64 x2)])]⟩
def O30_1_0 (x1 : List (Int × Int × Bool)) (x2 : Int) (y : (Sum (Unit) (Int))) : GX := match y with
  | .inl y => .st (.exit 0) (E30_1_0_0 x1 x2)
  | .inr y => .fin (.int .i64 y) [(.arr 3 (List.map e_u8_i64_b x1) 0 0 false), (.row [(.int .i64 x2)])]
theorem ok_slices_IndexFunc_1_l0 (x1 : List (Int × Int × Bool)) (x2 : Int) (y : (Sum (Unit) (Int))) : ∀ (k : Nat) (v130001_1 : Int), slices_IndexFunc_1_l0 k x1 x2 v130001_1 = some y → LT Try.prog (X30_1 x1 x2) L30_1_0 (S30_1_0 x1 x2 v130001_1) (O30_1_0 x1 x2 y)
  | 0, v130001_1, h => by cases h
  | k + 1, v130001_1, h => by
    rw [slices_IndexFunc_1_l0] at h
    by_cases cL0 : ltI v130001_1 (nI x1.length) = true
    · rw [if_pos cL0] at h
      by_cases cL1 : inI v130001_1 x1.length = true
      · rw [if_pos cL1] at h
        obtain ⟨v130000_1, eL2, h⟩ := Option.bind_eq_some_iff.1 h
        by_cases cL3 : eqI v130000_1.2.1 x2 = true
        · rw [if_pos cL3] at h
          obtain rfl := Option.some.inj h
          show LT _ _ _ _ (.fin (.int .i64 v130001_1) [(.arr 3 (List.map e_u8_i64_b x1) 0 0 false), (.row [(.int .i64 x2)])])
          exact LT.done mixed (hs := ⟨[], [], false, [], []⟩) (es := none) [.d true, .row [(.int .u8 v130000_1.1), (.int .i64 v130000_1.2.1), (.bool v130000_1.2.2)], .call ⟨false, []⟩ (.bool (eqI v130000_1.2.1 x2)) [(.row [(.int .i64 x2)])], .d true, .norm 0 ⟨[(4, [])], [], false, [], []⟩] [⟨cL3⟩, ⟨(ok_lock_Free_1 v130000_1.1 v130000_1.2.1 v130000_1.2.2 x2)⟩, ⟨(cells_map (e := e_u8_i64_b) eL2 3 0 3 (by decide))⟩, ⟨cL1⟩, ⟨cL0⟩] (by kernel_rfl) (fun s h => by cases h)
        · rw [if_neg cL3] at h
          replace cL3 := eqf cL3
          exact LT.next mixed (hs := ⟨[(0, []), (1, []), (7, []), (8, [])], [], false, [], []⟩) (es := none) [.d true, .row [(.int .u8 v130000_1.1), (.int .i64 v130000_1.2.1), (.bool v130000_1.2.2)], .call ⟨false, []⟩ (.bool (eqI v130000_1.2.1 x2)) [(.row [(.int .i64 x2)])], .d false] [⟨cL3⟩, ⟨(ok_lock_Free_1 v130000_1.1 v130000_1.2.1 v130000_1.2.2 x2)⟩, ⟨(cells_map (e := e_u8_i64_b) eL2 3 0 3 (by decide))⟩, ⟨cL1⟩, ⟨cL0⟩] (by kernel_rfl) (ok_slices_IndexFunc_1_l0 x1 x2 y k (iadd .i64 v130001_1 1) h)
      · rw [if_neg cL1] at h
        replace cL1 := eqf cL1
        cases h
    · rw [if_neg cL0] at h
      replace cL0 := eqf cL0
      obtain rfl := Option.some.inj h
      show LT _ _ _ _ (.st (.exit 0) (E30_1_0_0 x1 x2))
      exact LT.done mixed (hs := ⟨[], [], false, [], []⟩) (es := (some ⟨[], [], false, [], []⟩)) [.d false] [⟨cL0⟩] (by kernel_rfl) (fun s h => by cases h)
theorem ok_slices_IndexFunc_1 (k : Nat) (x1 : List (Int × Int × Bool)) (x2 : Int) (r : Int) (h : slices_IndexFunc_1 k x1 x2 = some r) : Tri Try.prog 30 [(.ref 3 0 0 0 x1.length .virt), (.fn 29 [(.hp 1 0)])] [(.arr 3 (List.map e_u8_i64_b x1) 0 0 false), (.row [(.int .i64 x2)])] (.int .i64 r) [(.arr 3 (List.map e_u8_i64_b x1) 0 0 false), (.row [(.int .i64 x2)])] := by
    unfold slices_IndexFunc_1 at h
    obtain ⟨x3, e0, h⟩ := Option.bind_eq_some_iff.1 h
    cases x3 with
    | inl x4 =>
      simp only [Sum.elim_inl] at h
      obtain rfl := Option.some.inj h
      exact Tri.of (x := (X30_1 x1 x2)) mixed facts30 [.norm 2 ⟨[(0, []), (1, []), (7, []), (8, [])], [], false, [], []⟩, .out (.st .normal (E30_1_0_0 x1 x2)), .norm 0 ⟨[(4, [])], [], false, [], []⟩] [⟨(LT.block (ok_slices_IndexFunc_1_l0 x1 x2 _ k 0 e0))⟩] (by kernel_rfl)
    | inr x4 =>
      simp only [Sum.elim_inr] at h
      obtain rfl := Option.some.inj h
      exact Tri.of (x := (X30_1 x1 x2)) mixed facts30 [.norm 2 ⟨[(0, []), (1, []), (7, []), (8, [])], [], false, [], []⟩, .out (.fin (.int .i64 x4) [(.arr 3 (List.map e_u8_i64_b x1) 0 0 false), (.row [(.int .i64 x2)])])] [⟨(LT.blockFin (id := 0) (ok_slices_IndexFunc_1_l0 x1 x2 _ k 0 e0))⟩] (by kernel_rfl)
end Go.Ws
