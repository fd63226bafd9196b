/-
  Walks, merged.
  Conditions: none.
-/
import Derived.Test.YtnokdedppgmliaaZPre
import Derived.Test.YtnokdedppgmliaaZPure
import Derived.Test.YtnokdedppgmliaaZOppI
set_option linter.unusedVariables false
set_option linter.unusedSimpArgs false
namespace Go.Ws
open Go.Proofs
set_option linter.unusedSimpArgs false
set_option linter.unusedVariables false
set_option maxRecDepth 1000000
set_option maxHeartbeats 4000000
noncomputable def X28 : Ctx := ⟨Try.f28, [], true⟩
theorem ok_part_wide (x1 : Int) (x2 : Int) : Tri Try.prog 28 [(.agg [(.int .u8 x1), (.int .i64 x2)])] [] (.bool (part_wide x1 x2)) [] := by
    obtain ⟨r, h⟩ : ∃ r, part_wide x1 x2 = r := ⟨_, rfl⟩
    try rw [h]
    unfold part_wide at h
    obtain rfl := h
    exact Tri.of (x := X28) mixed facts28 [] [] (by kernel_rfl)
end Go.Ws

namespace Go.Ws
open Go.Proofs
set_option linter.unusedSimpArgs false
set_option linter.unusedVariables false
set_option maxRecDepth 1000000
set_option maxHeartbeats 4000000
noncomputable def X35 : Ctx := ⟨Try.f35, [], true⟩
noncomputable def L35_0 : Code := at_ Try.f35 [1, 0, 1, 4, 5]
def S35_0 (x1 : List (Int × Int)) (v35001_1 : Int) : St := ⟨mkT 19 [(0, (.sl 2 (List.map e_u8_i64 x1))), (1, (.fn 28 [])), (7, (.int .i64 (nI x1.length))), (8, (.int .i64 v35001_1))], []⟩
def E35_0_0 : St := ⟨mkT 19 [], []⟩
def O35_0 (x1 : List (Int × Int)) (y : (Sum (Unit) (Int))) : GX := match y with
  | .inl y => .st (.exit 0) (E35_0_0)
  | .inr y => .fin (.int .i64 y) []
theorem ok_slices_IndexFunc_l0 (x1 : List (Int × Int)) (y : (Sum (Unit) (Int))) : ∀ (k : Nat) (v35001_1 : Int), slices_IndexFunc_l0 k x1 v35001_1 = some y → LT Try.prog X35 L35_0 (S35_0 x1 v35001_1) (O35_0 x1 y)
  | 0, v35001_1, h => by cases h
  | k + 1, v35001_1, h => by
    rw [slices_IndexFunc_l0] at h
    by_cases cL0 : ltI v35001_1 (nI x1.length) = true
    · rw [if_pos cL0] at h
      by_cases cL1 : inI v35001_1 x1.length = true
      · rw [if_pos cL1] at h
        obtain ⟨v35000_1, eL2, h⟩ := Option.bind_eq_some_iff.1 h
        by_cases cL3 : (part_wide v35000_1.1 v35000_1.2) = true
        · rw [if_pos cL3] at h
          obtain rfl := Option.some.inj h
          show LT _ _ _ _ (.fin (.int .i64 v35001_1) [])
          exact LT.done mixed (hs := ⟨[], [], false, [], []⟩) (es := none) [.d true, .n x1.length, .row [(.int .u8 v35000_1.1), (.int .i64 v35000_1.2)], .call ⟨true, []⟩ (.bool (part_wide v35000_1.1 v35000_1.2)) [], .d true] [⟨cL3⟩, ⟨(ok_part_wide v35000_1.1 v35000_1.2)⟩, ⟨(cells_map (e := e_u8_i64) eL2 2 0 2 (by decide))⟩, ⟨cL1⟩, ⟨(len_map e_u8_i64 x1)⟩, ⟨cL0⟩] (by kernel_rfl) (fun s h => by cases h)
        · rw [if_neg cL3] at h
          replace cL3 := eqf cL3
          exact LT.next mixed (hs := ⟨[(0, []), (1, []), (7, []), (8, [])], [], false, [], []⟩) (es := none) [.d true, .n x1.length, .row [(.int .u8 v35000_1.1), (.int .i64 v35000_1.2)], .call ⟨true, []⟩ (.bool (part_wide v35000_1.1 v35000_1.2)) [], .d false] [⟨cL3⟩, ⟨(ok_part_wide v35000_1.1 v35000_1.2)⟩, ⟨(cells_map (e := e_u8_i64) eL2 2 0 2 (by decide))⟩, ⟨cL1⟩, ⟨(len_map e_u8_i64 x1)⟩, ⟨cL0⟩] (by kernel_rfl) (ok_slices_IndexFunc_l0 x1 y k (iadd .i64 v35001_1 1) h)
      · rw [if_neg cL1] at h
        replace cL1 := eqf cL1
        cases h
    · rw [if_neg cL0] at h
      replace cL0 := eqf cL0
      obtain rfl := Option.some.inj h
      show LT _ _ _ _ (.st (.exit 0) (E35_0_0))
      exact LT.done mixed (hs := ⟨[], [], false, [], []⟩) (es := (some ⟨[], [], false, [], []⟩)) [.d false] [⟨cL0⟩] (by kernel_rfl) (fun s h => by cases h)
theorem ok_slices_IndexFunc (k : Nat) (x1 : List (Int × Int)) (r : Int) (h : slices_IndexFunc k x1 = some r) : Tri Try.prog 35 [(.sl 2 (List.map e_u8_i64 x1)), (.fn 28 [])] [] (.int .i64 r) [] := by
    unfold slices_IndexFunc at h
    obtain ⟨x2, e0, h⟩ := Option.bind_eq_some_iff.1 h
    cases x2 with
    | inl x3 =>
      simp only [Sum.elim_inl] at h
      obtain rfl := Option.some.inj h
      exact Tri.of (x := X35) mixed facts35 [.n x1.length, .norm 2 ⟨[(0, []), (1, []), (7, []), (8, [])], [], false, [], []⟩, .out (.st .normal (E35_0_0))] [⟨(LT.block (ok_slices_IndexFunc_l0 x1 _ k 0 e0))⟩, ⟨(len_map e_u8_i64 x1)⟩] (by kernel_rfl)
    | inr x3 =>
      simp only [Sum.elim_inr] at h
      obtain rfl := Option.some.inj h
      exact Tri.of (x := X35) mixed facts35 [.n x1.length, .norm 2 ⟨[(0, []), (1, []), (7, []), (8, [])], [], false, [], []⟩, .out (.fin (.int .i64 x3) [])] [⟨(LT.blockFin (id := 0) (ok_slices_IndexFunc_l0 x1 _ k 0 e0))⟩, ⟨(len_map e_u8_i64 x1)⟩] (by kernel_rfl)
end Go.Ws

namespace Go.Ws
open Go.Proofs
set_option linter.unusedSimpArgs false
set_option linter.unusedVariables false
set_option maxRecDepth 1000000
set_option maxHeartbeats 4000000
noncomputable def X27 : Ctx := ⟨Try.f27, [], true⟩
theorem ok_slices_ContainsFunc (k : Nat) (x1 : List (Int × Int)) (r : Bool) (h : slices_ContainsFunc k x1 = some r) : Tri Try.prog 27 [(.sl 2 (List.map e_u8_i64 x1)), (.fn 28 [])] [] (.bool r) [] := by
    unfold slices_ContainsFunc at h
    obtain ⟨x2, e0, h⟩ := Option.bind_eq_some_iff.1 h
    obtain rfl := Option.some.inj h
    exact Tri.of (x := X27) mixed facts27 [.call ⟨true, []⟩ (.int .i64 x2) []] [⟨(ok_slices_IndexFunc k x1 _ e0)⟩] (by kernel_rfl)
end Go.Ws

namespace Go.Ws
open Go.Proofs
set_option linter.unusedSimpArgs false
set_option linter.unusedVariables false
set_option maxRecDepth 1000000
set_option maxHeartbeats 4000000
noncomputable def X12 : Ctx := ⟨Try.f12, [], true⟩
theorem ok_part_Right (k : Nat) (x1 : Int) (x2 : List (Int × Int)) (x3 : Bool) (x4 : Int) (r : Bool) (h : part_Right k x1 x2 x3 x4 = some r) : Tri Try.prog 12 [(.agg [(.int .i64 x1), (.sl 2 (List.map e_u8_i64 x2)), (.bool x3), (.int .i64 x4)])] [] (.bool r) [] := by
    unfold part_Right at h
    by_cases c0 : ltI x1 0 = true
    · rw [if_pos c0] at h
      obtain rfl := Option.some.inj h
      exact Tri.of (x := X12) mixed facts12 [.d true, .d true, .d true, .d true, .d true, .d true, .d true, .d true, .d true, .d true, .d true, .d true, .d true, .d true] [⟨(rfl : true = true)⟩, ⟨(rfl : true = true)⟩, ⟨(rfl : true = true)⟩, ⟨(rfl : true = true)⟩, ⟨(rfl : true = true)⟩, ⟨(rfl : true = true)⟩, ⟨(rfl : true = true)⟩, ⟨(rfl : true = true)⟩, ⟨(rfl : true = true)⟩, ⟨(rfl : true = true)⟩, ⟨c0⟩, ⟨c0⟩, ⟨c0⟩, ⟨c0⟩] (by kernel_rfl)
    · rw [if_neg c0] at h
      replace c0 := eqf c0
      by_cases c1 : ltI 3 x1 = true
      · rw [if_pos c1] at h
        obtain rfl := Option.some.inj h
        exact Tri.of (x := X12) mixed facts12 [.d false, .d false, .d false, .d false, .d true, .d true, .d true, .d true, .d true, .d true, .d true, .d true, .d true, .d true] [⟨(rfl : true = true)⟩, ⟨(rfl : true = true)⟩, ⟨(rfl : true = true)⟩, ⟨(rfl : true = true)⟩, ⟨(rfl : true = true)⟩, ⟨c1⟩, ⟨c1⟩, ⟨c1⟩, ⟨c1⟩, ⟨c1⟩, ⟨c0⟩, ⟨c0⟩, ⟨c0⟩, ⟨c0⟩] (by kernel_rfl)
      · rw [if_neg c1] at h
        replace c1 := eqf c1
        by_cases c2 : ltI 50 (nI x2.length) = true
        · rw [if_pos c2] at h
          obtain rfl := Option.some.inj h
          exact Tri.of (x := X12) mixed facts12 [.d false, .d false, .d false, .d false, .d false, .d false, .d false, .n x2.length, .d false, .d false, .d true, .d true, .d true, .d true, .d true] [⟨(rfl : true = true)⟩, ⟨c2⟩, ⟨c2⟩, ⟨c2⟩, ⟨c2⟩, ⟨c1⟩, ⟨c1⟩, ⟨(len_map e_u8_i64 x2)⟩, ⟨c1⟩, ⟨c1⟩, ⟨c1⟩, ⟨c0⟩, ⟨c0⟩, ⟨c0⟩, ⟨c0⟩] (by kernel_rfl)
        · rw [if_neg c2] at h
          replace c2 := eqf c2
          obtain ⟨x5, e3, h⟩ := Option.bind_eq_some_iff.1 h
          by_cases c4 : x5 = true
          · rw [if_pos c4] at h
            obtain rfl := Option.some.inj h
            exact Tri.of (x := X12) mixed facts12 [.d false, .d false, .d false, .d false, .d false, .d false, .d false, .n x2.length, .d false, .d false, .d false, .d false, .d false, .call ⟨true, []⟩ (.bool x5) [], .d false, .d true] [⟨c4⟩, ⟨c2⟩, ⟨(ok_slices_ContainsFunc k x2 _ e3)⟩, ⟨c2⟩, ⟨c2⟩, ⟨c2⟩, ⟨c1⟩, ⟨c1⟩, ⟨(len_map e_u8_i64 x2)⟩, ⟨c1⟩, ⟨c1⟩, ⟨c1⟩, ⟨c0⟩, ⟨c0⟩, ⟨c0⟩, ⟨c0⟩] (by kernel_rfl)
          · rw [if_neg c4] at h
            replace c4 := eqf c4
            by_cases c5 : eqI x4 1 = true
            · rw [if_pos c5] at h
              by_cases c6 : eqI x1 3 = true
              · rw [if_pos c6] at h
                obtain rfl := Option.some.inj h
                exact Tri.of (x := X12) mixed facts12 [.d false, .d false, .d false, .d false, .d false, .d false, .d false, .n x2.length, .d false, .d false, .d false, .d false, .d false, .call ⟨true, []⟩ (.bool x5) [], .d false, .d false, .d true, .d true, .d true, .d true, .d true] [⟨c6⟩, ⟨c5⟩, ⟨c5⟩, ⟨c5⟩, ⟨c5⟩, ⟨c4⟩, ⟨c2⟩, ⟨(ok_slices_ContainsFunc k x2 _ e3)⟩, ⟨c2⟩, ⟨c2⟩, ⟨c2⟩, ⟨c1⟩, ⟨c1⟩, ⟨(len_map e_u8_i64 x2)⟩, ⟨c1⟩, ⟨c1⟩, ⟨c1⟩, ⟨c0⟩, ⟨c0⟩, ⟨c0⟩, ⟨c0⟩] (by kernel_rfl)
              · rw [if_neg c6] at h
                replace c6 := eqf c6
                by_cases c7 : eqI x4 0 = true
                · rw [if_pos c7] at h
                  by_cases c8 : x3 = true
                  · rw [if_pos c8] at h
                    obtain rfl := Option.some.inj h
                    exact Tri.of (x := X12) mixed facts12 [.d false, .d false, .d false, .d false, .d false, .d false, .d false, .n x2.length, .d false, .d false, .d false, .d false, .d false, .call ⟨true, []⟩ (.bool x5) [], .d false, .d false, .d true, .d true, .d true, .d true, .d false, .d true, .d true, .d true, .d true, .d false, .d false, .d false, .d true, .d false, .d true] [⟨c7⟩, ⟨(nF c8)⟩, ⟨c7⟩, ⟨(nF c8)⟩, ⟨(nF c8)⟩, ⟨(nF c8)⟩, ⟨c7⟩, ⟨c7⟩, ⟨c7⟩, ⟨c7⟩, ⟨c6⟩, ⟨c5⟩, ⟨c5⟩, ⟨c5⟩, ⟨c5⟩, ⟨c4⟩, ⟨c2⟩, ⟨(ok_slices_ContainsFunc k x2 _ e3)⟩, ⟨c2⟩, ⟨c2⟩, ⟨c2⟩, ⟨c1⟩, ⟨c1⟩, ⟨(len_map e_u8_i64 x2)⟩, ⟨c1⟩, ⟨c1⟩, ⟨c1⟩, ⟨c0⟩, ⟨c0⟩, ⟨c0⟩, ⟨c0⟩] (by kernel_rfl)
                  · rw [if_neg c8] at h
                    replace c8 := eqf c8
                    obtain rfl := Option.some.inj h
                    exact Tri.of (x := X12) mixed facts12 [.d false, .d false, .d false, .d false, .d false, .d false, .d false, .n x2.length, .d false, .d false, .d false, .d false, .d false, .call ⟨true, []⟩ (.bool x5) [], .d false, .d false, .d true, .d true, .d true, .d true, .d false, .d true, .d true, .d true, .d true, .d true, .d true, .d true, .d true, .d true, .d true] [⟨c7⟩, ⟨(nT c8)⟩, ⟨c7⟩, ⟨(nT c8)⟩, ⟨(nT c8)⟩, ⟨(nT c8)⟩, ⟨c7⟩, ⟨c7⟩, ⟨c7⟩, ⟨c7⟩, ⟨c6⟩, ⟨c5⟩, ⟨c5⟩, ⟨c5⟩, ⟨c5⟩, ⟨c4⟩, ⟨c2⟩, ⟨(ok_slices_ContainsFunc k x2 _ e3)⟩, ⟨c2⟩, ⟨c2⟩, ⟨c2⟩, ⟨c1⟩, ⟨c1⟩, ⟨(len_map e_u8_i64 x2)⟩, ⟨c1⟩, ⟨c1⟩, ⟨c1⟩, ⟨c0⟩, ⟨c0⟩, ⟨c0⟩, ⟨c0⟩] (by kernel_rfl)
                · rw [if_neg c7] at h
                  replace c7 := eqf c7
                  obtain rfl := Option.some.inj h
                  exact Tri.of (x := X12) mixed facts12 [.d false, .d false, .d false, .d false, .d false, .d false, .d false, .n x2.length, .d false, .d false, .d false, .d false, .d false, .call ⟨true, []⟩ (.bool x5) [], .d false, .d false, .d true, .d true, .d true, .d true, .d false, .d false, .d false, .d false, .d false, .d false, .d false] [⟨c7⟩, ⟨c7⟩, ⟨c7⟩, ⟨c7⟩, ⟨c7⟩, ⟨c7⟩, ⟨c6⟩, ⟨c5⟩, ⟨c5⟩, ⟨c5⟩, ⟨c5⟩, ⟨c4⟩, ⟨c2⟩, ⟨(ok_slices_ContainsFunc k x2 _ e3)⟩, ⟨c2⟩, ⟨c2⟩, ⟨c2⟩, ⟨c1⟩, ⟨c1⟩, ⟨(len_map e_u8_i64 x2)⟩, ⟨c1⟩, ⟨c1⟩, ⟨c1⟩, ⟨c0⟩, ⟨c0⟩, ⟨c0⟩, ⟨c0⟩] (by kernel_rfl)
            · rw [if_neg c5] at h
              replace c5 := eqf c5
              by_cases c6 : eqI x1 3 = true
              · rw [if_pos c6] at h
                obtain rfl := Option.some.inj h
                exact Tri.of (x := X12) mixed facts12 [.d false, .d false, .d false, .d false, .d false, .d false, .d false, .n x2.length, .d false, .d false, .d false, .d false, .d false, .call ⟨true, []⟩ (.bool x5) [], .d false, .d false, .d false, .d false, .d false, .d false, .d true] [⟨c6⟩, ⟨c5⟩, ⟨c5⟩, ⟨c5⟩, ⟨c5⟩, ⟨c4⟩, ⟨c2⟩, ⟨(ok_slices_ContainsFunc k x2 _ e3)⟩, ⟨c2⟩, ⟨c2⟩, ⟨c2⟩, ⟨c1⟩, ⟨c1⟩, ⟨(len_map e_u8_i64 x2)⟩, ⟨c1⟩, ⟨c1⟩, ⟨c1⟩, ⟨c0⟩, ⟨c0⟩, ⟨c0⟩, ⟨c0⟩] (by kernel_rfl)
              · rw [if_neg c6] at h
                replace c6 := eqf c6
                by_cases c7 : eqI x4 0 = true
                · rw [if_pos c7] at h
                  by_cases c8 : x3 = true
                  · rw [if_pos c8] at h
                    obtain rfl := Option.some.inj h
                    exact Tri.of (x := X12) mixed facts12 [.d false, .d false, .d false, .d false, .d false, .d false, .d false, .n x2.length, .d false, .d false, .d false, .d false, .d false, .call ⟨true, []⟩ (.bool x5) [], .d false, .d false, .d false, .d false, .d false, .d false, .d false, .d true, .d true, .d true, .d true, .d false, .d false, .d false, .d true, .d false, .d true] [⟨c7⟩, ⟨(nF c8)⟩, ⟨c7⟩, ⟨(nF c8)⟩, ⟨(nF c8)⟩, ⟨(nF c8)⟩, ⟨c7⟩, ⟨c7⟩, ⟨c7⟩, ⟨c7⟩, ⟨c6⟩, ⟨c5⟩, ⟨c5⟩, ⟨c5⟩, ⟨c5⟩, ⟨c4⟩, ⟨c2⟩, ⟨(ok_slices_ContainsFunc k x2 _ e3)⟩, ⟨c2⟩, ⟨c2⟩, ⟨c2⟩, ⟨c1⟩, ⟨c1⟩, ⟨(len_map e_u8_i64 x2)⟩, ⟨c1⟩, ⟨c1⟩, ⟨c1⟩, ⟨c0⟩, ⟨c0⟩, ⟨c0⟩, ⟨c0⟩] (by kernel_rfl)
                  · rw [if_neg c8] at h
                    replace c8 := eqf c8
                    obtain rfl := Option.some.inj h
                    exact Tri.of (x := X12) mixed facts12 [.d false, .d false, .d false, .d false, .d false, .d false, .d false, .n x2.length, .d false, .d false, .d false, .d false, .d false, .call ⟨true, []⟩ (.bool x5) [], .d false, .d false, .d false, .d false, .d false, .d false, .d false, .d true, .d true, .d true, .d true, .d true, .d true, .d true, .d true, .d true, .d true] [⟨c7⟩, ⟨(nT c8)⟩, ⟨c7⟩, ⟨(nT c8)⟩, ⟨(nT c8)⟩, ⟨(nT c8)⟩, ⟨c7⟩, ⟨c7⟩, ⟨c7⟩, ⟨c7⟩, ⟨c6⟩, ⟨c5⟩, ⟨c5⟩, ⟨c5⟩, ⟨c5⟩, ⟨c4⟩, ⟨c2⟩, ⟨(ok_slices_ContainsFunc k x2 _ e3)⟩, ⟨c2⟩, ⟨c2⟩, ⟨c2⟩, ⟨c1⟩, ⟨c1⟩, ⟨(len_map e_u8_i64 x2)⟩, ⟨c1⟩, ⟨c1⟩, ⟨c1⟩, ⟨c0⟩, ⟨c0⟩, ⟨c0⟩, ⟨c0⟩] (by kernel_rfl)
                · rw [if_neg c7] at h
                  replace c7 := eqf c7
                  obtain rfl := Option.some.inj h
                  exact Tri.of (x := X12) mixed facts12 [.d false, .d false, .d false, .d false, .d false, .d false, .d false, .n x2.length, .d false, .d false, .d false, .d false, .d false, .call ⟨true, []⟩ (.bool x5) [], .d false, .d false, .d false, .d false, .d false, .d false, .d false, .d false, .d false, .d false, .d false, .d false, .d false] [⟨c7⟩, ⟨c7⟩, ⟨c7⟩, ⟨c7⟩, ⟨c7⟩, ⟨c7⟩, ⟨c6⟩, ⟨c5⟩, ⟨c5⟩, ⟨c5⟩, ⟨c5⟩, ⟨c4⟩, ⟨c2⟩, ⟨(ok_slices_ContainsFunc k x2 _ e3)⟩, ⟨c2⟩, ⟨c2⟩, ⟨c2⟩, ⟨c1⟩, ⟨c1⟩, ⟨(len_map e_u8_i64 x2)⟩, ⟨c1⟩, ⟨c1⟩, ⟨c1⟩, ⟨c0⟩, ⟨c0⟩, ⟨c0⟩, ⟨c0⟩] (by kernel_rfl)
end Go.Ws

namespace Go.Ws
open Go.Proofs
set_option linter.unusedSimpArgs false
set_option linter.unusedVariables false
set_option maxRecDepth 1000000
set_option maxHeartbeats 4000000
noncomputable def X13 : Ctx := ⟨Try.f13, [], true⟩
noncomputable def L13_0 : Code := at_ Try.f13 [1, 0, 1, 4, 5]
def S13_0 (x1 : Int) (x2 : List (Int × Int)) (x3 : Bool) (x4 : Int) (v13001_1 : Int) : St := ⟨mkT 58 [(1, (.hp 0 0)), (3, (.int .i64 v13001_1))], [(.row [(.int .i64 x1), (.sl 2 (List.map e_u8_i64 x2)), (.bool x3), (.int .i64 x4)])]⟩
def E13_0_0 (x1 : Int) (x2 : List (Int × Int)) (x3 : Bool) (x4 : Int) : St := ⟨mkT 58 [(1, (.hp 0 0))], [(.row [(.int .i64 x1), (.sl 2 (List.map e_u8_i64 x2)), (.bool x3), (.int .i64 x4)])]⟩
def O13_0 (x1 : Int) (x2 : List (Int × Int)) (x3 : Bool) (x4 : Int) (y : (Sum (Unit) (Bool))) : GX := match y with
  | .inl y => .st (.exit 0) (E13_0_0 x1 x2 x3 x4)
  | .inr y => .fin (.bool y) []
theorem ok_ref09_Right_l0 (x1 : Int) (x2 : List (Int × Int)) (x3 : Bool) (x4 : Int) (y : (Sum (Unit) (Bool))) : ∀ (k : Nat) (v13001_1 : Int), ref09_Right_l0 k x1 x2 x3 x4 v13001_1 = some y → LT Try.prog X13 L13_0 (S13_0 x1 x2 x3 x4 v13001_1) (O13_0 x1 x2 x3 x4 y)
  | 0, v13001_1, h => by cases h
  | k + 1, v13001_1, h => by
    rw [ref09_Right_l0] at h
    by_cases cL0 : ltI v13001_1 (nI x2.length) = true
    · rw [if_pos cL0] at h
      by_cases cL1 : inI v13001_1 x2.length = true
      · rw [if_pos cL1] at h
        obtain ⟨v13000_1, eL2, h⟩ := Option.bind_eq_some_iff.1 h
        by_cases cL3 : ltI v13000_1.1 64 = true
        · rw [if_pos cL3] at h
          exact LT.next mixed (hs := ⟨[(1, []), (3, [])], [⟨.tmp 1, [], none⟩], false, [], []⟩) (es := none) [.n x2.length, .d true, .n x2.length, .row [(.int .u8 v13000_1.1)], .d false] [⟨(nF cL3)⟩, ⟨(cells_map (e := e_u8_i64) eL2 2 0 1 (by decide))⟩, ⟨cL1⟩, ⟨(len_map e_u8_i64 x2)⟩, ⟨cL0⟩, ⟨(len_map e_u8_i64 x2)⟩] (by kernel_rfl) (ok_ref09_Right_l0 x1 x2 x3 x4 y k (iadd .i64 v13001_1 1) h)
        · rw [if_neg cL3] at h
          replace cL3 := eqf cL3
          obtain rfl := Option.some.inj h
          show LT _ _ _ _ (.fin (.bool false) [])
          exact LT.done mixed (hs := ⟨[], [], false, [], []⟩) (es := none) [.n x2.length, .d true, .n x2.length, .row [(.int .u8 v13000_1.1)], .d true] [⟨(nT cL3)⟩, ⟨(cells_map (e := e_u8_i64) eL2 2 0 1 (by decide))⟩, ⟨cL1⟩, ⟨(len_map e_u8_i64 x2)⟩, ⟨cL0⟩, ⟨(len_map e_u8_i64 x2)⟩] (by kernel_rfl) (fun s h => by cases h)
      · rw [if_neg cL1] at h
        replace cL1 := eqf cL1
        cases h
    · rw [if_neg cL0] at h
      replace cL0 := eqf cL0
      obtain rfl := Option.some.inj h
      show LT _ _ _ _ (.st (.exit 0) (E13_0_0 x1 x2 x3 x4))
      exact LT.done mixed (hs := ⟨[], [], false, [], []⟩) (es := (some ⟨[(1, [])], [⟨.tmp 1, [], none⟩], false, [], []⟩)) [.n x2.length, .d false] [⟨cL0⟩, ⟨(len_map e_u8_i64 x2)⟩] (by kernel_rfl) (fun s h => by cases h)
theorem ok_ref09_Right (k : Nat) (x1 : Int) (x2 : List (Int × Int)) (x3 : Bool) (x4 : Int) (r : Bool) (h : ref09_Right k x1 x2 x3 x4 = some r) : Tri Try.prog 13 [(.agg [(.int .i64 x1), (.sl 2 (List.map e_u8_i64 x2)), (.bool x3), (.int .i64 x4)])] [] (.bool r) [] := by
    unfold ref09_Right at h
    obtain ⟨x5, e0, h⟩ := Option.bind_eq_some_iff.1 h
    cases x5 with
    | inl x6 =>
      simp only [Sum.elim_inl] at h
      by_cases c2 : ltI x1 0 = true
      · rw [if_pos c2] at h
        obtain rfl := Option.some.inj h
        exact Tri.of (x := X13) mixed facts13 [.norm 2 ⟨[(1, []), (3, [])], [⟨.tmp 1, [], none⟩], false, [], []⟩, .out (.st .normal (E13_0_0 x1 x2 x3 x4)), .d true, .d true, .d true, .d true, .d true, .d true, .d true, .d true, .d true, .d true] [⟨(rfl : true = true)⟩, ⟨(rfl : true = true)⟩, ⟨(rfl : true = true)⟩, ⟨(rfl : true = true)⟩, ⟨(rfl : true = true)⟩, ⟨(rfl : true = true)⟩, ⟨c2⟩, ⟨c2⟩, ⟨c2⟩, ⟨c2⟩, ⟨(LT.block (ok_ref09_Right_l0 x1 x2 x3 x4 _ k 0 e0))⟩] (by kernel_rfl)
      · rw [if_neg c2] at h
        replace c2 := eqf c2
        by_cases c3 : ltI 3 x1 = true
        · rw [if_pos c3] at h
          obtain rfl := Option.some.inj h
          exact Tri.of (x := X13) mixed facts13 [.norm 2 ⟨[(1, []), (3, [])], [⟨.tmp 1, [], none⟩], false, [], []⟩, .out (.st .normal (E13_0_0 x1 x2 x3 x4)), .d false, .d false, .d false, .d false, .d true, .d true, .d true, .d true, .d true, .d true] [⟨(rfl : true = true)⟩, ⟨c3⟩, ⟨c3⟩, ⟨c3⟩, ⟨c3⟩, ⟨c3⟩, ⟨c2⟩, ⟨c2⟩, ⟨c2⟩, ⟨c2⟩, ⟨(LT.block (ok_ref09_Right_l0 x1 x2 x3 x4 _ k 0 e0))⟩] (by kernel_rfl)
        · rw [if_neg c3] at h
          replace c3 := eqf c3
          by_cases c4 : ltI 50 (nI x2.length) = true
          · rw [if_pos c4] at h
            obtain rfl := Option.some.inj h
            exact Tri.of (x := X13) mixed facts13 [.norm 2 ⟨[(1, []), (3, [])], [⟨.tmp 1, [], none⟩], false, [], []⟩, .out (.st .normal (E13_0_0 x1 x2 x3 x4)), .d false, .d false, .d false, .d false, .d false, .d false, .d false, .n x2.length, .d false, .d false, .d true] [⟨c4⟩, ⟨c3⟩, ⟨c3⟩, ⟨(len_map e_u8_i64 x2)⟩, ⟨c3⟩, ⟨c3⟩, ⟨c3⟩, ⟨c2⟩, ⟨c2⟩, ⟨c2⟩, ⟨c2⟩, ⟨(LT.block (ok_ref09_Right_l0 x1 x2 x3 x4 _ k 0 e0))⟩] (by kernel_rfl)
          · rw [if_neg c4] at h
            replace c4 := eqf c4
            by_cases c5 : x3 = true
            · rw [if_pos c5] at h
              by_cases c6 : eqI x1 1 = true
              · rw [if_pos c6] at h
                by_cases c7 : eqI x1 3 = true
                · rw [if_pos c7] at h
                  by_cases c8 : eqI x4 1 = true
                  · rw [if_pos c8] at h
                    obtain rfl := Option.some.inj h
                    exact Tri.of (x := X13) mixed facts13 [.norm 2 ⟨[(1, []), (3, [])], [⟨.tmp 1, [], none⟩], false, [], []⟩, .out (.st .normal (E13_0_0 x1 x2 x3 x4)), .d false, .d false, .d false, .d false, .d false, .d false, .d false, .n x2.length, .d false, .d false, .d false, .d true, .d true, .d true, .d true, .d false, .d false, .d false, .d false, .d false, .d true, .d true, .d true, .d true, .d true] [⟨c8⟩, ⟨c8⟩, ⟨c8⟩, ⟨c8⟩, ⟨c7⟩, ⟨(rfl : false = false)⟩, ⟨(nF c6)⟩, ⟨(nF c6)⟩, ⟨(nF c6)⟩, ⟨(nF c6)⟩, ⟨c5⟩, ⟨c5⟩, ⟨c5⟩, ⟨c5⟩, ⟨c4⟩, ⟨c3⟩, ⟨c3⟩, ⟨(len_map e_u8_i64 x2)⟩, ⟨c3⟩, ⟨c3⟩, ⟨c3⟩, ⟨c2⟩, ⟨c2⟩, ⟨c2⟩, ⟨c2⟩, ⟨(LT.block (ok_ref09_Right_l0 x1 x2 x3 x4 _ k 0 e0))⟩] (by kernel_rfl)
                  · rw [if_neg c8] at h
                    replace c8 := eqf c8
                    obtain rfl := Option.some.inj h
                    exact Tri.of (x := X13) mixed facts13 [.norm 2 ⟨[(1, []), (3, [])], [⟨.tmp 1, [], none⟩], false, [], []⟩, .out (.st .normal (E13_0_0 x1 x2 x3 x4)), .d false, .d false, .d false, .d false, .d false, .d false, .d false, .n x2.length, .d false, .d false, .d false, .d true, .d true, .d true, .d true, .d false, .d false, .d false, .d false, .d false, .d true, .d false, .d false, .d false, .d false] [⟨c8⟩, ⟨c8⟩, ⟨c8⟩, ⟨c8⟩, ⟨c7⟩, ⟨(rfl : false = false)⟩, ⟨(nF c6)⟩, ⟨(nF c6)⟩, ⟨(nF c6)⟩, ⟨(nF c6)⟩, ⟨c5⟩, ⟨c5⟩, ⟨c5⟩, ⟨c5⟩, ⟨c4⟩, ⟨c3⟩, ⟨c3⟩, ⟨(len_map e_u8_i64 x2)⟩, ⟨c3⟩, ⟨c3⟩, ⟨c3⟩, ⟨c2⟩, ⟨c2⟩, ⟨c2⟩, ⟨c2⟩, ⟨(LT.block (ok_ref09_Right_l0 x1 x2 x3 x4 _ k 0 e0))⟩] (by kernel_rfl)
                · rw [if_neg c7] at h
                  replace c7 := eqf c7
                  obtain rfl := Option.some.inj h
                  exact Tri.of (x := X13) mixed facts13 [.norm 2 ⟨[(1, []), (3, [])], [⟨.tmp 1, [], none⟩], false, [], []⟩, .out (.st .normal (E13_0_0 x1 x2 x3 x4)), .d false, .d false, .d false, .d false, .d false, .d false, .d false, .n x2.length, .d false, .d false, .d false, .d true, .d true, .d true, .d true, .d false, .d false, .d false, .d false, .d false, .d false] [⟨c7⟩, ⟨(rfl : false = false)⟩, ⟨(nF c6)⟩, ⟨(nF c6)⟩, ⟨(nF c6)⟩, ⟨(nF c6)⟩, ⟨c5⟩, ⟨c5⟩, ⟨c5⟩, ⟨c5⟩, ⟨c4⟩, ⟨c3⟩, ⟨c3⟩, ⟨(len_map e_u8_i64 x2)⟩, ⟨c3⟩, ⟨c3⟩, ⟨c3⟩, ⟨c2⟩, ⟨c2⟩, ⟨c2⟩, ⟨c2⟩, ⟨(LT.block (ok_ref09_Right_l0 x1 x2 x3 x4 _ k 0 e0))⟩] (by kernel_rfl)
              · rw [if_neg c6] at h
                replace c6 := eqf c6
                by_cases c7 : eqI x1 3 = true
                · rw [if_pos c7] at h
                  by_cases c8 : eqI x4 1 = true
                  · rw [if_pos c8] at h
                    obtain rfl := Option.some.inj h
                    exact Tri.of (x := X13) mixed facts13 [.norm 2 ⟨[(1, []), (3, [])], [⟨.tmp 1, [], none⟩], false, [], []⟩, .out (.st .normal (E13_0_0 x1 x2 x3 x4)), .d false, .d false, .d false, .d false, .d false, .d false, .d false, .n x2.length, .d false, .d false, .d false, .d true, .d true, .d true, .d true, .d true, .d true, .d true, .d true, .d false, .d true, .d true, .d true, .d true, .d true] [⟨c8⟩, ⟨c8⟩, ⟨c8⟩, ⟨c8⟩, ⟨c7⟩, ⟨(nF c7)⟩, ⟨(nT c6)⟩, ⟨(nT c6)⟩, ⟨(nT c6)⟩, ⟨(nT c6)⟩, ⟨c5⟩, ⟨c5⟩, ⟨c5⟩, ⟨c5⟩, ⟨c4⟩, ⟨c3⟩, ⟨c3⟩, ⟨(len_map e_u8_i64 x2)⟩, ⟨c3⟩, ⟨c3⟩, ⟨c3⟩, ⟨c2⟩, ⟨c2⟩, ⟨c2⟩, ⟨c2⟩, ⟨(LT.block (ok_ref09_Right_l0 x1 x2 x3 x4 _ k 0 e0))⟩] (by kernel_rfl)
                  · rw [if_neg c8] at h
                    replace c8 := eqf c8
                    obtain rfl := Option.some.inj h
                    exact Tri.of (x := X13) mixed facts13 [.norm 2 ⟨[(1, []), (3, [])], [⟨.tmp 1, [], none⟩], false, [], []⟩, .out (.st .normal (E13_0_0 x1 x2 x3 x4)), .d false, .d false, .d false, .d false, .d false, .d false, .d false, .n x2.length, .d false, .d false, .d false, .d true, .d true, .d true, .d true, .d true, .d true, .d true, .d true, .d false, .d true, .d false, .d false, .d false, .d false] [⟨c8⟩, ⟨c8⟩, ⟨c8⟩, ⟨c8⟩, ⟨c7⟩, ⟨(nF c7)⟩, ⟨(nT c6)⟩, ⟨(nT c6)⟩, ⟨(nT c6)⟩, ⟨(nT c6)⟩, ⟨c5⟩, ⟨c5⟩, ⟨c5⟩, ⟨c5⟩, ⟨c4⟩, ⟨c3⟩, ⟨c3⟩, ⟨(len_map e_u8_i64 x2)⟩, ⟨c3⟩, ⟨c3⟩, ⟨c3⟩, ⟨c2⟩, ⟨c2⟩, ⟨c2⟩, ⟨c2⟩, ⟨(LT.block (ok_ref09_Right_l0 x1 x2 x3 x4 _ k 0 e0))⟩] (by kernel_rfl)
                · rw [if_neg c7] at h
                  replace c7 := eqf c7
                  obtain rfl := Option.some.inj h
                  exact Tri.of (x := X13) mixed facts13 [.norm 2 ⟨[(1, []), (3, [])], [⟨.tmp 1, [], none⟩], false, [], []⟩, .out (.st .normal (E13_0_0 x1 x2 x3 x4)), .d false, .d false, .d false, .d false, .d false, .d false, .d false, .n x2.length, .d false, .d false, .d false, .d true, .d true, .d true, .d true, .d true, .d true, .d true, .d true, .d true] [⟨(nT c7)⟩, ⟨(nT c6)⟩, ⟨(nT c6)⟩, ⟨(nT c6)⟩, ⟨(nT c6)⟩, ⟨c5⟩, ⟨c5⟩, ⟨c5⟩, ⟨c5⟩, ⟨c4⟩, ⟨c3⟩, ⟨c3⟩, ⟨(len_map e_u8_i64 x2)⟩, ⟨c3⟩, ⟨c3⟩, ⟨c3⟩, ⟨c2⟩, ⟨c2⟩, ⟨c2⟩, ⟨c2⟩, ⟨(LT.block (ok_ref09_Right_l0 x1 x2 x3 x4 _ k 0 e0))⟩] (by kernel_rfl)
            · rw [if_neg c5] at h
              replace c5 := eqf c5
              by_cases c6 : eqI x1 3 = true
              · rw [if_pos c6] at h
                by_cases c7 : eqI x4 1 = true
                · rw [if_pos c7] at h
                  obtain rfl := Option.some.inj h
                  exact Tri.of (x := X13) mixed facts13 [.norm 2 ⟨[(1, []), (3, [])], [⟨.tmp 1, [], none⟩], false, [], []⟩, .out (.st .normal (E13_0_0 x1 x2 x3 x4)), .d false, .d false, .d false, .d false, .d false, .d false, .d false, .n x2.length, .d false, .d false, .d false, .d false, .d false, .d false, .d false, .d false, .d false, .d false, .d false, .d false, .d true, .d true, .d true, .d true, .d true] [⟨c7⟩, ⟨c7⟩, ⟨c7⟩, ⟨c7⟩, ⟨c6⟩, ⟨(rfl : false = false)⟩, ⟨(rfl : false = false)⟩, ⟨(rfl : false = false)⟩, ⟨(rfl : false = false)⟩, ⟨(rfl : false = false)⟩, ⟨c5⟩, ⟨c5⟩, ⟨c5⟩, ⟨c5⟩, ⟨c4⟩, ⟨c3⟩, ⟨c3⟩, ⟨(len_map e_u8_i64 x2)⟩, ⟨c3⟩, ⟨c3⟩, ⟨c3⟩, ⟨c2⟩, ⟨c2⟩, ⟨c2⟩, ⟨c2⟩, ⟨(LT.block (ok_ref09_Right_l0 x1 x2 x3 x4 _ k 0 e0))⟩] (by kernel_rfl)
                · rw [if_neg c7] at h
                  replace c7 := eqf c7
                  obtain rfl := Option.some.inj h
                  exact Tri.of (x := X13) mixed facts13 [.norm 2 ⟨[(1, []), (3, [])], [⟨.tmp 1, [], none⟩], false, [], []⟩, .out (.st .normal (E13_0_0 x1 x2 x3 x4)), .d false, .d false, .d false, .d false, .d false, .d false, .d false, .n x2.length, .d false, .d false, .d false, .d false, .d false, .d false, .d false, .d false, .d false, .d false, .d false, .d false, .d true, .d false, .d false, .d false, .d false] [⟨c7⟩, ⟨c7⟩, ⟨c7⟩, ⟨c7⟩, ⟨c6⟩, ⟨(rfl : false = false)⟩, ⟨(rfl : false = false)⟩, ⟨(rfl : false = false)⟩, ⟨(rfl : false = false)⟩, ⟨(rfl : false = false)⟩, ⟨c5⟩, ⟨c5⟩, ⟨c5⟩, ⟨c5⟩, ⟨c4⟩, ⟨c3⟩, ⟨c3⟩, ⟨(len_map e_u8_i64 x2)⟩, ⟨c3⟩, ⟨c3⟩, ⟨c3⟩, ⟨c2⟩, ⟨c2⟩, ⟨c2⟩, ⟨c2⟩, ⟨(LT.block (ok_ref09_Right_l0 x1 x2 x3 x4 _ k 0 e0))⟩] (by kernel_rfl)
              · rw [if_neg c6] at h
                replace c6 := eqf c6
                obtain rfl := Option.some.inj h
                exact Tri.of (x := X13) mixed facts13 [.norm 2 ⟨[(1, []), (3, [])], [⟨.tmp 1, [], none⟩], false, [], []⟩, .out (.st .normal (E13_0_0 x1 x2 x3 x4)), .d false, .d false, .d false, .d false, .d false, .d false, .d false, .n x2.length, .d false, .d false, .d false, .d false, .d false, .d false, .d false, .d false, .d false, .d false, .d false, .d false, .d false] [⟨c6⟩, ⟨(rfl : false = false)⟩, ⟨(rfl : false = false)⟩, ⟨(rfl : false = false)⟩, ⟨(rfl : false = false)⟩, ⟨(rfl : false = false)⟩, ⟨c5⟩, ⟨c5⟩, ⟨c5⟩, ⟨c5⟩, ⟨c4⟩, ⟨c3⟩, ⟨c3⟩, ⟨(len_map e_u8_i64 x2)⟩, ⟨c3⟩, ⟨c3⟩, ⟨c3⟩, ⟨c2⟩, ⟨c2⟩, ⟨c2⟩, ⟨c2⟩, ⟨(LT.block (ok_ref09_Right_l0 x1 x2 x3 x4 _ k 0 e0))⟩] (by kernel_rfl)
    | inr x6 =>
      simp only [Sum.elim_inr] at h
      obtain rfl := Option.some.inj h
      exact Tri.of (x := X13) mixed facts13 [.norm 2 ⟨[(1, []), (3, [])], [⟨.tmp 1, [], none⟩], false, [], []⟩, .out (.fin (.bool x6) [])] [⟨(LT.blockFin (id := 0) (ok_ref09_Right_l0 x1 x2 x3 x4 _ k 0 e0))⟩] (by kernel_rfl)
end Go.Ws

namespace Go.Ws
open Go.Proofs
set_option linter.unusedSimpArgs false
set_option linter.unusedVariables false
set_option maxRecDepth 1000000
set_option maxHeartbeats 4000000
noncomputable def X14 : Ctx := ⟨Try.f14, [], true⟩
noncomputable def L14_0 : Code := at_ Try.f14 [1, 1, 0, 1, 4, 5]
def S14_0 (x1 : List (Int × Int)) (x2 : List (Int × Int)) (v14001_1 : Int) : St := ⟨mkT 26 [(0, (.sl 2 (List.map e_u8_i64 x1))), (1, (.sl 2 (List.map e_u8_i64 x2))), (5, (.int .i64 v14001_1))], []⟩
def E14_0_0 : St := ⟨mkT 26 [], []⟩
def O14_0 (x1 : List (Int × Int)) (x2 : List (Int × Int)) (y : (Sum (Unit) (Bool))) : GX := match y with
  | .inl y => .st (.exit 0) (E14_0_0)
  | .inr y => .fin (.bool y) []
theorem ok_ref09_Deltas_l0 (x1 : List (Int × Int)) (x2 : List (Int × Int)) (y : (Sum (Unit) (Bool))) : ∀ (k : Nat) (v14001_1 : Int), ref09_Deltas_l0 k x1 x2 v14001_1 = some y → LT Try.prog X14 L14_0 (S14_0 x1 x2 v14001_1) (O14_0 x1 x2 y)
  | 0, v14001_1, h => by cases h
  | k + 1, v14001_1, h => by
    rw [ref09_Deltas_l0] at h
    by_cases cL0 : ltI v14001_1 (nI x1.length) = true
    · rw [if_pos cL0] at h
      by_cases cL1 : inI v14001_1 x1.length = true
      · rw [if_pos cL1] at h
        obtain ⟨v14000_1, eL2, h⟩ := Option.bind_eq_some_iff.1 h
        by_cases cL3 : inI v14001_1 x2.length = true
        · rw [if_pos cL3] at h
          obtain ⟨v14000_2, eL4, h⟩ := Option.bind_eq_some_iff.1 h
          by_cases cL5 : eqI v14000_1.1 v14000_2.1 = true
          · rw [if_pos cL5] at h
            by_cases cL6 : eqI v14000_1.2 v14000_2.2 = true
            · rw [if_pos cL6] at h
              exact LT.next mixed (hs := ⟨[(0, []), (1, []), (5, [])], [], false, [], []⟩) (es := none) [.n x1.length, .d true, .n x1.length, .row [(.int .u8 v14000_1.1), (.int .i64 v14000_1.2)], .n x2.length, .row [(.int .u8 v14000_2.1), (.int .i64 v14000_2.2)], .d false] [⟨(nF (aT cL5 cL6))⟩, ⟨(cells_map (e := e_u8_i64) eL4 2 0 2 (by decide))⟩, ⟨cL3⟩, ⟨(len_map e_u8_i64 x2)⟩, ⟨(cells_map (e := e_u8_i64) eL2 2 0 2 (by decide))⟩, ⟨cL1⟩, ⟨(len_map e_u8_i64 x1)⟩, ⟨cL0⟩, ⟨(len_map e_u8_i64 x1)⟩] (by kernel_rfl) (ok_ref09_Deltas_l0 x1 x2 y k (iadd .i64 v14001_1 1) h)
            · rw [if_neg cL6] at h
              replace cL6 := eqf cL6
              obtain rfl := Option.some.inj h
              show LT _ _ _ _ (.fin (.bool false) [])
              exact LT.done mixed (hs := ⟨[], [], false, [], []⟩) (es := none) [.n x1.length, .d true, .n x1.length, .row [(.int .u8 v14000_1.1), (.int .i64 v14000_1.2)], .n x2.length, .row [(.int .u8 v14000_2.1), (.int .i64 v14000_2.2)], .d true] [⟨(nT (aF2 cL5 cL6))⟩, ⟨(cells_map (e := e_u8_i64) eL4 2 0 2 (by decide))⟩, ⟨cL3⟩, ⟨(len_map e_u8_i64 x2)⟩, ⟨(cells_map (e := e_u8_i64) eL2 2 0 2 (by decide))⟩, ⟨cL1⟩, ⟨(len_map e_u8_i64 x1)⟩, ⟨cL0⟩, ⟨(len_map e_u8_i64 x1)⟩] (by kernel_rfl) (fun s h => by cases h)
          · rw [if_neg cL5] at h
            replace cL5 := eqf cL5
            obtain rfl := Option.some.inj h
            show LT _ _ _ _ (.fin (.bool false) [])
            exact LT.done mixed (hs := ⟨[], [], false, [], []⟩) (es := none) [.n x1.length, .d true, .n x1.length, .row [(.int .u8 v14000_1.1), (.int .i64 v14000_1.2)], .n x2.length, .row [(.int .u8 v14000_2.1), (.int .i64 v14000_2.2)], .d true] [⟨(nT (aF1 (b := eqI v14000_1.2 v14000_2.2) cL5))⟩, ⟨(cells_map (e := e_u8_i64) eL4 2 0 2 (by decide))⟩, ⟨cL3⟩, ⟨(len_map e_u8_i64 x2)⟩, ⟨(cells_map (e := e_u8_i64) eL2 2 0 2 (by decide))⟩, ⟨cL1⟩, ⟨(len_map e_u8_i64 x1)⟩, ⟨cL0⟩, ⟨(len_map e_u8_i64 x1)⟩] (by kernel_rfl) (fun s h => by cases h)
        · rw [if_neg cL3] at h
          replace cL3 := eqf cL3
          cases h
      · rw [if_neg cL1] at h
        replace cL1 := eqf cL1
        cases h
    · rw [if_neg cL0] at h
      replace cL0 := eqf cL0
      obtain rfl := Option.some.inj h
      show LT _ _ _ _ (.st (.exit 0) (E14_0_0))
      exact LT.done mixed (hs := ⟨[], [], false, [], []⟩) (es := (some ⟨[], [], false, [], []⟩)) [.n x1.length, .d false] [⟨cL0⟩, ⟨(len_map e_u8_i64 x1)⟩] (by kernel_rfl) (fun s h => by cases h)
theorem ok_ref09_Deltas (k : Nat) (x1 : List (Int × Int)) (x2 : List (Int × Int)) (r : Bool) (h : ref09_Deltas k x1 x2 = some r) : Tri Try.prog 14 [(.sl 2 (List.map e_u8_i64 x1)), (.sl 2 (List.map e_u8_i64 x2))] [] (.bool r) [] := by
    unfold ref09_Deltas at h
    by_cases c0 : eqI (nI x1.length) (nI x2.length) = true
    · rw [if_pos c0] at h
      obtain ⟨x3, e1, h⟩ := Option.bind_eq_some_iff.1 h
      cases x3 with
      | inl x4 =>
        simp only [Sum.elim_inl] at h
        obtain rfl := Option.some.inj h
        exact Tri.of (x := X14) mixed facts14 [.n x1.length, .n x2.length, .d false, .norm 2 ⟨[(0, []), (1, []), (5, [])], [], false, [], []⟩, .out (.st .normal (E14_0_0))] [⟨(LT.block (ok_ref09_Deltas_l0 x1 x2 _ k 0 e1))⟩, ⟨(nF c0)⟩, ⟨(len_map e_u8_i64 x2)⟩, ⟨(len_map e_u8_i64 x1)⟩] (by kernel_rfl)
      | inr x4 =>
        simp only [Sum.elim_inr] at h
        obtain rfl := Option.some.inj h
        exact Tri.of (x := X14) mixed facts14 [.n x1.length, .n x2.length, .d false, .norm 2 ⟨[(0, []), (1, []), (5, [])], [], false, [], []⟩, .out (.fin (.bool x4) [])] [⟨(LT.blockFin (id := 0) (ok_ref09_Deltas_l0 x1 x2 _ k 0 e1))⟩, ⟨(nF c0)⟩, ⟨(len_map e_u8_i64 x2)⟩, ⟨(len_map e_u8_i64 x1)⟩] (by kernel_rfl)
    · rw [if_neg c0] at h
      replace c0 := eqf c0
      obtain rfl := Option.some.inj h
      exact Tri.of (x := X14) mixed facts14 [.n x1.length, .n x2.length, .d true] [⟨(nT c0)⟩, ⟨(len_map e_u8_i64 x2)⟩, ⟨(len_map e_u8_i64 x1)⟩] (by kernel_rfl)
end Go.Ws

namespace Go.Ws
open Go.Proofs
set_option linter.unusedSimpArgs false
set_option linter.unusedVariables false
set_option maxRecDepth 1000000
set_option maxHeartbeats 4000000
noncomputable def X29_1001 : Ctx := ⟨Try.f29, [], false⟩
theorem ok_slices_Clone_1001 (k : Nat) (x1 : List (Int × Int)) (r : Unit) (h : slices_Clone_1001 k x1 = some r) : Tri Try.prog 29 [(.inl 2 (List.map e_u8_i64 x1))] [] (.ref 2 0 0 0 x1.length .virt) [(.arr 2 (List.map e_u8_i64 x1) 0 0 false)] := by
    unfold slices_Clone_1001 at h
    by_cases c0 : roomI (x1.length * 16) = true
    · rw [if_pos c0] at h
      obtain rfl := Option.some.inj h
      exact Tri.of (x := X29_1001) mixed facts29 [.d false, .n x1.length, .norm 0 ⟨[(2, [])], [⟨.tmp 2, [], some 2⟩], false, [], []⟩, .n x1.length, .rows (List.map e_u8_i64 x1)] [⟨(take_all e_u8_i64 (l := x1) (n := x1.length) rfl)⟩, ⟨(rfl : x1.length = x1.length)⟩, ⟨(zle x1.length)⟩, ⟨c0⟩, ⟨(len_map e_u8_i64 x1)⟩, ⟨(rfl : false = false)⟩] (by kernel_rfl)
    · rw [if_neg c0] at h
      replace c0 := eqf c0
      cases h
end Go.Ws

namespace Go.Ws
open Go.Proofs
set_option linter.unusedSimpArgs false
set_option linter.unusedVariables false
set_option maxRecDepth 1000000
set_option maxHeartbeats 4000000
noncomputable def X29_1002 : Ctx := ⟨Try.f29, [], false⟩
theorem ok_slices_Clone_1002 : Tri Try.prog 29 [.nils] [] (.ref 2 0 0 0 0 .virt) [(.arr 2 (List.map e_u8_i64 []) 0 0 false)] := by
    obtain ⟨r, h⟩ : ∃ r, slices_Clone_1002 = r := ⟨_, rfl⟩
    try rw [h]
    unfold slices_Clone_1002 at h
    obtain rfl := h
    exact Tri.of (x := X29_1002) mixed facts29 [.d true, .norm 0 ⟨[(2, [])], [⟨.tmp 2, [], some 2⟩], false, [], []⟩, .n 0, .rows (List.map e_u8_i64 [])] [⟨(take_all e_u8_i64 (l := []) (n := 0) rfl)⟩, ⟨(rfl : 0 = 0)⟩, ⟨(zle 0)⟩, ⟨(rfl : true = true)⟩] (by kernel_rfl)
end Go.Ws

namespace Go.Ws
open Go.Proofs
set_option linter.unusedSimpArgs false
set_option linter.unusedVariables false
set_option maxRecDepth 1000000
set_option maxHeartbeats 4000000
theorem ok_slices_Clone (k : Nat) (x1 : List (Int × Int)) (r : Unit) (h : slices_Clone k x1 = some r) : Tri Try.prog 29 [(.sl 2 (List.map e_u8_i64 x1))] [] (.ref 2 0 0 0 x1.length .virt) [(.arr 2 (List.map e_u8_i64 x1) 0 0 false)] := by
    refine Tri.slOf (ok_slices_Clone_1001 k x1 r h) fun h0 => ?_
    have hx : x1 = [] := by simpa using h0
    subst hx
    exact ok_slices_Clone_1002
end Go.Ws

namespace Go.Ws
open Go.Proofs
set_option linter.unusedSimpArgs false
set_option linter.unusedVariables false
set_option maxRecDepth 1000000
set_option maxHeartbeats 4000000
theorem ok_part_opposites (k : Nat) (x1 : List (Int × Int)) (r : List (Int × Int)) (h : part_opposites k x1 = some r) : Tri Try.prog 31 [(.sl 2 (List.map e_u8_i64 x1))] [] (.sl 2 (List.map e_u8_i64 r)) [] := Tri.freeze (opp_tri h) (by simp)
end Go.Ws

namespace Go.Ws
open Go.Proofs
set_option linter.unusedSimpArgs false
set_option linter.unusedVariables false
set_option maxRecDepth 1000000
set_option maxHeartbeats 4000000
noncomputable def X36 : Ctx := ⟨Try.f36, [], false⟩
theorem ok_slices_Grow (k : Nat) (x1 : Int) (r : (List (Int × Int))) (h : slices_Grow k x1 = some r) : Tri Try.prog 36 [.nils, (.int .i64 x1)] [] (.ref 2 0 0 0 r.length .virt) [(.arr 2 (List.map e_u8_i64 r) 0 0 false)] := by
    unfold slices_Grow at h
    by_cases c0 : ltI x1 0 = true
    · rw [if_pos c0] at h
      cases h
    · rw [if_neg c0] at h
      replace c0 := eqf c0
      by_cases c1 : ltI 0 (isub .i64 x1 0) = true
      · rw [if_pos c1] at h
        by_cases c2 : lenI (isub .i64 x1 0) 16 = true
        · rw [if_pos c2] at h
          by_cases c3 : roomI ((tN (isub .i64 x1 0)) * 16) = true
          · rw [if_pos c3] at h
            by_cases c4 : isZ (tN (isub .i64 x1 0)) = true
            · rw [if_pos c4] at h
              cases h
            · rw [if_neg c4] at h
              replace c4 := eqf c4
              by_cases c5 : capI 0 ((List.replicate (tN (isub .i64 x1 0)) (0, 0)).length) = true
              · rw [if_pos c5] at h
                obtain rfl := Option.some.inj h
                exact Tri.of (x := X36) mixed facts36 [.d false, .d true, .rows (List.map e_u8_i64 (List.replicate (tN (isub .i64 x1 0)) (0, 0))), .n (tN (isub .i64 x1 0)), .d false, .n (tN (isub .i64 x1 0)), .n (tN (isub .i64 x1 0)), .n 0, .n 0, .norm 0 ⟨[(4, [])], [⟨.tmp 4, [], some 2⟩], false, [], []⟩, .n ((List.take 0 (List.replicate (tN (isub .i64 x1 0)) (0, 0))).length), .rows (List.map e_u8_i64 (List.take 0 (List.replicate (tN (isub .i64 x1 0)) (0, 0))))] [⟨(take_map e_u8_i64 (List.replicate (tN (isub .i64 x1 0)) (0, 0)) 0)⟩, ⟨((take_len (cap_le c5)) : 0 = (List.take 0 (List.replicate (tN (isub .i64 x1 0)) (0, 0))).length)⟩, ⟨(zle 0)⟩, ⟨(rfl : 0 - 0 = 0)⟩, ⟨((Nat.zero_add _) : 0 + 0 = 0)⟩, ⟨(leI_zero (tN (isub .i64 x1 0)))⟩, ⟨(rfl : (tN (isub .i64 x1 0)) - 0 = tN (isub .i64 x1 0))⟩, ⟨(zadd_le (Nat.le_refl _ : tN (isub .i64 x1 0) ≤ tN (isub .i64 x1 0)))⟩, ⟨(len_mapE e_u8_i64 ((by simp : tN (isub .i64 x1 0) = List.length (α := Int × Int) (List.replicate (tN (isub .i64 x1 0)) (0, 0)))).symm)⟩, ⟨c4⟩, ⟨c3⟩, ⟨(len_mapE e_u8_i64 ((by simp : tN (isub .i64 x1 0) = List.length (α := Int × Int) (List.replicate (tN (isub .i64 x1 0)) (0, 0)))).symm)⟩, ⟨(rep_map e_u8_i64 (tN (isub .i64 x1 0)) (0, 0))⟩, ⟨c2⟩, ⟨c1⟩, ⟨c0⟩] (by kernel_rfl)
              · rw [if_neg c5] at h
                replace c5 := eqf c5
                cases h
          · rw [if_neg c3] at h
            replace c3 := eqf c3
            cases h
        · rw [if_neg c2] at h
          replace c2 := eqf c2
          cases h
      · rw [if_neg c1] at h
        replace c1 := eqf c1
        obtain rfl := Option.some.inj h
        exact Tri.of (x := X36) mixed facts36 [.d false, .d false, .norm 0 ⟨[(4, [])], [⟨.tmp 4, [], some 2⟩], false, [], []⟩, .n 0, .rows (List.map e_u8_i64 [])] [⟨(take_all e_u8_i64 (l := []) (n := 0) rfl)⟩, ⟨(rfl : 0 = 0)⟩, ⟨(zle 0)⟩, ⟨c1⟩, ⟨c0⟩] (by kernel_rfl)
end Go.Ws

namespace Go.Ws
open Go.Proofs
set_option linter.unusedSimpArgs false
set_option linter.unusedVariables false
set_option maxRecDepth 1000000
set_option maxHeartbeats 4000000
noncomputable def X30 : Ctx := ⟨Try.f30, [], true⟩
noncomputable def L30_1 : Code := at_ Try.f30 [1, 1, 1, 1, 0, 1, 4, 5]
def S30_1 (x1 : List (List (Int × Int))) (v30011_1 : Int) (v30011_2 : List (Int × Int)) : St := ⟨mkT 36 [(6, (.ref 2 0 0 0 v30011_2.length .virt)), (25, (.sl 1 (List.map e_Lu8i64E x1))), (26, (.int .i64 (nI x1.length))), (27, (.int .i64 v30011_1))], [(.arr 2 (List.map e_u8_i64 v30011_2) 0 0 false)]⟩
def E30_1_2 (v30012_1 : List (Int × Int)) : St := ⟨mkT 36 [(6, (.ref 2 0 0 0 v30012_1.length .virt))], [(.arr 2 (List.map e_u8_i64 v30012_1) 0 0 false)]⟩
def O30_1 (x1 : List (List (Int × Int))) (y : ((List (Int × Int)))) : GX := .st (.exit 2) (E30_1_2 y)
noncomputable def L30_0 : Code := at_ Try.f30 [1, 1, 0, 1, 4, 5]
def S30_0 (x1 : List (List (Int × Int))) (v30001_1 : Int) (v30001_2 : Int) : St := ⟨mkT 36 [(0, (.sl 1 (List.map e_Lu8i64E x1))), (3, (.int .i64 v30001_1)), (9, (.sl 1 (List.map e_Lu8i64E x1))), (10, (.int .i64 (nI x1.length))), (11, (.int .i64 v30001_2))], []⟩
def E30_0_0 (x1 : List (List (Int × Int))) (v30002_1 : Int) : St := ⟨mkT 36 [(0, (.sl 1 (List.map e_Lu8i64E x1))), (3, (.int .i64 v30002_1))], []⟩
def O30_0 (x1 : List (List (Int × Int))) (y : (Int)) : GX := .st (.exit 0) (E30_0_0 x1 y)
theorem ok_slices_Concat_l1 (x1 : List (List (Int × Int))) (y : ((List (Int × Int)))) : ∀ (k : Nat) (v30011_1 : Int) (v30011_2 : List (Int × Int)), slices_Concat_l1 k x1 v30011_1 v30011_2 = some y → LT Try.prog X30 L30_1 (S30_1 x1 v30011_1 v30011_2) (O30_1 x1 y)
  | 0, v30011_1, v30011_2, h => by cases h
  | k + 1, v30011_1, v30011_2, h => by
    rw [slices_Concat_l1] at h
    by_cases cL0 : ltI v30011_1 (nI x1.length) = true
    · rw [if_pos cL0] at h
      by_cases cL1 : inI v30011_1 x1.length = true
      · rw [if_pos cL1] at h
        obtain ⟨v30010_1, eL2, h⟩ := Option.bind_eq_some_iff.1 h
        by_cases cL3 : roomI (((v30011_2 ++ v30010_1).length) * 16) = true
        · rw [if_pos cL3] at h
          exact LT.next mixed (hs := ⟨[(6, []), (25, []), (26, []), (27, [])], [⟨.tmp 6, [], none⟩], false, [], []⟩) (es := none) [.d true, .n x1.length, .row [(.sl 2 (List.map e_u8_i64 v30010_1))], .n ((v30011_2 ++ v30010_1).length), .n v30011_2.length, .d true, .rows (List.map e_u8_i64 (v30011_2 ++ v30010_1))] [⟨(app_map e_u8_i64 v30011_2 v30010_1)⟩, ⟨(eqN_self v30011_2.length)⟩, ⟨(len_map e_u8_i64 v30011_2)⟩, ⟨cL3⟩, ⟨(by simp only [List.length_append, List.length_cons, List.length_nil, List.length_take, List.length_drop, List.length_set, List.length_replicate, List.length_map, List.map_nil, List.map_cons] <;> omega : v30011_2.length + (List.map e_u8_i64 v30010_1).length = (v30011_2 ++ v30010_1).length)⟩, ⟨(cells_map (e := e_Lu8i64E) eL2 1 0 1 (by decide))⟩, ⟨cL1⟩, ⟨(len_map e_Lu8i64E x1)⟩, ⟨cL0⟩] (by kernel_rfl) (ok_slices_Concat_l1 x1 y k (iadd .i64 v30011_1 1) (v30011_2 ++ v30010_1) h)
        · rw [if_neg cL3] at h
          replace cL3 := eqf cL3
          cases h
      · rw [if_neg cL1] at h
        replace cL1 := eqf cL1
        cases h
    · rw [if_neg cL0] at h
      replace cL0 := eqf cL0
      obtain rfl := Option.some.inj h
      show LT _ _ _ _ (.st (.exit 2) (E30_1_2 v30011_2))
      exact LT.done mixed (hs := ⟨[], [], false, [], []⟩) (es := (some ⟨[(6, [])], [⟨.tmp 6, [], none⟩], false, [], []⟩)) [.d false] [⟨cL0⟩] (by kernel_rfl) (fun s h => by cases h)
theorem ok_slices_Concat_l0 (x1 : List (List (Int × Int))) (y : (Int)) : ∀ (k : Nat) (v30001_1 : Int) (v30001_2 : Int), slices_Concat_l0 k x1 v30001_1 v30001_2 = some y → LT Try.prog X30 L30_0 (S30_0 x1 v30001_1 v30001_2) (O30_0 x1 y)
  | 0, v30001_1, v30001_2, h => by cases h
  | k + 1, v30001_1, v30001_2, h => by
    rw [slices_Concat_l0] at h
    by_cases cL0 : ltI v30001_2 (nI x1.length) = true
    · rw [if_pos cL0] at h
      by_cases cL1 : inI v30001_2 x1.length = true
      · rw [if_pos cL1] at h
        obtain ⟨v30000_1, eL2, h⟩ := Option.bind_eq_some_iff.1 h
        by_cases cL3 : ltI (iadd .i64 v30001_1 (nI v30000_1.length)) 0 = true
        · rw [if_pos cL3] at h
          cases h
        · rw [if_neg cL3] at h
          replace cL3 := eqf cL3
          exact LT.next mixed (hs := ⟨[(0, []), (3, []), (9, []), (10, []), (11, [])], [], false, [], []⟩) (es := none) [.d true, .n x1.length, .row [(.sl 2 (List.map e_u8_i64 v30000_1))], .n v30000_1.length, .d false] [⟨cL3⟩, ⟨(len_map e_u8_i64 v30000_1)⟩, ⟨(cells_map (e := e_Lu8i64E) eL2 1 0 1 (by decide))⟩, ⟨cL1⟩, ⟨(len_map e_Lu8i64E x1)⟩, ⟨cL0⟩] (by kernel_rfl) (ok_slices_Concat_l0 x1 y k (iadd .i64 v30001_1 (nI v30000_1.length)) (iadd .i64 v30001_2 1) h)
      · rw [if_neg cL1] at h
        replace cL1 := eqf cL1
        cases h
    · rw [if_neg cL0] at h
      replace cL0 := eqf cL0
      obtain rfl := Option.some.inj h
      show LT _ _ _ _ (.st (.exit 0) (E30_0_0 x1 v30001_1))
      exact LT.done mixed (hs := ⟨[], [], false, [], []⟩) (es := (some ⟨[(0, []), (3, [])], [], false, [], []⟩)) [.d false] [⟨cL0⟩] (by kernel_rfl) (fun s h => by cases h)
theorem ok_slices_Concat (k : Nat) (x1 : List (List (Int × Int))) (r : (List (Int × Int))) (h : slices_Concat k x1 = some r) : Tri Try.prog 30 [(.sl 1 (List.map e_Lu8i64E x1))] [] (.sl 2 (List.map e_u8_i64 r)) [] := by
    unfold slices_Concat at h
    obtain ⟨x3, e0, h⟩ := Option.bind_eq_some_iff.1 h
    obtain ⟨x4, e2, h⟩ := Option.bind_eq_some_iff.1 h
    obtain ⟨x6, e3, h⟩ := Option.bind_eq_some_iff.1 h
    obtain rfl := Option.some.inj h
    exact Tri.of (x := X30) mixed facts30 [.n x1.length, .norm 2 ⟨[(0, []), (3, []), (9, []), (10, []), (11, [])], [], false, [], []⟩, .out (.st .normal (E30_0_0 x1 x3)), .call ⟨true, []⟩ (.ref 2 0 0 0 x4.length .virt) [(.arr 2 (List.map e_u8_i64 x4) 0 0 false)], .n x1.length, .norm 8 ⟨[(6, []), (25, []), (26, []), (27, [])], [⟨.tmp 6, [], none⟩], false, [], []⟩, .out (.st .normal (E30_1_2 x6)), .rows (List.map e_u8_i64 x6)] [⟨(part_all e_u8_i64 (l := x6) (n := x6.length) rfl)⟩, ⟨(le_map e_u8_i64 (Nat.le_refl x6.length) : 0 + x6.length ≤ (List.map e_u8_i64 x6).length)⟩, ⟨(LT.block (ok_slices_Concat_l1 x1 _ k 0 x4 e3))⟩, ⟨(len_map e_Lu8i64E x1)⟩, ⟨(ok_slices_Grow k x3 _ e2)⟩, ⟨(LT.block (ok_slices_Concat_l0 x1 _ k 0 0 e0))⟩, ⟨(len_map e_Lu8i64E x1)⟩] (by kernel_rfl)
end Go.Ws

namespace Go.Ws
open Go.Proofs
set_option linter.unusedSimpArgs false
set_option linter.unusedVariables false
set_option maxRecDepth 1000000
set_option maxHeartbeats 4000000
noncomputable def X15 : Ctx := ⟨Try.f15, [], true⟩
theorem ok_part_Effect (k : Nat) (x1 : Int) (x2 : List (Int × Int)) (x3 : Bool) (x4 : Int) (r : (List (Int × Int))) (h : part_Effect k x1 x2 x3 x4 = some r) : Tri Try.prog 15 [(.agg [(.int .i64 x1), (.sl 2 (List.map e_u8_i64 x2)), (.bool x3), (.int .i64 x4)])] [] (.sl 2 (List.map e_u8_i64 r)) [] := by
    unfold part_Effect at h
    obtain ⟨x5, e0, h⟩ := Option.bind_eq_some_iff.1 h
    by_cases c1 : x5 = true
    · rw [if_pos c1] at h
      by_cases c2 : eqI x4 1 = true
      · rw [if_pos c2] at h
        obtain ⟨x6, e3, h⟩ := Option.bind_eq_some_iff.1 h
        obtain rfl := Option.some.inj h
        exact Tri.of (x := X15) mixed facts15 [.call ⟨true, []⟩ (.bool x5) [], .d false, .d true, .d true, .d true, .d true, .d true, .d true, .d true, .call ⟨true, []⟩ (.ref 2 0 0 0 x2.length .virt) [(.arr 2 (List.map e_u8_i64 x2) 0 0 false)], .rows (List.map e_u8_i64 x2)] [⟨(part_all e_u8_i64 (l := x2) (n := x2.length) rfl)⟩, ⟨(le_map e_u8_i64 (Nat.le_refl x2.length) : 0 + x2.length ≤ (List.map e_u8_i64 x2).length)⟩, ⟨(ok_slices_Clone k x2 _ e3)⟩, ⟨(rfl : true = true)⟩, ⟨c2⟩, ⟨c2⟩, ⟨c2⟩, ⟨c2⟩, ⟨c2⟩, ⟨c2⟩, ⟨(nF c1)⟩, ⟨(ok_part_Right k x1 x2 x3 x4 _ e0)⟩] (by kernel_rfl)
      · rw [if_neg c2] at h
        replace c2 := eqf c2
        by_cases c3 : eqI x1 1 = true
        · rw [if_pos c3] at h
          by_cases c4 : x3 = true
          · rw [if_pos c4] at h
            obtain ⟨x6, e5, h⟩ := Option.bind_eq_some_iff.1 h
            obtain rfl := Option.some.inj h
            exact Tri.of (x := X15) mixed facts15 [.call ⟨true, []⟩ (.bool x5) [], .d false, .d false, .d false, .d false, .d false, .d true, .d true, .d false, .d true, .d false, .d true, .call ⟨true, []⟩ (.ref 2 0 0 0 x2.length .virt) [(.arr 2 (List.map e_u8_i64 x2) 0 0 false)], .rows (List.map e_u8_i64 x2)] [⟨(part_all e_u8_i64 (l := x2) (n := x2.length) rfl)⟩, ⟨(le_map e_u8_i64 (Nat.le_refl x2.length) : 0 + x2.length ≤ (List.map e_u8_i64 x2).length)⟩, ⟨(ok_slices_Clone k x2 _ e5)⟩, ⟨c4⟩, ⟨c2⟩, ⟨c3⟩, ⟨c2⟩, ⟨c3⟩, ⟨c3⟩, ⟨c2⟩, ⟨c2⟩, ⟨c2⟩, ⟨c2⟩, ⟨(nF c1)⟩, ⟨(ok_part_Right k x1 x2 x3 x4 _ e0)⟩] (by kernel_rfl)
          · rw [if_neg c4] at h
            replace c4 := eqf c4
            by_cases c5 : eqI x1 3 = true
            · rw [if_pos c5] at h
              obtain rfl := Option.some.inj h
              exact Tri.of (x := X15) mixed facts15 [.call ⟨true, []⟩ (.bool x5) [], .d false, .d false, .d false, .d false, .d false, .d true, .d true, .d false, .d true, .d false, .d false, .d true, .d true, .d true, .d false, .norm 0 ⟨[(2, [(0, 2)])], [], false, [], []⟩] [⟨c4⟩, ⟨c5⟩, ⟨c5⟩, ⟨c5⟩, ⟨c4⟩, ⟨c2⟩, ⟨c3⟩, ⟨c2⟩, ⟨c3⟩, ⟨c3⟩, ⟨c2⟩, ⟨c2⟩, ⟨c2⟩, ⟨c2⟩, ⟨(nF c1)⟩, ⟨(ok_part_Right k x1 x2 x3 x4 _ e0)⟩] (by kernel_rfl)
            · rw [if_neg c5] at h
              replace c5 := eqf c5
              obtain rfl := Option.some.inj h
              exact Tri.of (x := X15) mixed facts15 [.call ⟨true, []⟩ (.bool x5) [], .d false, .d false, .d false, .d false, .d false, .d true, .d true, .d false, .d true, .d false, .d false, .d false, .d false, .d false, .d false, .norm 0 ⟨[(2, [(0, 2)])], [], false, [], []⟩] [⟨(rfl : false = false)⟩, ⟨c5⟩, ⟨c5⟩, ⟨c5⟩, ⟨c4⟩, ⟨c2⟩, ⟨c3⟩, ⟨c2⟩, ⟨c3⟩, ⟨c3⟩, ⟨c2⟩, ⟨c2⟩, ⟨c2⟩, ⟨c2⟩, ⟨(nF c1)⟩, ⟨(ok_part_Right k x1 x2 x3 x4 _ e0)⟩] (by kernel_rfl)
        · rw [if_neg c3] at h
          replace c3 := eqf c3
          by_cases c4 : eqI x1 3 = true
          · rw [if_pos c4] at h
            by_cases c5 : x3 = true
            · rw [if_pos c5] at h
              obtain ⟨x6, e6, h⟩ := Option.bind_eq_some_iff.1 h
              obtain ⟨x7, e7, h⟩ := Option.bind_eq_some_iff.1 h
              obtain rfl := Option.some.inj h
              exact Tri.of (x := X15) mixed facts15 [.call ⟨true, []⟩ (.bool x5) [], .d false, .d false, .d false, .d false, .d false, .d false, .d false, .d false, .d false, .d false, .d false, .d true, .d true, .d true, .d true, .call ⟨true, []⟩ (.sl 2 (List.map e_u8_i64 x6)) [], .call ⟨true, []⟩ (.sl 2 (List.map e_u8_i64 x7)) [], .rows (List.map e_Lu8i64E [x2, x6])] [⟨(ok_slices_Concat k [x2, x6] _ e7)⟩, ⟨(part_all e_Lu8i64E (l := [x2, x6]) (n := 2) rfl)⟩, ⟨(le_map e_Lu8i64E (Nat.le_refl 2) : 0 + 2 ≤ (List.map e_Lu8i64E [x2, x6]).length)⟩, ⟨(ok_part_opposites k x2 _ e6)⟩, ⟨c5⟩, ⟨c4⟩, ⟨c4⟩, ⟨c4⟩, ⟨(rfl : false = false)⟩, ⟨c2⟩, ⟨c3⟩, ⟨c2⟩, ⟨c3⟩, ⟨c3⟩, ⟨c2⟩, ⟨c2⟩, ⟨c2⟩, ⟨c2⟩, ⟨(nF c1)⟩, ⟨(ok_part_Right k x1 x2 x3 x4 _ e0)⟩] (by kernel_rfl)
            · rw [if_neg c5] at h
              replace c5 := eqf c5
              obtain rfl := Option.some.inj h
              exact Tri.of (x := X15) mixed facts15 [.call ⟨true, []⟩ (.bool x5) [], .d false, .d false, .d false, .d false, .d false, .d false, .d false, .d false, .d false, .d false, .d false, .d true, .d true, .d true, .d false, .norm 0 ⟨[(2, [(0, 2)])], [], false, [], []⟩] [⟨c5⟩, ⟨c4⟩, ⟨c4⟩, ⟨c4⟩, ⟨(rfl : false = false)⟩, ⟨c2⟩, ⟨c3⟩, ⟨c2⟩, ⟨c3⟩, ⟨c3⟩, ⟨c2⟩, ⟨c2⟩, ⟨c2⟩, ⟨c2⟩, ⟨(nF c1)⟩, ⟨(ok_part_Right k x1 x2 x3 x4 _ e0)⟩] (by kernel_rfl)
          · rw [if_neg c4] at h
            replace c4 := eqf c4
            obtain rfl := Option.some.inj h
            exact Tri.of (x := X15) mixed facts15 [.call ⟨true, []⟩ (.bool x5) [], .d false, .d false, .d false, .d false, .d false, .d false, .d false, .d false, .d false, .d false, .d false, .d false, .d false, .d false, .d false, .norm 0 ⟨[(2, [(0, 2)])], [], false, [], []⟩] [⟨(rfl : false = false)⟩, ⟨c4⟩, ⟨c4⟩, ⟨c4⟩, ⟨(rfl : false = false)⟩, ⟨c2⟩, ⟨c3⟩, ⟨c2⟩, ⟨c3⟩, ⟨c3⟩, ⟨c2⟩, ⟨c2⟩, ⟨c2⟩, ⟨c2⟩, ⟨(nF c1)⟩, ⟨(ok_part_Right k x1 x2 x3 x4 _ e0)⟩] (by kernel_rfl)
    · rw [if_neg c1] at h
      replace c1 := eqf c1
      obtain rfl := Option.some.inj h
      exact Tri.of (x := X15) mixed facts15 [.call ⟨true, []⟩ (.bool x5) [], .d true, .norm 0 ⟨[(2, [(0, 2)])], [], false, [], []⟩] [⟨(nT c1)⟩, ⟨(ok_part_Right k x1 x2 x3 x4 _ e0)⟩] (by kernel_rfl)
end Go.Ws

namespace Go.Ws
open Go.Proofs
set_option linter.unusedSimpArgs false
set_option linter.unusedVariables false
set_option maxRecDepth 1000000
set_option maxHeartbeats 4000000
noncomputable def X32 : Ctx := ⟨Try.f32, [], true⟩
noncomputable def L32_0 : Code := at_ Try.f32 [1, 1, 0, 1, 4, 5]
def S32_0 (x1 : List (Int × Int)) (v32001_1 : Int) (v32001_2 : List (Int × Int)) : St := ⟨mkT 28 [(0, (.sl 2 (List.map e_u8_i64 x1))), (3, (.ref 2 0 0 0 v32001_2.length .virt)), (4, (.int .i64 v32001_1))], [(.arr 2 (List.map e_u8_i64 v32001_2) 0 0 false)]⟩
def E32_0_0 (v32002_1 : List (Int × Int)) : St := ⟨mkT 28 [(3, (.ref 2 0 0 0 v32002_1.length .virt))], [(.arr 2 (List.map e_u8_i64 v32002_1) 0 0 false)]⟩
def O32_0 (x1 : List (Int × Int)) (y : ((List (Int × Int)))) : GX := .st (.exit 0) (E32_0_0 y)
theorem ok_ref09_opposites_l0 (x1 : List (Int × Int)) (y : ((List (Int × Int)))) : ∀ (k : Nat) (v32001_1 : Int) (v32001_2 : List (Int × Int)), ref09_opposites_l0 k x1 v32001_1 v32001_2 = some y → LT Try.prog X32 L32_0 (S32_0 x1 v32001_1 v32001_2) (O32_0 x1 y)
  | 0, v32001_1, v32001_2, h => by cases h
  | k + 1, v32001_1, v32001_2, h => by
    rw [ref09_opposites_l0] at h
    by_cases cL0 : ltI v32001_1 0 = true
    · rw [if_pos cL0] at h
      obtain rfl := Option.some.inj h
      show LT _ _ _ _ (.st (.exit 0) (E32_0_0 v32001_2))
      exact LT.done mixed (hs := ⟨[], [], false, [], []⟩) (es := (some ⟨[(3, [])], [⟨.tmp 3, [], none⟩], false, [], []⟩)) [.d false] [⟨(nF cL0)⟩] (by kernel_rfl) (fun s h => by cases h)
    · rw [if_neg cL0] at h
      replace cL0 := eqf cL0
      by_cases cL1 : inI v32001_1 x1.length = true
      · rw [if_pos cL1] at h
        obtain ⟨v32000_1, eL2, h⟩ := Option.bind_eq_some_iff.1 h
        by_cases cL3 : roomI (((v32001_2 ++ [(v32000_1.1, ineg .i64 v32000_1.2)]).length) * 16) = true
        · rw [if_pos cL3] at h
          exact LT.next mixed (hs := ⟨[(0, []), (3, []), (4, [])], [⟨.tmp 3, [], some 2⟩], false, [], []⟩) (es := none) [.d true, .n x1.length, .row [(.int .u8 v32000_1.1)], .n x1.length, .row [(.int .i64 v32000_1.2)], .rows (List.map e_u8_i64 [(v32000_1.1, ineg .i64 v32000_1.2)]), .n ((v32001_2 ++ [(v32000_1.1, ineg .i64 v32000_1.2)]).length), .n v32001_2.length, .d true, .rows (List.map e_u8_i64 (v32001_2 ++ [(v32000_1.1, ineg .i64 v32000_1.2)])), .n ((v32001_2 ++ [(v32000_1.1, ineg .i64 v32000_1.2)]).length), .rows (List.map e_u8_i64 (v32001_2 ++ [(v32000_1.1, ineg .i64 v32000_1.2)]))] [⟨(take_all e_u8_i64 (l := (v32001_2 ++ [(v32000_1.1, ineg .i64 v32000_1.2)])) (n := ((v32001_2 ++ [(v32000_1.1, ineg .i64 v32000_1.2)]).length)) rfl)⟩, ⟨(rfl : (v32001_2 ++ [(v32000_1.1, ineg .i64 v32000_1.2)]).length = (v32001_2 ++ [(v32000_1.1, ineg .i64 v32000_1.2)]).length)⟩, ⟨(zle ((v32001_2 ++ [(v32000_1.1, ineg .i64 v32000_1.2)]).length))⟩, ⟨(app_map e_u8_i64 v32001_2 [(v32000_1.1, ineg .i64 v32000_1.2)])⟩, ⟨(eqN_self v32001_2.length)⟩, ⟨(len_map e_u8_i64 v32001_2)⟩, ⟨cL3⟩, ⟨(by simp only [List.length_append, List.length_cons, List.length_nil, List.length_take, List.length_drop, List.length_set, List.length_replicate, List.length_map, List.map_nil, List.map_cons] <;> omega : v32001_2.length + (List.map e_u8_i64 [(v32000_1.1, ineg .i64 v32000_1.2)]).length = (v32001_2 ++ [(v32000_1.1, ineg .i64 v32000_1.2)]).length)⟩, ⟨(part_all e_u8_i64 (l := [(v32000_1.1, ineg .i64 v32000_1.2)]) (n := 1) rfl)⟩, ⟨(le_map e_u8_i64 (Nat.le_refl 1) : 0 + 1 ≤ (List.map e_u8_i64 [(v32000_1.1, ineg .i64 v32000_1.2)]).length)⟩, ⟨(cells_map (e := e_u8_i64) eL2 2 1 1 (by decide))⟩, ⟨cL1⟩, ⟨(len_map e_u8_i64 x1)⟩, ⟨(cells_map (e := e_u8_i64) eL2 2 0 1 (by decide))⟩, ⟨cL1⟩, ⟨(len_map e_u8_i64 x1)⟩, ⟨(nT cL0)⟩] (by kernel_rfl) (ok_ref09_opposites_l0 x1 y k (isub .i64 v32001_1 1) (v32001_2 ++ [(v32000_1.1, ineg .i64 v32000_1.2)]) h)
        · rw [if_neg cL3] at h
          replace cL3 := eqf cL3
          cases h
      · rw [if_neg cL1] at h
        replace cL1 := eqf cL1
        cases h
theorem ok_ref09_opposites (k : Nat) (x1 : List (Int × Int)) (r : (List (Int × Int))) (h : ref09_opposites k x1 = some r) : Tri Try.prog 32 [(.sl 2 (List.map e_u8_i64 x1))] [] (.sl 2 (List.map e_u8_i64 r)) [] := by
    unfold ref09_opposites at h
    obtain ⟨x3, e0, h⟩ := Option.bind_eq_some_iff.1 h
    obtain rfl := Option.some.inj h
    exact Tri.of (x := X32) mixed facts32 [.n x1.length, .norm 2 ⟨[(0, []), (3, []), (4, [])], [⟨.tmp 3, [], some 2⟩], false, [], []⟩, .n 0, .rows (List.map e_u8_i64 []), .out (.st .normal (E32_0_0 x3)), .rows (List.map e_u8_i64 x3)] [⟨(part_all e_u8_i64 (l := x3) (n := x3.length) rfl)⟩, ⟨(le_map e_u8_i64 (Nat.le_refl x3.length) : 0 + x3.length ≤ (List.map e_u8_i64 x3).length)⟩, ⟨(LT.block (ok_ref09_opposites_l0 x1 _ k (isub .i64 (nI x1.length) 1) [] e0))⟩, ⟨(take_all e_u8_i64 (l := []) (n := 0) rfl)⟩, ⟨(rfl : 0 = 0)⟩, ⟨(zle 0)⟩, ⟨(len_map e_u8_i64 x1)⟩] (by kernel_rfl)
end Go.Ws

namespace Go.Ws
open Go.Proofs
set_option linter.unusedSimpArgs false
set_option linter.unusedVariables false
set_option maxRecDepth 1000000
set_option maxHeartbeats 4000000
noncomputable def X18 : Ctx := ⟨Try.f18, [], true⟩
noncomputable def L18_0 : Code := at_ Try.f18 [1, 1, 0, 1, 4, 5]
def S18_0 (x1 : List (Int × Int)) (x2 : List (Int × Int)) (v18001_1 : Int) : St := ⟨mkT 26 [(0, (.sl 2 (List.map e_u8_i64 x1))), (1, (.sl 2 (List.map e_u8_i64 x2))), (5, (.int .i64 v18001_1))], []⟩
def E18_0_0 : St := ⟨mkT 26 [], []⟩
def O18_0 (x1 : List (Int × Int)) (x2 : List (Int × Int)) (y : (Sum (Unit) (Bool))) : GX := match y with
  | .inl y => .st (.exit 0) (E18_0_0)
  | .inr y => .fin (.bool y) []
theorem ok_ref08_Same_l0 (x1 : List (Int × Int)) (x2 : List (Int × Int)) (y : (Sum (Unit) (Bool))) : ∀ (k : Nat) (v18001_1 : Int), ref08_Same_l0 k x1 x2 v18001_1 = some y → LT Try.prog X18 L18_0 (S18_0 x1 x2 v18001_1) (O18_0 x1 x2 y)
  | 0, v18001_1, h => by cases h
  | k + 1, v18001_1, h => by
    rw [ref08_Same_l0] at h
    by_cases cL0 : ltI v18001_1 (nI x1.length) = true
    · rw [if_pos cL0] at h
      by_cases cL1 : inI v18001_1 x1.length = true
      · rw [if_pos cL1] at h
        obtain ⟨v18000_1, eL2, h⟩ := Option.bind_eq_some_iff.1 h
        by_cases cL3 : inI v18001_1 x2.length = true
        · rw [if_pos cL3] at h
          obtain ⟨v18000_2, eL4, h⟩ := Option.bind_eq_some_iff.1 h
          by_cases cL5 : eqI v18000_1.1 v18000_2.1 = true
          · rw [if_pos cL5] at h
            by_cases cL6 : eqI v18000_1.2 v18000_2.2 = true
            · rw [if_pos cL6] at h
              exact LT.next mixed (hs := ⟨[(0, []), (1, []), (5, [])], [], false, [], []⟩) (es := none) [.n x1.length, .d true, .n x1.length, .row [(.int .u8 v18000_1.1), (.int .i64 v18000_1.2)], .n x2.length, .row [(.int .u8 v18000_2.1), (.int .i64 v18000_2.2)], .d false] [⟨(nF (aT cL5 cL6))⟩, ⟨(cells_map (e := e_u8_i64) eL4 2 0 2 (by decide))⟩, ⟨cL3⟩, ⟨(len_map e_u8_i64 x2)⟩, ⟨(cells_map (e := e_u8_i64) eL2 2 0 2 (by decide))⟩, ⟨cL1⟩, ⟨(len_map e_u8_i64 x1)⟩, ⟨cL0⟩, ⟨(len_map e_u8_i64 x1)⟩] (by kernel_rfl) (ok_ref08_Same_l0 x1 x2 y k (iadd .i64 v18001_1 1) h)
            · rw [if_neg cL6] at h
              replace cL6 := eqf cL6
              obtain rfl := Option.some.inj h
              show LT _ _ _ _ (.fin (.bool false) [])
              exact LT.done mixed (hs := ⟨[], [], false, [], []⟩) (es := none) [.n x1.length, .d true, .n x1.length, .row [(.int .u8 v18000_1.1), (.int .i64 v18000_1.2)], .n x2.length, .row [(.int .u8 v18000_2.1), (.int .i64 v18000_2.2)], .d true] [⟨(nT (aF2 cL5 cL6))⟩, ⟨(cells_map (e := e_u8_i64) eL4 2 0 2 (by decide))⟩, ⟨cL3⟩, ⟨(len_map e_u8_i64 x2)⟩, ⟨(cells_map (e := e_u8_i64) eL2 2 0 2 (by decide))⟩, ⟨cL1⟩, ⟨(len_map e_u8_i64 x1)⟩, ⟨cL0⟩, ⟨(len_map e_u8_i64 x1)⟩] (by kernel_rfl) (fun s h => by cases h)
          · rw [if_neg cL5] at h
            replace cL5 := eqf cL5
            obtain rfl := Option.some.inj h
            show LT _ _ _ _ (.fin (.bool false) [])
            exact LT.done mixed (hs := ⟨[], [], false, [], []⟩) (es := none) [.n x1.length, .d true, .n x1.length, .row [(.int .u8 v18000_1.1), (.int .i64 v18000_1.2)], .n x2.length, .row [(.int .u8 v18000_2.1), (.int .i64 v18000_2.2)], .d true] [⟨(nT (aF1 (b := eqI v18000_1.2 v18000_2.2) cL5))⟩, ⟨(cells_map (e := e_u8_i64) eL4 2 0 2 (by decide))⟩, ⟨cL3⟩, ⟨(len_map e_u8_i64 x2)⟩, ⟨(cells_map (e := e_u8_i64) eL2 2 0 2 (by decide))⟩, ⟨cL1⟩, ⟨(len_map e_u8_i64 x1)⟩, ⟨cL0⟩, ⟨(len_map e_u8_i64 x1)⟩] (by kernel_rfl) (fun s h => by cases h)
        · rw [if_neg cL3] at h
          replace cL3 := eqf cL3
          cases h
      · rw [if_neg cL1] at h
        replace cL1 := eqf cL1
        cases h
    · rw [if_neg cL0] at h
      replace cL0 := eqf cL0
      obtain rfl := Option.some.inj h
      show LT _ _ _ _ (.st (.exit 0) (E18_0_0))
      exact LT.done mixed (hs := ⟨[], [], false, [], []⟩) (es := (some ⟨[], [], false, [], []⟩)) [.n x1.length, .d false] [⟨cL0⟩, ⟨(len_map e_u8_i64 x1)⟩] (by kernel_rfl) (fun s h => by cases h)
theorem ok_ref08_Same (k : Nat) (x1 : List (Int × Int)) (x2 : List (Int × Int)) (r : Bool) (h : ref08_Same k x1 x2 = some r) : Tri Try.prog 18 [(.sl 2 (List.map e_u8_i64 x1)), (.sl 2 (List.map e_u8_i64 x2))] [] (.bool r) [] := by
    unfold ref08_Same at h
    by_cases c0 : eqI (nI x1.length) (nI x2.length) = true
    · rw [if_pos c0] at h
      obtain ⟨x3, e1, h⟩ := Option.bind_eq_some_iff.1 h
      cases x3 with
      | inl x4 =>
        simp only [Sum.elim_inl] at h
        obtain rfl := Option.some.inj h
        exact Tri.of (x := X18) mixed facts18 [.n x1.length, .n x2.length, .d false, .norm 2 ⟨[(0, []), (1, []), (5, [])], [], false, [], []⟩, .out (.st .normal (E18_0_0))] [⟨(LT.block (ok_ref08_Same_l0 x1 x2 _ k 0 e1))⟩, ⟨(nF c0)⟩, ⟨(len_map e_u8_i64 x2)⟩, ⟨(len_map e_u8_i64 x1)⟩] (by kernel_rfl)
      | inr x4 =>
        simp only [Sum.elim_inr] at h
        obtain rfl := Option.some.inj h
        exact Tri.of (x := X18) mixed facts18 [.n x1.length, .n x2.length, .d false, .norm 2 ⟨[(0, []), (1, []), (5, [])], [], false, [], []⟩, .out (.fin (.bool x4) [])] [⟨(LT.blockFin (id := 0) (ok_ref08_Same_l0 x1 x2 _ k 0 e1))⟩, ⟨(nF c0)⟩, ⟨(len_map e_u8_i64 x2)⟩, ⟨(len_map e_u8_i64 x1)⟩] (by kernel_rfl)
    · rw [if_neg c0] at h
      replace c0 := eqf c0
      obtain rfl := Option.some.inj h
      exact Tri.of (x := X18) mixed facts18 [.n x1.length, .n x2.length, .d true] [⟨(nT c0)⟩, ⟨(len_map e_u8_i64 x2)⟩, ⟨(len_map e_u8_i64 x1)⟩] (by kernel_rfl)
end Go.Ws

namespace Go.Ws
open Go.Proofs
set_option linter.unusedSimpArgs false
set_option linter.unusedVariables false
set_option maxRecDepth 1000000
set_option maxHeartbeats 4000000
noncomputable def X34 : Ctx := ⟨Try.f34, [], true⟩
theorem ok_part_Part_own (k : Nat) (x1 : Int) (x2 : List (Int × Int)) (x3 : Bool) (x4 : Int) (r : Int × (List (Int × Int)) × Bool × Int) (h : part_Part_own k x1 x2 x3 x4 = some r) : Tri Try.prog 34 [(.agg [(.int .i64 x1), (.sl 2 (List.map e_u8_i64 x2)), (.bool x3), (.int .i64 x4)])] [] (.agg [(.int .i64 r.1), (.sl 2 (List.map e_u8_i64 r.2.1)), (.bool r.2.2.1), (.int .i64 r.2.2.2)]) [] := by
    unfold part_Part_own at h
    obtain ⟨x5, e0, h⟩ := Option.bind_eq_some_iff.1 h
    obtain rfl := Option.some.inj h
    exact Tri.of (x := X34) mixed facts34 [.call ⟨true, []⟩ (.ref 2 0 0 0 x2.length .virt) [(.arr 2 (List.map e_u8_i64 x2) 0 0 false)], .rows (List.map e_u8_i64 x2)] [⟨(part_all e_u8_i64 (l := x2) (n := x2.length) rfl)⟩, ⟨(le_map e_u8_i64 (Nat.le_refl x2.length) : 0 + x2.length ≤ (List.map e_u8_i64 x2).length)⟩, ⟨(ok_slices_Clone k x2 _ e0)⟩] (by kernel_rfl)
end Go.Ws

namespace Go.Ws
open Go.Proofs
set_option linter.unusedSimpArgs false
set_option linter.unusedVariables false
set_option maxRecDepth 1000000
set_option maxHeartbeats 4000000
theorem ok_part_opposites_1 (k : Nat) (x1 : List (Int × Int)) (r : List (Int × Int)) (h : part_opposites_1 k x1 = some r) : Tri Try.prog 31 [(.sl 2 (List.map e_u8_i64 x1))] [] (.ref 2 0 0 0 r.length .virt) [(.arr 2 (List.map e_u8_i64 r) 0 0 false)] := opp_tri h
end Go.Ws

namespace Go.Ws
open Go.Proofs
set_option linter.unusedSimpArgs false
set_option linter.unusedVariables false
set_option maxRecDepth 1000000
set_option maxHeartbeats 4000000
noncomputable def X19 : Ctx := ⟨Try.f19, [], true⟩
theorem ok_part_Decide (k : Nat) (x1 : Int) (x2 : List (Int × Int)) (x3 : Bool) (x4 : Int) (x5 : Int) (r : Int × (List (Int × Int)) × Bool × Int × (List (Int × Int)) × Int) (h : part_Decide k x1 x2 x3 x4 x5 = some r) : Tri Try.prog 19 [(.agg [(.int .i64 x1), (.sl 2 (List.map e_u8_i64 x2)), (.bool x3), (.int .i64 x4)]), (.int .i64 x5)] [] (.tup [(.agg [(.int .i64 r.1), (.sl 2 (List.map e_u8_i64 r.2.1)), (.bool r.2.2.1), (.int .i64 r.2.2.2.1)]), (.sl 2 (List.map e_u8_i64 r.2.2.2.2.1)), (.int .i64 r.2.2.2.2.2)]) [] := by
    unfold part_Decide at h
    obtain ⟨x6, e0, h⟩ := Option.bind_eq_some_iff.1 h
    obtain ⟨x7, e1, h⟩ := Option.bind_eq_some_iff.1 h
    by_cases c2 : x7 = true
    · rw [if_pos c2] at h
      by_cases c3 : eqI x5 1 = true
      · rw [if_pos c3] at h
        by_cases c4 : eqI x6.2.2.2 x5 = true
        · rw [if_pos c4] at h
          obtain rfl := Option.some.inj h
          exact Tri.of (x := X19) mixed facts19 [.call ⟨true, []⟩ (.agg [(.int .i64 x6.1), (.sl 2 (List.map e_u8_i64 x6.2.1)), (.bool x6.2.2.1), (.int .i64 x6.2.2.2)]) [], .call ⟨true, []⟩ (.bool x7) [], .d false, .d false, .d false, .d false, .d false, .d false, .d false, .d false, .d false, .d true, .norm 0 ⟨[(4, []), (5, [(0, 2)]), (6, [])], [⟨.tmp 4, [], none⟩], false, [], []⟩] [⟨c4⟩, ⟨(rfl : false = false)⟩, ⟨(nF c2)⟩, ⟨(nF c3)⟩, ⟨(nF c2)⟩, ⟨(nF c3)⟩, ⟨(nF c3)⟩, ⟨(nF c2)⟩, ⟨(nF c2)⟩, ⟨(nF c2)⟩, ⟨(ok_part_Right k x6.1 x6.2.1 x6.2.2.1 x6.2.2.2 _ e1)⟩, ⟨(ok_part_Part_own k x1 x2 x3 x4 _ e0)⟩] (by kernel_rfl)
        · rw [if_neg c4] at h
          replace c4 := eqf c4
          by_cases c5 : eqI x6.1 3 = true
          · rw [if_pos c5] at h
            obtain rfl := Option.some.inj h
            exact Tri.of (x := X19) mixed facts19 [.call ⟨true, []⟩ (.agg [(.int .i64 x6.1), (.sl 2 (List.map e_u8_i64 x6.2.1)), (.bool x6.2.2.1), (.int .i64 x6.2.2.2)]) [], .call ⟨true, []⟩ (.bool x7) [], .d false, .d false, .d false, .d false, .d false, .d false, .d false, .d false, .d false, .d false, .d true, .d true, .d true, .d true, .d true, .d true, .norm 0 ⟨[(4, []), (5, [(0, 2)]), (6, [])], [⟨.tmp 4, [], none⟩], false, [], []⟩] [⟨(rfl : true = true)⟩, ⟨c5⟩, ⟨c5⟩, ⟨c5⟩, ⟨c5⟩, ⟨c5⟩, ⟨c4⟩, ⟨(rfl : false = false)⟩, ⟨(nF c2)⟩, ⟨(nF c3)⟩, ⟨(nF c2)⟩, ⟨(nF c3)⟩, ⟨(nF c3)⟩, ⟨(nF c2)⟩, ⟨(nF c2)⟩, ⟨(nF c2)⟩, ⟨(ok_part_Right k x6.1 x6.2.1 x6.2.2.1 x6.2.2.2 _ e1)⟩, ⟨(ok_part_Part_own k x1 x2 x3 x4 _ e0)⟩] (by kernel_rfl)
          · rw [if_neg c5] at h
            replace c5 := eqf c5
            by_cases c6 : eqI x6.1 1 = true
            · rw [if_pos c6] at h
              by_cases c7 : eqB (eqI x5 1) x6.2.2.1 = true
              · rw [if_pos c7] at h
                obtain rfl := Option.some.inj h
                exact Tri.of (x := X19) mixed facts19 [.call ⟨true, []⟩ (.agg [(.int .i64 x6.1), (.sl 2 (List.map e_u8_i64 x6.2.1)), (.bool x6.2.2.1), (.int .i64 x6.2.2.2)]) [], .call ⟨true, []⟩ (.bool x7) [], .d false, .d false, .d false, .d false, .d false, .d false, .d false, .d false, .d false, .d false, .d false, .d false, .d false, .d true, .d true, .d true, .d false, .d true, .d false, .d false, .d true, .norm 0 ⟨[(4, []), (5, [(0, 2)]), (6, [])], [⟨.tmp 4, [], none⟩], false, [], []⟩] [⟨c7⟩, ⟨(nF c6)⟩, ⟨c5⟩, ⟨c3⟩, ⟨c5⟩, ⟨c3⟩, ⟨c3⟩, ⟨c3⟩, ⟨c5⟩, ⟨c5⟩, ⟨c5⟩, ⟨c4⟩, ⟨(rfl : false = false)⟩, ⟨(nF c2)⟩, ⟨(nF c3)⟩, ⟨(nF c2)⟩, ⟨(nF c3)⟩, ⟨(nF c3)⟩, ⟨(nF c2)⟩, ⟨(nF c2)⟩, ⟨(nF c2)⟩, ⟨(ok_part_Right k x6.1 x6.2.1 x6.2.2.1 x6.2.2.2 _ e1)⟩, ⟨(ok_part_Part_own k x1 x2 x3 x4 _ e0)⟩] (by kernel_rfl)
              · rw [if_neg c7] at h
                replace c7 := eqf c7
                by_cases c8 : x6.2.2.1 = true
                · rw [if_pos c8] at h
                  obtain ⟨x8, e9, h⟩ := Option.bind_eq_some_iff.1 h
                  obtain rfl := Option.some.inj h
                  exact Tri.of (x := X19) mixed facts19 [.call ⟨true, []⟩ (.agg [(.int .i64 x6.1), (.sl 2 (List.map e_u8_i64 x6.2.1)), (.bool x6.2.2.1), (.int .i64 x6.2.2.2)]) [], .call ⟨true, []⟩ (.bool x7) [], .d false, .d false, .d false, .d false, .d false, .d false, .d false, .d false, .d false, .d false, .d false, .d false, .d false, .d true, .d true, .d true, .d false, .d true, .d false, .d false, .d false, .d true, .call ⟨true, []⟩ (.ref 2 0 0 0 x8.length .virt) [(.arr 2 (List.map e_u8_i64 x8) 0 0 false)], .rows (List.map e_u8_i64 x8)] [⟨(part_all e_u8_i64 (l := x8) (n := x8.length) rfl)⟩, ⟨(le_map e_u8_i64 (Nat.le_refl x8.length) : 0 + x8.length ≤ (List.map e_u8_i64 x8).length)⟩, ⟨(ok_part_opposites_1 k x6.2.1 _ e9)⟩, ⟨c8⟩, ⟨c7⟩, ⟨(nF c6)⟩, ⟨c5⟩, ⟨c3⟩, ⟨c5⟩, ⟨c3⟩, ⟨c3⟩, ⟨c3⟩, ⟨c5⟩, ⟨c5⟩, ⟨c5⟩, ⟨c4⟩, ⟨(rfl : false = false)⟩, ⟨(nF c2)⟩, ⟨(nF c3)⟩, ⟨(nF c2)⟩, ⟨(nF c3)⟩, ⟨(nF c3)⟩, ⟨(nF c2)⟩, ⟨(nF c2)⟩, ⟨(nF c2)⟩, ⟨(ok_part_Right k x6.1 x6.2.1 x6.2.2.1 x6.2.2.2 _ e1)⟩, ⟨(ok_part_Part_own k x1 x2 x3 x4 _ e0)⟩] (by kernel_rfl)
                · rw [if_neg c8] at h
                  replace c8 := eqf c8
                  obtain ⟨x8, e9, h⟩ := Option.bind_eq_some_iff.1 h
                  obtain rfl := Option.some.inj h
                  exact Tri.of (x := X19) mixed facts19 [.call ⟨true, []⟩ (.agg [(.int .i64 x6.1), (.sl 2 (List.map e_u8_i64 x6.2.1)), (.bool x6.2.2.1), (.int .i64 x6.2.2.2)]) [], .call ⟨true, []⟩ (.bool x7) [], .d false, .d false, .d false, .d false, .d false, .d false, .d false, .d false, .d false, .d false, .d false, .d false, .d false, .d true, .d true, .d true, .d false, .d true, .d false, .d false, .d false, .d false, .call ⟨true, []⟩ (.ref 2 0 0 0 x6.2.1.length .virt) [(.arr 2 (List.map e_u8_i64 x6.2.1) 0 0 false)], .rows (List.map e_u8_i64 x6.2.1)] [⟨(part_all e_u8_i64 (l := x6.2.1) (n := x6.2.1.length) rfl)⟩, ⟨(le_map e_u8_i64 (Nat.le_refl x6.2.1.length) : 0 + x6.2.1.length ≤ (List.map e_u8_i64 x6.2.1).length)⟩, ⟨(ok_slices_Clone k x6.2.1 _ e9)⟩, ⟨c8⟩, ⟨c7⟩, ⟨(nF c6)⟩, ⟨c5⟩, ⟨c3⟩, ⟨c5⟩, ⟨c3⟩, ⟨c3⟩, ⟨c3⟩, ⟨c5⟩, ⟨c5⟩, ⟨c5⟩, ⟨c4⟩, ⟨(rfl : false = false)⟩, ⟨(nF c2)⟩, ⟨(nF c3)⟩, ⟨(nF c2)⟩, ⟨(nF c3)⟩, ⟨(nF c3)⟩, ⟨(nF c2)⟩, ⟨(nF c2)⟩, ⟨(nF c2)⟩, ⟨(ok_part_Right k x6.1 x6.2.1 x6.2.2.1 x6.2.2.2 _ e1)⟩, ⟨(ok_part_Part_own k x1 x2 x3 x4 _ e0)⟩] (by kernel_rfl)
            · rw [if_neg c6] at h
              replace c6 := eqf c6
              obtain rfl := Option.some.inj h
              exact Tri.of (x := X19) mixed facts19 [.call ⟨true, []⟩ (.agg [(.int .i64 x6.1), (.sl 2 (List.map e_u8_i64 x6.2.1)), (.bool x6.2.2.1), (.int .i64 x6.2.2.2)]) [], .call ⟨true, []⟩ (.bool x7) [], .d false, .d false, .d false, .d false, .d false, .d false, .d false, .d false, .d false, .d false, .d false, .d false, .d false, .d true, .d true, .d true, .d false, .d true, .d false, .d true, .norm 0 ⟨[(4, []), (5, [(0, 2)]), (6, [])], [⟨.tmp 4, [], none⟩], false, [], []⟩] [⟨(nT c6)⟩, ⟨c5⟩, ⟨c3⟩, ⟨c5⟩, ⟨c3⟩, ⟨c3⟩, ⟨c3⟩, ⟨c5⟩, ⟨c5⟩, ⟨c5⟩, ⟨c4⟩, ⟨(rfl : false = false)⟩, ⟨(nF c2)⟩, ⟨(nF c3)⟩, ⟨(nF c2)⟩, ⟨(nF c3)⟩, ⟨(nF c3)⟩, ⟨(nF c2)⟩, ⟨(nF c2)⟩, ⟨(nF c2)⟩, ⟨(ok_part_Right k x6.1 x6.2.1 x6.2.2.1 x6.2.2.2 _ e1)⟩, ⟨(ok_part_Part_own k x1 x2 x3 x4 _ e0)⟩] (by kernel_rfl)
      · rw [if_neg c3] at h
        replace c3 := eqf c3
        by_cases c4 : eqI x5 2 = true
        · rw [if_pos c4] at h
          by_cases c5 : eqI x6.2.2.2 x5 = true
          · rw [if_pos c5] at h
            obtain rfl := Option.some.inj h
            exact Tri.of (x := X19) mixed facts19 [.call ⟨true, []⟩ (.agg [(.int .i64 x6.1), (.sl 2 (List.map e_u8_i64 x6.2.1)), (.bool x6.2.2.1), (.int .i64 x6.2.2.2)]) [], .call ⟨true, []⟩ (.bool x7) [], .d false, .d false, .d false, .d true, .d true, .d false, .d true, .d false, .d false, .d true, .norm 0 ⟨[(4, []), (5, [(0, 2)]), (6, [])], [⟨.tmp 4, [], none⟩], false, [], []⟩] [⟨c5⟩, ⟨(nF c4)⟩, ⟨(nF c2)⟩, ⟨(nT c3)⟩, ⟨(nF c2)⟩, ⟨(nT c3)⟩, ⟨(nT c3)⟩, ⟨(nF c2)⟩, ⟨(nF c2)⟩, ⟨(nF c2)⟩, ⟨(ok_part_Right k x6.1 x6.2.1 x6.2.2.1 x6.2.2.2 _ e1)⟩, ⟨(ok_part_Part_own k x1 x2 x3 x4 _ e0)⟩] (by kernel_rfl)
          · rw [if_neg c5] at h
            replace c5 := eqf c5
            by_cases c6 : eqI x6.1 3 = true
            · rw [if_pos c6] at h
              obtain rfl := Option.some.inj h
              exact Tri.of (x := X19) mixed facts19 [.call ⟨true, []⟩ (.agg [(.int .i64 x6.1), (.sl 2 (List.map e_u8_i64 x6.2.1)), (.bool x6.2.2.1), (.int .i64 x6.2.2.2)]) [], .call ⟨true, []⟩ (.bool x7) [], .d false, .d false, .d false, .d true, .d true, .d false, .d true, .d false, .d false, .d false, .d true, .d true, .d true, .d true, .d true, .d true, .norm 0 ⟨[(4, []), (5, [(0, 2)]), (6, [])], [⟨.tmp 4, [], none⟩], false, [], []⟩] [⟨(rfl : true = true)⟩, ⟨c6⟩, ⟨c6⟩, ⟨c6⟩, ⟨c6⟩, ⟨c6⟩, ⟨c5⟩, ⟨(nF c4)⟩, ⟨(nF c2)⟩, ⟨(nT c3)⟩, ⟨(nF c2)⟩, ⟨(nT c3)⟩, ⟨(nT c3)⟩, ⟨(nF c2)⟩, ⟨(nF c2)⟩, ⟨(nF c2)⟩, ⟨(ok_part_Right k x6.1 x6.2.1 x6.2.2.1 x6.2.2.2 _ e1)⟩, ⟨(ok_part_Part_own k x1 x2 x3 x4 _ e0)⟩] (by kernel_rfl)
            · rw [if_neg c6] at h
              replace c6 := eqf c6
              by_cases c7 : eqB (eqI x5 1) x6.2.2.1 = true
              · rw [if_pos c7] at h
                obtain rfl := Option.some.inj h
                exact Tri.of (x := X19) mixed facts19 [.call ⟨true, []⟩ (.agg [(.int .i64 x6.1), (.sl 2 (List.map e_u8_i64 x6.2.1)), (.bool x6.2.2.1), (.int .i64 x6.2.2.2)]) [], .call ⟨true, []⟩ (.bool x7) [], .d false, .d false, .d false, .d true, .d true, .d false, .d true, .d false, .d false, .d false, .d false, .d false, .d false, .d false, .d false, .d false, .d false, .d false, .d false, .d false, .d true, .norm 0 ⟨[(4, []), (5, [(0, 2)]), (6, [])], [⟨.tmp 4, [], none⟩], false, [], []⟩] [⟨c7⟩, ⟨(rfl : false = false)⟩, ⟨c6⟩, ⟨c3⟩, ⟨c6⟩, ⟨c3⟩, ⟨c3⟩, ⟨c3⟩, ⟨c6⟩, ⟨c6⟩, ⟨c6⟩, ⟨c5⟩, ⟨(nF c4)⟩, ⟨(nF c2)⟩, ⟨(nT c3)⟩, ⟨(nF c2)⟩, ⟨(nT c3)⟩, ⟨(nT c3)⟩, ⟨(nF c2)⟩, ⟨(nF c2)⟩, ⟨(nF c2)⟩, ⟨(ok_part_Right k x6.1 x6.2.1 x6.2.2.1 x6.2.2.2 _ e1)⟩, ⟨(ok_part_Part_own k x1 x2 x3 x4 _ e0)⟩] (by kernel_rfl)
              · rw [if_neg c7] at h
                replace c7 := eqf c7
                by_cases c8 : x6.2.2.1 = true
                · rw [if_pos c8] at h
                  obtain ⟨x8, e9, h⟩ := Option.bind_eq_some_iff.1 h
                  obtain rfl := Option.some.inj h
                  exact Tri.of (x := X19) mixed facts19 [.call ⟨true, []⟩ (.agg [(.int .i64 x6.1), (.sl 2 (List.map e_u8_i64 x6.2.1)), (.bool x6.2.2.1), (.int .i64 x6.2.2.2)]) [], .call ⟨true, []⟩ (.bool x7) [], .d false, .d false, .d false, .d true, .d true, .d false, .d true, .d false, .d false, .d false, .d false, .d false, .d false, .d false, .d false, .d false, .d false, .d false, .d false, .d false, .d false, .d true, .call ⟨true, []⟩ (.ref 2 0 0 0 x8.length .virt) [(.arr 2 (List.map e_u8_i64 x8) 0 0 false)], .rows (List.map e_u8_i64 x8)] [⟨(part_all e_u8_i64 (l := x8) (n := x8.length) rfl)⟩, ⟨(le_map e_u8_i64 (Nat.le_refl x8.length) : 0 + x8.length ≤ (List.map e_u8_i64 x8).length)⟩, ⟨(ok_part_opposites_1 k x6.2.1 _ e9)⟩, ⟨c8⟩, ⟨c7⟩, ⟨(rfl : false = false)⟩, ⟨c6⟩, ⟨c3⟩, ⟨c6⟩, ⟨c3⟩, ⟨c3⟩, ⟨c3⟩, ⟨c6⟩, ⟨c6⟩, ⟨c6⟩, ⟨c5⟩, ⟨(nF c4)⟩, ⟨(nF c2)⟩, ⟨(nT c3)⟩, ⟨(nF c2)⟩, ⟨(nT c3)⟩, ⟨(nT c3)⟩, ⟨(nF c2)⟩, ⟨(nF c2)⟩, ⟨(nF c2)⟩, ⟨(ok_part_Right k x6.1 x6.2.1 x6.2.2.1 x6.2.2.2 _ e1)⟩, ⟨(ok_part_Part_own k x1 x2 x3 x4 _ e0)⟩] (by kernel_rfl)
                · rw [if_neg c8] at h
                  replace c8 := eqf c8
                  obtain ⟨x8, e9, h⟩ := Option.bind_eq_some_iff.1 h
                  obtain rfl := Option.some.inj h
                  exact Tri.of (x := X19) mixed facts19 [.call ⟨true, []⟩ (.agg [(.int .i64 x6.1), (.sl 2 (List.map e_u8_i64 x6.2.1)), (.bool x6.2.2.1), (.int .i64 x6.2.2.2)]) [], .call ⟨true, []⟩ (.bool x7) [], .d false, .d false, .d false, .d true, .d true, .d false, .d true, .d false, .d false, .d false, .d false, .d false, .d false, .d false, .d false, .d false, .d false, .d false, .d false, .d false, .d false, .d false, .call ⟨true, []⟩ (.ref 2 0 0 0 x6.2.1.length .virt) [(.arr 2 (List.map e_u8_i64 x6.2.1) 0 0 false)], .rows (List.map e_u8_i64 x6.2.1)] [⟨(part_all e_u8_i64 (l := x6.2.1) (n := x6.2.1.length) rfl)⟩, ⟨(le_map e_u8_i64 (Nat.le_refl x6.2.1.length) : 0 + x6.2.1.length ≤ (List.map e_u8_i64 x6.2.1).length)⟩, ⟨(ok_slices_Clone k x6.2.1 _ e9)⟩, ⟨c8⟩, ⟨c7⟩, ⟨(rfl : false = false)⟩, ⟨c6⟩, ⟨c3⟩, ⟨c6⟩, ⟨c3⟩, ⟨c3⟩, ⟨c3⟩, ⟨c6⟩, ⟨c6⟩, ⟨c6⟩, ⟨c5⟩, ⟨(nF c4)⟩, ⟨(nF c2)⟩, ⟨(nT c3)⟩, ⟨(nF c2)⟩, ⟨(nT c3)⟩, ⟨(nT c3)⟩, ⟨(nF c2)⟩, ⟨(nF c2)⟩, ⟨(nF c2)⟩, ⟨(ok_part_Right k x6.1 x6.2.1 x6.2.2.1 x6.2.2.2 _ e1)⟩, ⟨(ok_part_Part_own k x1 x2 x3 x4 _ e0)⟩] (by kernel_rfl)
        · rw [if_neg c4] at h
          replace c4 := eqf c4
          obtain rfl := Option.some.inj h
          exact Tri.of (x := X19) mixed facts19 [.call ⟨true, []⟩ (.agg [(.int .i64 x6.1), (.sl 2 (List.map e_u8_i64 x6.2.1)), (.bool x6.2.2.1), (.int .i64 x6.2.2.2)]) [], .call ⟨true, []⟩ (.bool x7) [], .d false, .d false, .d false, .d true, .d true, .d false, .d true, .d false, .d true, .norm 0 ⟨[(4, []), (5, [(0, 2)]), (6, [])], [⟨.tmp 4, [], none⟩], false, [], []⟩] [⟨(nT c4)⟩, ⟨(nF c2)⟩, ⟨(nT c3)⟩, ⟨(nF c2)⟩, ⟨(nT c3)⟩, ⟨(nT c3)⟩, ⟨(nF c2)⟩, ⟨(nF c2)⟩, ⟨(nF c2)⟩, ⟨(ok_part_Right k x6.1 x6.2.1 x6.2.2.1 x6.2.2.2 _ e1)⟩, ⟨(ok_part_Part_own k x1 x2 x3 x4 _ e0)⟩] (by kernel_rfl)
    · rw [if_neg c2] at h
      replace c2 := eqf c2
      obtain rfl := Option.some.inj h
      exact Tri.of (x := X19) mixed facts19 [.call ⟨true, []⟩ (.agg [(.int .i64 x6.1), (.sl 2 (List.map e_u8_i64 x6.2.1)), (.bool x6.2.2.1), (.int .i64 x6.2.2.2)]) [], .call ⟨true, []⟩ (.bool x7) [], .d true, .d true, .d true, .d true, .d true, .d true, .norm 0 ⟨[(4, []), (5, [(0, 2)]), (6, [])], [⟨.tmp 4, [], none⟩], false, [], []⟩] [⟨(rfl : true = true)⟩, ⟨(nT c2)⟩, ⟨(nT c2)⟩, ⟨(nT c2)⟩, ⟨(nT c2)⟩, ⟨(nT c2)⟩, ⟨(ok_part_Right k x6.1 x6.2.1 x6.2.2.1 x6.2.2.2 _ e1)⟩, ⟨(ok_part_Part_own k x1 x2 x3 x4 _ e0)⟩] (by kernel_rfl)
end Go.Ws

namespace Go.Ws
open Go.Proofs
set_option linter.unusedSimpArgs false
set_option linter.unusedVariables false
set_option maxRecDepth 1000000
set_option maxHeartbeats 4000000
noncomputable def X20 : Ctx := ⟨Try.f20, [], true⟩
theorem ok_part_Local (k : Nat) (x1 : Int) (x2 : List (Int × Int)) (x3 : Bool) (x4 : Int) (r : Int × (List (Int × Int)) × Bool × Int × (List (Int × Int)) × Int) (h : part_Local k x1 x2 x3 x4 = some r) : Tri Try.prog 20 [(.agg [(.int .i64 x1), (.sl 2 (List.map e_u8_i64 x2)), (.bool x3), (.int .i64 x4)])] [] (.tup [(.agg [(.int .i64 r.1), (.sl 2 (List.map e_u8_i64 r.2.1)), (.bool r.2.2.1), (.int .i64 r.2.2.2.1)]), (.sl 2 (List.map e_u8_i64 r.2.2.2.2.1)), (.int .i64 r.2.2.2.2.2)]) [] := by
    unfold part_Local at h
    obtain ⟨x5, e0, h⟩ := Option.bind_eq_some_iff.1 h
    obtain ⟨x6, e1, h⟩ := Option.bind_eq_some_iff.1 h
    by_cases c2 : x6 = true
    · rw [if_pos c2] at h
      by_cases c3 : eqI x5.1 1 = true
      · rw [if_pos c3] at h
        by_cases c4 : x5.2.2.1 = true
        · rw [if_pos c4] at h
          obtain rfl := Option.some.inj h
          exact Tri.of (x := X20) mixed facts20 [.call ⟨true, []⟩ (.agg [(.int .i64 x5.1), (.sl 2 (List.map e_u8_i64 x5.2.1)), (.bool x5.2.2.1), (.int .i64 x5.2.2.2)]) [], .call ⟨true, []⟩ (.bool x6) [], .d false, .d false, .d true, .norm 0 ⟨[(2, []), (3, [(0, 2)]), (4, [])], [⟨.tmp 2, [], none⟩], false, [], []⟩] [⟨c4⟩, ⟨(nF c3)⟩, ⟨(nF c2)⟩, ⟨(ok_part_Right k x5.1 x5.2.1 x5.2.2.1 x5.2.2.2 _ e1)⟩, ⟨(ok_part_Part_own k x1 x2 x3 x4 _ e0)⟩] (by kernel_rfl)
        · rw [if_neg c4] at h
          replace c4 := eqf c4
          obtain ⟨x7, e5, h⟩ := Option.bind_eq_some_iff.1 h
          obtain rfl := Option.some.inj h
          exact Tri.of (x := X20) mixed facts20 [.call ⟨true, []⟩ (.agg [(.int .i64 x5.1), (.sl 2 (List.map e_u8_i64 x5.2.1)), (.bool x5.2.2.1), (.int .i64 x5.2.2.2)]) [], .call ⟨true, []⟩ (.bool x6) [], .d false, .d false, .d false, .call ⟨true, []⟩ (.ref 2 0 0 0 x5.2.1.length .virt) [(.arr 2 (List.map e_u8_i64 x5.2.1) 0 0 false)], .rows (List.map e_u8_i64 x5.2.1)] [⟨(part_all e_u8_i64 (l := x5.2.1) (n := x5.2.1.length) rfl)⟩, ⟨(le_map e_u8_i64 (Nat.le_refl x5.2.1.length) : 0 + x5.2.1.length ≤ (List.map e_u8_i64 x5.2.1).length)⟩, ⟨(ok_slices_Clone k x5.2.1 _ e5)⟩, ⟨c4⟩, ⟨(nF c3)⟩, ⟨(nF c2)⟩, ⟨(ok_part_Right k x5.1 x5.2.1 x5.2.2.1 x5.2.2.2 _ e1)⟩, ⟨(ok_part_Part_own k x1 x2 x3 x4 _ e0)⟩] (by kernel_rfl)
      · rw [if_neg c3] at h
        replace c3 := eqf c3
        obtain rfl := Option.some.inj h
        exact Tri.of (x := X20) mixed facts20 [.call ⟨true, []⟩ (.agg [(.int .i64 x5.1), (.sl 2 (List.map e_u8_i64 x5.2.1)), (.bool x5.2.2.1), (.int .i64 x5.2.2.2)]) [], .call ⟨true, []⟩ (.bool x6) [], .d false, .d true, .norm 0 ⟨[(2, []), (3, [(0, 2)]), (4, [])], [⟨.tmp 2, [], none⟩], false, [], []⟩] [⟨(nT c3)⟩, ⟨(nF c2)⟩, ⟨(ok_part_Right k x5.1 x5.2.1 x5.2.2.1 x5.2.2.2 _ e1)⟩, ⟨(ok_part_Part_own k x1 x2 x3 x4 _ e0)⟩] (by kernel_rfl)
    · rw [if_neg c2] at h
      replace c2 := eqf c2
      obtain rfl := Option.some.inj h
      exact Tri.of (x := X20) mixed facts20 [.call ⟨true, []⟩ (.agg [(.int .i64 x5.1), (.sl 2 (List.map e_u8_i64 x5.2.1)), (.bool x5.2.2.1), (.int .i64 x5.2.2.2)]) [], .call ⟨true, []⟩ (.bool x6) [], .d true, .norm 0 ⟨[(2, []), (3, [(0, 2)]), (4, [])], [⟨.tmp 2, [], none⟩], false, [], []⟩] [⟨(nT c2)⟩, ⟨(ok_part_Right k x5.1 x5.2.1 x5.2.2.1 x5.2.2.2 _ e1)⟩, ⟨(ok_part_Part_own k x1 x2 x3 x4 _ e0)⟩] (by kernel_rfl)
end Go.Ws

namespace Go.Ws
open Go.Proofs
set_option linter.unusedSimpArgs false
set_option linter.unusedVariables false
set_option maxRecDepth 1000000
set_option maxHeartbeats 4000000
noncomputable def X34_1 : Ctx := ⟨Try.f34, [], false⟩
theorem ok_part_Part_own_1 (k : Nat) (x1 : Int) (x2 : List (Int × Int)) (x3 : Bool) (x4 : Int) (r : Unit) (h : part_Part_own_1 k x1 x2 x3 x4 = some r) : Tri Try.prog 34 [(.agg [(.int .i64 x1), (.sl 2 (List.map e_u8_i64 x2)), (.bool x3), (.int .i64 x4)])] [] (.agg [(.int .i64 x1), (.ref 2 0 0 0 x2.length .virt), (.bool x3), (.int .i64 x4)]) [(.arr 2 (List.map e_u8_i64 x2) 0 0 false)] := by
    unfold part_Part_own_1 at h
    obtain ⟨x5, e0, h⟩ := Option.bind_eq_some_iff.1 h
    obtain rfl := Option.some.inj h
    exact Tri.of (x := X34_1) mixed facts34 [.call ⟨true, []⟩ (.ref 2 0 0 0 x2.length .virt) [(.arr 2 (List.map e_u8_i64 x2) 0 0 false)], .norm 0 ⟨[(2, [])], [⟨.tmp 2, [], none⟩, ⟨.cell 0 1, [], none⟩], false, [], []⟩] [⟨(ok_slices_Clone k x2 _ e0)⟩] (by kernel_rfl)
end Go.Ws

namespace Go.Ws
open Go.Proofs
set_option linter.unusedSimpArgs false
set_option linter.unusedVariables false
set_option maxRecDepth 1000000
set_option maxHeartbeats 4000000
noncomputable def X21 : Ctx := ⟨Try.f21, [], true⟩
theorem ok_part_Add (k : Nat) (x1 : Int) (x2 : List (Int × Int)) (x3 : Bool) (x4 : Int) (x5 : Int) (x6 : Int) (r : Int × (List (Int × Int)) × Bool × Int × Int) (h : part_Add k x1 x2 x3 x4 x5 x6 = some r) : Tri Try.prog 21 [(.agg [(.int .i64 x1), (.sl 2 (List.map e_u8_i64 x2)), (.bool x3), (.int .i64 x4)]), (.agg [(.int .u8 x5), (.int .i64 x6)])] [] (.tup [(.agg [(.int .i64 r.1), (.sl 2 (List.map e_u8_i64 r.2.1)), (.bool r.2.2.1), (.int .i64 r.2.2.2.1)]), (.int .i64 r.2.2.2.2)]) [] := by
    unfold part_Add at h
    obtain ⟨x7, e0, h⟩ := Option.bind_eq_some_iff.1 h
    obtain ⟨x8, e1, h⟩ := Option.bind_eq_some_iff.1 h
    by_cases c2 : x8 = true
    · rw [if_pos c2] at h
      by_cases c3 : (part_wide x5 x6) = true
      · rw [if_pos c3] at h
        obtain rfl := Option.some.inj h
        exact Tri.of (x := X21) mixed facts21 [.call ⟨true, []⟩ (.agg [(.int .i64 x1), (.ref 2 0 0 0 x2.length .virt), (.bool x3), (.int .i64 x4)]) [(.arr 2 (List.map e_u8_i64 x2) 0 0 false)], .call ⟨true, []⟩ (.bool x8) [], .rows (List.map e_u8_i64 x2), .d false, .d false, .call ⟨true, []⟩ (.bool (part_wide x5 x6)) [], .d false, .d true, .rows (List.map e_u8_i64 x2)] [⟨(part_all e_u8_i64 (l := x2) (n := x2.length) rfl)⟩, ⟨(le_map e_u8_i64 (Nat.le_refl x2.length) : 0 + x2.length ≤ (List.map e_u8_i64 x2).length)⟩, ⟨c3⟩, ⟨(nF c2)⟩, ⟨(ok_part_wide x5 x6)⟩, ⟨(nF c2)⟩, ⟨(nF c2)⟩, ⟨(ok_part_Right k x1 x2 x3 x4 _ e1)⟩, ⟨(part_all e_u8_i64 (l := x2) (n := x2.length) rfl)⟩, ⟨(le_map e_u8_i64 (Nat.le_refl x2.length) : 0 + x2.length ≤ (List.map e_u8_i64 x2).length)⟩, ⟨(ok_part_Part_own_1 k x1 x2 x3 x4 _ e0)⟩] (by kernel_rfl)
      · rw [if_neg c3] at h
        replace c3 := eqf c3
        by_cases c4 : eqI x1 0 = true
        · rw [if_pos c4] at h
          by_cases c5 : ltI (nI x2.length) 50 = true
          · rw [if_pos c5] at h
            by_cases c6 : roomI (((x2 ++ [(x5, x6)]).length) * 16) = true
            · rw [if_pos c6] at h
              obtain rfl := Option.some.inj h
              exact Tri.of (x := X21) mixed facts21 [.call ⟨true, []⟩ (.agg [(.int .i64 x1), (.ref 2 0 0 0 x2.length .virt), (.bool x3), (.int .i64 x4)]) [(.arr 2 (List.map e_u8_i64 x2) 0 0 false)], .call ⟨true, []⟩ (.bool x8) [], .rows (List.map e_u8_i64 x2), .d false, .d false, .call ⟨true, []⟩ (.bool (part_wide x5 x6)) [], .d false, .d false, .d false, .d false, .rows (List.map e_u8_i64 [(x5, x6)]), .n ((x2 ++ [(x5, x6)]).length), .n x2.length, .d true, .rows (List.map e_u8_i64 (x2 ++ [(x5, x6)])), .rows (List.map e_u8_i64 (x2 ++ [(x5, x6)]))] [⟨(part_all e_u8_i64 (l := (x2 ++ [(x5, x6)])) (n := ((x2 ++ [(x5, x6)]).length)) rfl)⟩, ⟨(le_map e_u8_i64 (Nat.le_refl ((x2 ++ [(x5, x6)]).length)) : 0 + (x2 ++ [(x5, x6)]).length ≤ (List.map e_u8_i64 (x2 ++ [(x5, x6)])).length)⟩, ⟨(app_map e_u8_i64 x2 [(x5, x6)])⟩, ⟨(eqN_self x2.length)⟩, ⟨(len_map e_u8_i64 x2)⟩, ⟨c6⟩, ⟨(by simp only [List.length_append, List.length_cons, List.length_nil, List.length_take, List.length_drop, List.length_set, List.length_replicate, List.length_map, List.map_nil, List.map_cons] <;> omega : x2.length + (List.map e_u8_i64 [(x5, x6)]).length = (x2 ++ [(x5, x6)]).length)⟩, ⟨(part_all e_u8_i64 (l := [(x5, x6)]) (n := 1) rfl)⟩, ⟨(le_map e_u8_i64 (Nat.le_refl 1) : 0 + 1 ≤ (List.map e_u8_i64 [(x5, x6)]).length)⟩, ⟨(nF c5)⟩, ⟨(nF c4)⟩, ⟨c3⟩, ⟨(nF c2)⟩, ⟨(ok_part_wide x5 x6)⟩, ⟨(nF c2)⟩, ⟨(nF c2)⟩, ⟨(ok_part_Right k x1 x2 x3 x4 _ e1)⟩, ⟨(part_all e_u8_i64 (l := x2) (n := x2.length) rfl)⟩, ⟨(le_map e_u8_i64 (Nat.le_refl x2.length) : 0 + x2.length ≤ (List.map e_u8_i64 x2).length)⟩, ⟨(ok_part_Part_own_1 k x1 x2 x3 x4 _ e0)⟩] (by kernel_rfl)
            · rw [if_neg c6] at h
              replace c6 := eqf c6
              cases h
          · rw [if_neg c5] at h
            replace c5 := eqf c5
            obtain rfl := Option.some.inj h
            exact Tri.of (x := X21) mixed facts21 [.call ⟨true, []⟩ (.agg [(.int .i64 x1), (.ref 2 0 0 0 x2.length .virt), (.bool x3), (.int .i64 x4)]) [(.arr 2 (List.map e_u8_i64 x2) 0 0 false)], .call ⟨true, []⟩ (.bool x8) [], .rows (List.map e_u8_i64 x2), .d false, .d false, .call ⟨true, []⟩ (.bool (part_wide x5 x6)) [], .d false, .d false, .d false, .d true, .rows (List.map e_u8_i64 x2)] [⟨(part_all e_u8_i64 (l := x2) (n := x2.length) rfl)⟩, ⟨(le_map e_u8_i64 (Nat.le_refl x2.length) : 0 + x2.length ≤ (List.map e_u8_i64 x2).length)⟩, ⟨(nT c5)⟩, ⟨(nF c4)⟩, ⟨c3⟩, ⟨(nF c2)⟩, ⟨(ok_part_wide x5 x6)⟩, ⟨(nF c2)⟩, ⟨(nF c2)⟩, ⟨(ok_part_Right k x1 x2 x3 x4 _ e1)⟩, ⟨(part_all e_u8_i64 (l := x2) (n := x2.length) rfl)⟩, ⟨(le_map e_u8_i64 (Nat.le_refl x2.length) : 0 + x2.length ≤ (List.map e_u8_i64 x2).length)⟩, ⟨(ok_part_Part_own_1 k x1 x2 x3 x4 _ e0)⟩] (by kernel_rfl)
        · rw [if_neg c4] at h
          replace c4 := eqf c4
          obtain rfl := Option.some.inj h
          exact Tri.of (x := X21) mixed facts21 [.call ⟨true, []⟩ (.agg [(.int .i64 x1), (.ref 2 0 0 0 x2.length .virt), (.bool x3), (.int .i64 x4)]) [(.arr 2 (List.map e_u8_i64 x2) 0 0 false)], .call ⟨true, []⟩ (.bool x8) [], .rows (List.map e_u8_i64 x2), .d false, .d false, .call ⟨true, []⟩ (.bool (part_wide x5 x6)) [], .d false, .d false, .d true, .rows (List.map e_u8_i64 x2)] [⟨(part_all e_u8_i64 (l := x2) (n := x2.length) rfl)⟩, ⟨(le_map e_u8_i64 (Nat.le_refl x2.length) : 0 + x2.length ≤ (List.map e_u8_i64 x2).length)⟩, ⟨(nT c4)⟩, ⟨c3⟩, ⟨(nF c2)⟩, ⟨(ok_part_wide x5 x6)⟩, ⟨(nF c2)⟩, ⟨(nF c2)⟩, ⟨(ok_part_Right k x1 x2 x3 x4 _ e1)⟩, ⟨(part_all e_u8_i64 (l := x2) (n := x2.length) rfl)⟩, ⟨(le_map e_u8_i64 (Nat.le_refl x2.length) : 0 + x2.length ≤ (List.map e_u8_i64 x2).length)⟩, ⟨(ok_part_Part_own_1 k x1 x2 x3 x4 _ e0)⟩] (by kernel_rfl)
    · rw [if_neg c2] at h
      replace c2 := eqf c2
      obtain rfl := Option.some.inj h
      exact Tri.of (x := X21) mixed facts21 [.call ⟨true, []⟩ (.agg [(.int .i64 x1), (.ref 2 0 0 0 x2.length .virt), (.bool x3), (.int .i64 x4)]) [(.arr 2 (List.map e_u8_i64 x2) 0 0 false)], .call ⟨true, []⟩ (.bool x8) [], .rows (List.map e_u8_i64 x2), .d true, .d true, .d true, .d true, .rows (List.map e_u8_i64 x2)] [⟨(part_all e_u8_i64 (l := x2) (n := x2.length) rfl)⟩, ⟨(le_map e_u8_i64 (Nat.le_refl x2.length) : 0 + x2.length ≤ (List.map e_u8_i64 x2).length)⟩, ⟨(rfl : true = true)⟩, ⟨(nT c2)⟩, ⟨(nT c2)⟩, ⟨(nT c2)⟩, ⟨(ok_part_Right k x1 x2 x3 x4 _ e1)⟩, ⟨(part_all e_u8_i64 (l := x2) (n := x2.length) rfl)⟩, ⟨(le_map e_u8_i64 (Nat.le_refl x2.length) : 0 + x2.length ≤ (List.map e_u8_i64 x2).length)⟩, ⟨(ok_part_Part_own_1 k x1 x2 x3 x4 _ e0)⟩] (by kernel_rfl)
end Go.Ws

namespace Go.Ws
open Go.Proofs
set_option linter.unusedSimpArgs false
set_option linter.unusedVariables false
set_option maxRecDepth 1000000
set_option maxHeartbeats 4000000
noncomputable def X22 : Ctx := ⟨Try.f22, [], true⟩
theorem ok_part_Vote (k : Nat) (x1 : Int) (x2 : List (Int × Int)) (x3 : Bool) (x4 : Int) (x5 : Bool) (r : Int × (List (Int × Int)) × Bool × Int × Int) (h : part_Vote k x1 x2 x3 x4 x5 = some r) : Tri Try.prog 22 [(.agg [(.int .i64 x1), (.sl 2 (List.map e_u8_i64 x2)), (.bool x3), (.int .i64 x4)]), (.bool x5)] [] (.tup [(.agg [(.int .i64 r.1), (.sl 2 (List.map e_u8_i64 r.2.1)), (.bool r.2.2.1), (.int .i64 r.2.2.2.1)]), (.int .i64 r.2.2.2.2)]) [] := by
    unfold part_Vote at h
    obtain ⟨x6, e0, h⟩ := Option.bind_eq_some_iff.1 h
    obtain ⟨x7, e1, h⟩ := Option.bind_eq_some_iff.1 h
    by_cases c2 : x7 = true
    · rw [if_pos c2] at h
      by_cases c3 : eqI x6.1 0 = true
      · rw [if_pos c3] at h
        by_cases c4 : x5 = true
        · rw [if_pos c4] at h
          obtain rfl := Option.some.inj h
          exact Tri.of (x := X22) mixed facts22 [.call ⟨true, []⟩ (.agg [(.int .i64 x6.1), (.sl 2 (List.map e_u8_i64 x6.2.1)), (.bool x6.2.2.1), (.int .i64 x6.2.2.2)]) [], .call ⟨true, []⟩ (.bool x7) [], .d false, .d false, .d true] [⟨c4⟩, ⟨(nF c3)⟩, ⟨(nF c2)⟩, ⟨(ok_part_Right k x6.1 x6.2.1 x6.2.2.1 x6.2.2.2 _ e1)⟩, ⟨(ok_part_Part_own k x1 x2 x3 x4 _ e0)⟩] (by kernel_rfl)
        · rw [if_neg c4] at h
          replace c4 := eqf c4
          obtain rfl := Option.some.inj h
          exact Tri.of (x := X22) mixed facts22 [.call ⟨true, []⟩ (.agg [(.int .i64 x6.1), (.sl 2 (List.map e_u8_i64 x6.2.1)), (.bool x6.2.2.1), (.int .i64 x6.2.2.2)]) [], .call ⟨true, []⟩ (.bool x7) [], .d false, .d false, .d false] [⟨c4⟩, ⟨(nF c3)⟩, ⟨(nF c2)⟩, ⟨(ok_part_Right k x6.1 x6.2.1 x6.2.2.1 x6.2.2.2 _ e1)⟩, ⟨(ok_part_Part_own k x1 x2 x3 x4 _ e0)⟩] (by kernel_rfl)
      · rw [if_neg c3] at h
        replace c3 := eqf c3
        obtain rfl := Option.some.inj h
        exact Tri.of (x := X22) mixed facts22 [.call ⟨true, []⟩ (.agg [(.int .i64 x6.1), (.sl 2 (List.map e_u8_i64 x6.2.1)), (.bool x6.2.2.1), (.int .i64 x6.2.2.2)]) [], .call ⟨true, []⟩ (.bool x7) [], .d false, .d true] [⟨(nT c3)⟩, ⟨(nF c2)⟩, ⟨(ok_part_Right k x6.1 x6.2.1 x6.2.2.1 x6.2.2.2 _ e1)⟩, ⟨(ok_part_Part_own k x1 x2 x3 x4 _ e0)⟩] (by kernel_rfl)
    · rw [if_neg c2] at h
      replace c2 := eqf c2
      obtain rfl := Option.some.inj h
      exact Tri.of (x := X22) mixed facts22 [.call ⟨true, []⟩ (.agg [(.int .i64 x6.1), (.sl 2 (List.map e_u8_i64 x6.2.1)), (.bool x6.2.2.1), (.int .i64 x6.2.2.2)]) [], .call ⟨true, []⟩ (.bool x7) [], .d true] [⟨(nT c2)⟩, ⟨(ok_part_Right k x6.1 x6.2.1 x6.2.2.1 x6.2.2.2 _ e1)⟩, ⟨(ok_part_Part_own k x1 x2 x3 x4 _ e0)⟩] (by kernel_rfl)
end Go.Ws

namespace Go.Ws
open Go.Proofs
set_option linter.unusedSimpArgs false
set_option linter.unusedVariables false
set_option maxRecDepth 1000000
set_option maxHeartbeats 4000000
noncomputable def X23 : Ctx := ⟨Try.f23, [], true⟩
theorem ok_ref09_Vote (k : Nat) (x1 : Int) (x2 : List (Int × Int)) (x3 : Bool) (x4 : Int) (x5 : Bool) (r : Int × (List (Int × Int)) × Bool × Int × Int) (h : ref09_Vote k x1 x2 x3 x4 x5 = some r) : Tri Try.prog 23 [(.agg [(.int .i64 x1), (.sl 2 (List.map e_u8_i64 x2)), (.bool x3), (.int .i64 x4)]), (.bool x5)] [] (.tup [(.agg [(.int .i64 r.1), (.sl 2 (List.map e_u8_i64 r.2.1)), (.bool r.2.2.1), (.int .i64 r.2.2.2.1)]), (.int .i64 r.2.2.2.2)]) [] := by
    unfold ref09_Vote at h
    obtain ⟨x6, e0, h⟩ := Option.bind_eq_some_iff.1 h
    by_cases c1 : x6 = true
    · rw [if_pos c1] at h
      by_cases c2 : eqI x1 0 = true
      · rw [if_pos c2] at h
        by_cases c3 : x5 = true
        · rw [if_pos c3] at h
          obtain rfl := Option.some.inj h
          exact Tri.of (x := X23) mixed facts23 [.call ⟨true, []⟩ (.bool x6) [], .d false, .d false, .d true] [⟨c3⟩, ⟨(nF c2)⟩, ⟨(nF c1)⟩, ⟨(ok_ref09_Right k x1 x2 x3 x4 _ e0)⟩] (by kernel_rfl)
        · rw [if_neg c3] at h
          replace c3 := eqf c3
          obtain rfl := Option.some.inj h
          exact Tri.of (x := X23) mixed facts23 [.call ⟨true, []⟩ (.bool x6) [], .d false, .d false, .d false] [⟨c3⟩, ⟨(nF c2)⟩, ⟨(nF c1)⟩, ⟨(ok_ref09_Right k x1 x2 x3 x4 _ e0)⟩] (by kernel_rfl)
      · rw [if_neg c2] at h
        replace c2 := eqf c2
        obtain rfl := Option.some.inj h
        exact Tri.of (x := X23) mixed facts23 [.call ⟨true, []⟩ (.bool x6) [], .d false, .d true] [⟨(nT c2)⟩, ⟨(nF c1)⟩, ⟨(ok_ref09_Right k x1 x2 x3 x4 _ e0)⟩] (by kernel_rfl)
    · rw [if_neg c1] at h
      replace c1 := eqf c1
      obtain rfl := Option.some.inj h
      exact Tri.of (x := X23) mixed facts23 [.call ⟨true, []⟩ (.bool x6) [], .d true] [⟨(nT c1)⟩, ⟨(ok_ref09_Right k x1 x2 x3 x4 _ e0)⟩] (by kernel_rfl)
end Go.Ws

namespace Go.Ws
open Go.Proofs
set_option linter.unusedSimpArgs false
set_option linter.unusedVariables false
set_option maxRecDepth 1000000
set_option maxHeartbeats 4000000
noncomputable def X24 : Ctx := ⟨Try.f24, [], true⟩
theorem ok_ref09_Local (k : Nat) (x1 : Int) (x2 : List (Int × Int)) (x3 : Bool) (x4 : Int) (r : Int × (List (Int × Int)) × Bool × Int × (List (Int × Int)) × Int) (h : ref09_Local k x1 x2 x3 x4 = some r) : Tri Try.prog 24 [(.agg [(.int .i64 x1), (.sl 2 (List.map e_u8_i64 x2)), (.bool x3), (.int .i64 x4)])] [] (.tup [(.agg [(.int .i64 r.1), (.sl 2 (List.map e_u8_i64 r.2.1)), (.bool r.2.2.1), (.int .i64 r.2.2.2.1)]), (.sl 2 (List.map e_u8_i64 r.2.2.2.2.1)), (.int .i64 r.2.2.2.2.2)]) [] := by
    unfold ref09_Local at h
    obtain ⟨x5, e0, h⟩ := Option.bind_eq_some_iff.1 h
    by_cases c1 : x5 = true
    · rw [if_pos c1] at h
      by_cases c2 : eqI x1 1 = true
      · rw [if_pos c2] at h
        by_cases c3 : x3 = true
        · rw [if_pos c3] at h
          obtain rfl := Option.some.inj h
          exact Tri.of (x := X24) mixed facts24 [.call ⟨true, []⟩ (.bool x5) [], .d false, .d false, .d true, .norm 0 ⟨[(2, []), (3, [(0, 2)]), (4, [])], [⟨.tmp 2, [], none⟩], false, [], []⟩] [⟨c3⟩, ⟨(nF c2)⟩, ⟨(nF c1)⟩, ⟨(ok_ref09_Right k x1 x2 x3 x4 _ e0)⟩] (by kernel_rfl)
        · rw [if_neg c3] at h
          replace c3 := eqf c3
          obtain rfl := Option.some.inj h
          exact Tri.of (x := X24) mixed facts24 [.call ⟨true, []⟩ (.bool x5) [], .d false, .d false, .d false] [⟨c3⟩, ⟨(nF c2)⟩, ⟨(nF c1)⟩, ⟨(ok_ref09_Right k x1 x2 x3 x4 _ e0)⟩] (by kernel_rfl)
      · rw [if_neg c2] at h
        replace c2 := eqf c2
        obtain rfl := Option.some.inj h
        exact Tri.of (x := X24) mixed facts24 [.call ⟨true, []⟩ (.bool x5) [], .d false, .d true, .norm 0 ⟨[(2, []), (3, [(0, 2)]), (4, [])], [⟨.tmp 2, [], none⟩], false, [], []⟩] [⟨(nT c2)⟩, ⟨(nF c1)⟩, ⟨(ok_ref09_Right k x1 x2 x3 x4 _ e0)⟩] (by kernel_rfl)
    · rw [if_neg c1] at h
      replace c1 := eqf c1
      obtain rfl := Option.some.inj h
      exact Tri.of (x := X24) mixed facts24 [.call ⟨true, []⟩ (.bool x5) [], .d true, .norm 0 ⟨[(2, []), (3, [(0, 2)]), (4, [])], [⟨.tmp 2, [], none⟩], false, [], []⟩] [⟨(nT c1)⟩, ⟨(ok_ref09_Right k x1 x2 x3 x4 _ e0)⟩] (by kernel_rfl)
end Go.Ws

namespace Go.Ws
open Go.Proofs
set_option linter.unusedSimpArgs false
set_option linter.unusedVariables false
set_option maxRecDepth 1000000
set_option maxHeartbeats 4000000
noncomputable def X25 : Ctx := ⟨Try.f25, [], true⟩
theorem ok_ref09_Decide (k : Nat) (x1 : Int) (x2 : List (Int × Int)) (x3 : Bool) (x4 : Int) (x5 : Int) (r : Int × (List (Int × Int)) × Bool × Int × (List (Int × Int)) × Int) (h : ref09_Decide k x1 x2 x3 x4 x5 = some r) : Tri Try.prog 25 [(.agg [(.int .i64 x1), (.sl 2 (List.map e_u8_i64 x2)), (.bool x3), (.int .i64 x4)]), (.int .i64 x5)] [] (.tup [(.agg [(.int .i64 r.1), (.sl 2 (List.map e_u8_i64 r.2.1)), (.bool r.2.2.1), (.int .i64 r.2.2.2.1)]), (.sl 2 (List.map e_u8_i64 r.2.2.2.2.1)), (.int .i64 r.2.2.2.2.2)]) [] := by
    unfold ref09_Decide at h
    obtain ⟨x6, e0, h⟩ := Option.bind_eq_some_iff.1 h
    by_cases c1 : x6 = true
    · rw [if_pos c1] at h
      by_cases c2 : eqI x5 1 = true
      · rw [if_pos c2] at h
        by_cases c3 : eqI x1 3 = true
        · rw [if_pos c3] at h
          by_cases c4 : eqI x4 x5 = true
          · rw [if_pos c4] at h
            obtain rfl := Option.some.inj h
            exact Tri.of (x := X25) mixed facts25 [.call ⟨true, []⟩ (.bool x6) [], .d false, .d false, .d false, .d false, .d false, .d false, .d false, .d false, .d false, .d true, .d true, .d true, .d true, .d true, .d true, .norm 0 ⟨[(4, []), (5, [(0, 2)]), (6, [])], [⟨.tmp 4, [], none⟩], false, [], []⟩] [⟨c4⟩, ⟨c3⟩, ⟨c3⟩, ⟨c3⟩, ⟨c3⟩, ⟨c3⟩, ⟨(rfl : false = false)⟩, ⟨(nF c1)⟩, ⟨(nF c2)⟩, ⟨(nF c1)⟩, ⟨(nF c2)⟩, ⟨(nF c2)⟩, ⟨(nF c1)⟩, ⟨(nF c1)⟩, ⟨(nF c1)⟩, ⟨(ok_ref09_Right k x1 x2 x3 x4 _ e0)⟩] (by kernel_rfl)
          · rw [if_neg c4] at h
            replace c4 := eqf c4
            obtain rfl := Option.some.inj h
            exact Tri.of (x := X25) mixed facts25 [.call ⟨true, []⟩ (.bool x6) [], .d false, .d false, .d false, .d false, .d false, .d false, .d false, .d false, .d false, .d true, .d true, .d true, .d true, .d true, .d false, .d true, .d true, .norm 0 ⟨[(4, []), (5, [(0, 2)]), (6, [])], [⟨.tmp 4, [], none⟩], false, [], []⟩] [⟨c3⟩, ⟨c3⟩, ⟨c4⟩, ⟨c3⟩, ⟨c3⟩, ⟨c3⟩, ⟨c3⟩, ⟨c3⟩, ⟨(rfl : false = false)⟩, ⟨(nF c1)⟩, ⟨(nF c2)⟩, ⟨(nF c1)⟩, ⟨(nF c2)⟩, ⟨(nF c2)⟩, ⟨(nF c1)⟩, ⟨(nF c1)⟩, ⟨(nF c1)⟩, ⟨(ok_ref09_Right k x1 x2 x3 x4 _ e0)⟩] (by kernel_rfl)
        · rw [if_neg c3] at h
          replace c3 := eqf c3
          by_cases c4 : eqI x1 1 = true
          · rw [if_pos c4] at h
            by_cases c5 : x3 = true
            · rw [if_pos c5] at h
              by_cases c6 : eqI x5 2 = true
              · rw [if_pos c6] at h
                obtain ⟨x7, e7, h⟩ := Option.bind_eq_some_iff.1 h
                obtain rfl := Option.some.inj h
                exact Tri.of (x := X25) mixed facts25 [.call ⟨true, []⟩ (.bool x6) [], .d false, .d false, .d false, .d false, .d false, .d false, .d false, .d false, .d false, .d false, .d false, .d false, .d false, .d false, .d false, .d false, .d true, .d true, .d true, .d true, .d false, .d true, .d true, .d true, .d true, .d false, .d true, .d true, .d true, .d true, .call ⟨true, []⟩ (.sl 2 (List.map e_u8_i64 x7)) []] [⟨(ok_ref09_opposites k x2 _ e7)⟩, ⟨c5⟩, ⟨c6⟩, ⟨c6⟩, ⟨c6⟩, ⟨(nF c5)⟩, ⟨c2⟩, ⟨c2⟩, ⟨c2⟩, ⟨c2⟩, ⟨(nF c4)⟩, ⟨c2⟩, ⟨c2⟩, ⟨c2⟩, ⟨c2⟩, ⟨c3⟩, ⟨(rfl : false = false)⟩, ⟨c3⟩, ⟨c3⟩, ⟨c3⟩, ⟨c3⟩, ⟨c3⟩, ⟨(rfl : false = false)⟩, ⟨(nF c1)⟩, ⟨(nF c2)⟩, ⟨(nF c1)⟩, ⟨(nF c2)⟩, ⟨(nF c2)⟩, ⟨(nF c1)⟩, ⟨(nF c1)⟩, ⟨(nF c1)⟩, ⟨(ok_ref09_Right k x1 x2 x3 x4 _ e0)⟩] (by kernel_rfl)
              · rw [if_neg c6] at h
                replace c6 := eqf c6
                obtain rfl := Option.some.inj h
                exact Tri.of (x := X25) mixed facts25 [.call ⟨true, []⟩ (.bool x6) [], .d false, .d false, .d false, .d false, .d false, .d false, .d false, .d false, .d false, .d false, .d false, .d false, .d false, .d false, .d false, .d false, .d true, .d true, .d true, .d true, .d false, .d true, .d true, .d true, .d true, .d false, .d false, .d false, .d false, .d false, .norm 0 ⟨[(4, []), (5, [(0, 2)]), (6, [])], [⟨.tmp 4, [], none⟩], false, [], []⟩] [⟨(rfl : false = false)⟩, ⟨c6⟩, ⟨c6⟩, ⟨c6⟩, ⟨(nF c5)⟩, ⟨c2⟩, ⟨c2⟩, ⟨c2⟩, ⟨c2⟩, ⟨(nF c4)⟩, ⟨c2⟩, ⟨c2⟩, ⟨c2⟩, ⟨c2⟩, ⟨c3⟩, ⟨(rfl : false = false)⟩, ⟨c3⟩, ⟨c3⟩, ⟨c3⟩, ⟨c3⟩, ⟨c3⟩, ⟨(rfl : false = false)⟩, ⟨(nF c1)⟩, ⟨(nF c2)⟩, ⟨(nF c1)⟩, ⟨(nF c2)⟩, ⟨(nF c2)⟩, ⟨(nF c1)⟩, ⟨(nF c1)⟩, ⟨(nF c1)⟩, ⟨(ok_ref09_Right k x1 x2 x3 x4 _ e0)⟩] (by kernel_rfl)
            · rw [if_neg c5] at h
              replace c5 := eqf c5
              obtain rfl := Option.some.inj h
              exact Tri.of (x := X25) mixed facts25 [.call ⟨true, []⟩ (.bool x6) [], .d false, .d false, .d false, .d false, .d false, .d false, .d false, .d false, .d false, .d false, .d false, .d false, .d false, .d false, .d false, .d false, .d true, .d true, .d true, .d true, .d false, .d true, .d true, .d true, .d true, .d true] [⟨(nT c5)⟩, ⟨c2⟩, ⟨c2⟩, ⟨c2⟩, ⟨c2⟩, ⟨(nF c4)⟩, ⟨c2⟩, ⟨c2⟩, ⟨c2⟩, ⟨c2⟩, ⟨c3⟩, ⟨(rfl : false = false)⟩, ⟨c3⟩, ⟨c3⟩, ⟨c3⟩, ⟨c3⟩, ⟨c3⟩, ⟨(rfl : false = false)⟩, ⟨(nF c1)⟩, ⟨(nF c2)⟩, ⟨(nF c1)⟩, ⟨(nF c2)⟩, ⟨(nF c2)⟩, ⟨(nF c1)⟩, ⟨(nF c1)⟩, ⟨(nF c1)⟩, ⟨(ok_ref09_Right k x1 x2 x3 x4 _ e0)⟩] (by kernel_rfl)
          · rw [if_neg c4] at h
            replace c4 := eqf c4
            obtain rfl := Option.some.inj h
            exact Tri.of (x := X25) mixed facts25 [.call ⟨true, []⟩ (.bool x6) [], .d false, .d false, .d false, .d false, .d false, .d false, .d false, .d false, .d false, .d false, .d false, .d false, .d false, .d false, .d false, .d false, .d true, .d true, .d true, .d true, .d true, .norm 0 ⟨[(4, []), (5, [(0, 2)]), (6, [])], [⟨.tmp 4, [], none⟩], false, [], []⟩] [⟨(nT c4)⟩, ⟨c2⟩, ⟨c2⟩, ⟨c2⟩, ⟨c2⟩, ⟨c3⟩, ⟨(rfl : false = false)⟩, ⟨c3⟩, ⟨c3⟩, ⟨c3⟩, ⟨c3⟩, ⟨c3⟩, ⟨(rfl : false = false)⟩, ⟨(nF c1)⟩, ⟨(nF c2)⟩, ⟨(nF c1)⟩, ⟨(nF c2)⟩, ⟨(nF c2)⟩, ⟨(nF c1)⟩, ⟨(nF c1)⟩, ⟨(nF c1)⟩, ⟨(ok_ref09_Right k x1 x2 x3 x4 _ e0)⟩] (by kernel_rfl)
      · rw [if_neg c2] at h
        replace c2 := eqf c2
        by_cases c3 : eqI x5 2 = true
        · rw [if_pos c3] at h
          by_cases c4 : eqI x1 3 = true
          · rw [if_pos c4] at h
            by_cases c5 : eqI x4 x5 = true
            · rw [if_pos c5] at h
              obtain rfl := Option.some.inj h
              exact Tri.of (x := X25) mixed facts25 [.call ⟨true, []⟩ (.bool x6) [], .d false, .d false, .d false, .d true, .d true, .d false, .d true, .d false, .d false, .d true, .d true, .d true, .d true, .d true, .d true, .norm 0 ⟨[(4, []), (5, [(0, 2)]), (6, [])], [⟨.tmp 4, [], none⟩], false, [], []⟩] [⟨c5⟩, ⟨c4⟩, ⟨c4⟩, ⟨c4⟩, ⟨c4⟩, ⟨c4⟩, ⟨(nF c3)⟩, ⟨(nF c1)⟩, ⟨(nT c2)⟩, ⟨(nF c1)⟩, ⟨(nT c2)⟩, ⟨(nT c2)⟩, ⟨(nF c1)⟩, ⟨(nF c1)⟩, ⟨(nF c1)⟩, ⟨(ok_ref09_Right k x1 x2 x3 x4 _ e0)⟩] (by kernel_rfl)
            · rw [if_neg c5] at h
              replace c5 := eqf c5
              obtain rfl := Option.some.inj h
              exact Tri.of (x := X25) mixed facts25 [.call ⟨true, []⟩ (.bool x6) [], .d false, .d false, .d false, .d true, .d true, .d false, .d true, .d false, .d false, .d true, .d true, .d true, .d true, .d true, .d false, .d true, .d true, .norm 0 ⟨[(4, []), (5, [(0, 2)]), (6, [])], [⟨.tmp 4, [], none⟩], false, [], []⟩] [⟨c4⟩, ⟨c4⟩, ⟨c5⟩, ⟨c4⟩, ⟨c4⟩, ⟨c4⟩, ⟨c4⟩, ⟨c4⟩, ⟨(nF c3)⟩, ⟨(nF c1)⟩, ⟨(nT c2)⟩, ⟨(nF c1)⟩, ⟨(nT c2)⟩, ⟨(nT c2)⟩, ⟨(nF c1)⟩, ⟨(nF c1)⟩, ⟨(nF c1)⟩, ⟨(ok_ref09_Right k x1 x2 x3 x4 _ e0)⟩] (by kernel_rfl)
          · rw [if_neg c4] at h
            replace c4 := eqf c4
            by_cases c5 : x3 = true
            · rw [if_pos c5] at h
              obtain ⟨x7, e6, h⟩ := Option.bind_eq_some_iff.1 h
              obtain rfl := Option.some.inj h
              exact Tri.of (x := X25) mixed facts25 [.call ⟨true, []⟩ (.bool x6) [], .d false, .d false, .d false, .d true, .d true, .d false, .d true, .d false, .d false, .d false, .d false, .d false, .d false, .d false, .d false, .d false, .d false, .d false, .d false, .d false, .d false, .d false, .d false, .d false, .d false, .d false, .d true, .d true, .d true, .d true, .call ⟨true, []⟩ (.sl 2 (List.map e_u8_i64 x7)) []] [⟨(ok_ref09_opposites k x2 _ e6)⟩, ⟨c5⟩, ⟨c3⟩, ⟨c3⟩, ⟨c3⟩, ⟨(rfl : false = false)⟩, ⟨c2⟩, ⟨c2⟩, ⟨c2⟩, ⟨c2⟩, ⟨(rfl : false = false)⟩, ⟨c2⟩, ⟨c2⟩, ⟨c2⟩, ⟨c2⟩, ⟨c4⟩, ⟨(rfl : false = false)⟩, ⟨c4⟩, ⟨c4⟩, ⟨c4⟩, ⟨c4⟩, ⟨c4⟩, ⟨(nF c3)⟩, ⟨(nF c1)⟩, ⟨(nT c2)⟩, ⟨(nF c1)⟩, ⟨(nT c2)⟩, ⟨(nT c2)⟩, ⟨(nF c1)⟩, ⟨(nF c1)⟩, ⟨(nF c1)⟩, ⟨(ok_ref09_Right k x1 x2 x3 x4 _ e0)⟩] (by kernel_rfl)
            · rw [if_neg c5] at h
              replace c5 := eqf c5
              obtain rfl := Option.some.inj h
              exact Tri.of (x := X25) mixed facts25 [.call ⟨true, []⟩ (.bool x6) [], .d false, .d false, .d false, .d true, .d true, .d false, .d true, .d false, .d false, .d false, .d false, .d false, .d false, .d false, .d false, .d false, .d false, .d false, .d false, .d false, .d false, .d false, .d false, .d false, .d false, .d false, .d true, .d true, .d true, .d false, .norm 0 ⟨[(4, []), (5, [(0, 2)]), (6, [])], [⟨.tmp 4, [], none⟩], false, [], []⟩] [⟨c5⟩, ⟨c3⟩, ⟨c3⟩, ⟨c3⟩, ⟨(rfl : false = false)⟩, ⟨c2⟩, ⟨c2⟩, ⟨c2⟩, ⟨c2⟩, ⟨(rfl : false = false)⟩, ⟨c2⟩, ⟨c2⟩, ⟨c2⟩, ⟨c2⟩, ⟨c4⟩, ⟨(rfl : false = false)⟩, ⟨c4⟩, ⟨c4⟩, ⟨c4⟩, ⟨c4⟩, ⟨c4⟩, ⟨(nF c3)⟩, ⟨(nF c1)⟩, ⟨(nT c2)⟩, ⟨(nF c1)⟩, ⟨(nT c2)⟩, ⟨(nT c2)⟩, ⟨(nF c1)⟩, ⟨(nF c1)⟩, ⟨(nF c1)⟩, ⟨(ok_ref09_Right k x1 x2 x3 x4 _ e0)⟩] (by kernel_rfl)
        · rw [if_neg c3] at h
          replace c3 := eqf c3
          obtain rfl := Option.some.inj h
          exact Tri.of (x := X25) mixed facts25 [.call ⟨true, []⟩ (.bool x6) [], .d false, .d false, .d false, .d true, .d true, .d false, .d true, .d false, .d true, .norm 0 ⟨[(4, []), (5, [(0, 2)]), (6, [])], [⟨.tmp 4, [], none⟩], false, [], []⟩] [⟨(nT c3)⟩, ⟨(nF c1)⟩, ⟨(nT c2)⟩, ⟨(nF c1)⟩, ⟨(nT c2)⟩, ⟨(nT c2)⟩, ⟨(nF c1)⟩, ⟨(nF c1)⟩, ⟨(nF c1)⟩, ⟨(ok_ref09_Right k x1 x2 x3 x4 _ e0)⟩] (by kernel_rfl)
    · rw [if_neg c1] at h
      replace c1 := eqf c1
      obtain rfl := Option.some.inj h
      exact Tri.of (x := X25) mixed facts25 [.call ⟨true, []⟩ (.bool x6) [], .d true, .d true, .d true, .d true, .d true, .d true, .norm 0 ⟨[(4, []), (5, [(0, 2)]), (6, [])], [⟨.tmp 4, [], none⟩], false, [], []⟩] [⟨(rfl : true = true)⟩, ⟨(nT c1)⟩, ⟨(nT c1)⟩, ⟨(nT c1)⟩, ⟨(nT c1)⟩, ⟨(nT c1)⟩, ⟨(ok_ref09_Right k x1 x2 x3 x4 _ e0)⟩] (by kernel_rfl)
end Go.Ws

namespace Go.Ws
open Go.Proofs
set_option linter.unusedSimpArgs false
set_option linter.unusedVariables false
set_option maxRecDepth 1000000
set_option maxHeartbeats 4000000
noncomputable def X26 : Ctx := ⟨Try.f26, [], true⟩
theorem ok_ref09_Add (k : Nat) (x1 : Int) (x2 : List (Int × Int)) (x3 : Bool) (x4 : Int) (x5 : Int) (x6 : Int) (r : Int × (List (Int × Int)) × Bool × Int × Int) (h : ref09_Add k x1 x2 x3 x4 x5 x6 = some r) : Tri Try.prog 26 [(.agg [(.int .i64 x1), (.sl 2 (List.map e_u8_i64 x2)), (.bool x3), (.int .i64 x4)]), (.agg [(.int .u8 x5), (.int .i64 x6)])] [] (.tup [(.agg [(.int .i64 r.1), (.sl 2 (List.map e_u8_i64 r.2.1)), (.bool r.2.2.1), (.int .i64 r.2.2.2.1)]), (.int .i64 r.2.2.2.2)]) [] := by
    unfold ref09_Add at h
    obtain ⟨x7, e0, h⟩ := Option.bind_eq_some_iff.1 h
    by_cases c1 : x7 = true
    · rw [if_pos c1] at h
      by_cases c2 : ltI x5 64 = true
      · rw [if_pos c2] at h
        by_cases c3 : eqI x1 0 = true
        · rw [if_pos c3] at h
          by_cases c4 : ltI (nI x2.length) 50 = true
          · rw [if_pos c4] at h
            by_cases c5 : roomI (x2.length * 16) = true
            · rw [if_pos c5] at h
              by_cases c6 : roomI (((x2 ++ [(x5, x6)]).length) * 16) = true
              · rw [if_pos c6] at h
                obtain rfl := Option.some.inj h
                exact Tri.of (x := X26) mixed facts26 [.call ⟨true, []⟩ (.bool x7) [], .d false, .d false, .d false, .d false, .d false, .d false, .n x2.length, .d false, .n x2.length, .rows (List.map e_u8_i64 [(x5, x6)]), .n ((x2 ++ [(x5, x6)]).length), .n x2.length, .d true, .rows (List.map e_u8_i64 (x2 ++ [(x5, x6)])), .rows (List.map e_u8_i64 (x2 ++ [(x5, x6)]))] [⟨(part_all e_u8_i64 (l := (x2 ++ [(x5, x6)])) (n := ((x2 ++ [(x5, x6)]).length)) rfl)⟩, ⟨(le_map e_u8_i64 (Nat.le_refl ((x2 ++ [(x5, x6)]).length)) : 0 + (x2 ++ [(x5, x6)]).length ≤ (List.map e_u8_i64 (x2 ++ [(x5, x6)])).length)⟩, ⟨(app_map e_u8_i64 x2 [(x5, x6)])⟩, ⟨(eqN_self x2.length)⟩, ⟨(len_map e_u8_i64 x2)⟩, ⟨c6⟩, ⟨(by simp only [List.length_append, List.length_cons, List.length_nil, List.length_take, List.length_drop, List.length_set, List.length_replicate, List.length_map, List.map_nil, List.map_cons] <;> omega : x2.length + (List.map e_u8_i64 [(x5, x6)]).length = (x2 ++ [(x5, x6)]).length)⟩, ⟨(part_all e_u8_i64 (l := [(x5, x6)]) (n := 1) rfl)⟩, ⟨(le_map e_u8_i64 (Nat.le_refl 1) : 0 + 1 ≤ (List.map e_u8_i64 [(x5, x6)]).length)⟩, ⟨c5⟩, ⟨(len_map e_u8_i64 x2)⟩, ⟨(nF c4)⟩, ⟨(len_map e_u8_i64 x2)⟩, ⟨(nF c3)⟩, ⟨(nF c2)⟩, ⟨(nF c1)⟩, ⟨(nF c1)⟩, ⟨(nF c1)⟩, ⟨(nF c1)⟩, ⟨(ok_ref09_Right k x1 x2 x3 x4 _ e0)⟩] (by kernel_rfl)
              · rw [if_neg c6] at h
                replace c6 := eqf c6
                cases h
            · rw [if_neg c5] at h
              replace c5 := eqf c5
              cases h
          · rw [if_neg c4] at h
            replace c4 := eqf c4
            obtain rfl := Option.some.inj h
            exact Tri.of (x := X26) mixed facts26 [.call ⟨true, []⟩ (.bool x7) [], .d false, .d false, .d false, .d false, .d false, .d false, .n x2.length, .d true] [⟨(nT c4)⟩, ⟨(len_map e_u8_i64 x2)⟩, ⟨(nF c3)⟩, ⟨(nF c2)⟩, ⟨(nF c1)⟩, ⟨(nF c1)⟩, ⟨(nF c1)⟩, ⟨(nF c1)⟩, ⟨(ok_ref09_Right k x1 x2 x3 x4 _ e0)⟩] (by kernel_rfl)
        · rw [if_neg c3] at h
          replace c3 := eqf c3
          obtain rfl := Option.some.inj h
          exact Tri.of (x := X26) mixed facts26 [.call ⟨true, []⟩ (.bool x7) [], .d false, .d false, .d false, .d false, .d false, .d true] [⟨(nT c3)⟩, ⟨(nF c2)⟩, ⟨(nF c1)⟩, ⟨(nF c1)⟩, ⟨(nF c1)⟩, ⟨(nF c1)⟩, ⟨(ok_ref09_Right k x1 x2 x3 x4 _ e0)⟩] (by kernel_rfl)
      · rw [if_neg c2] at h
        replace c2 := eqf c2
        obtain rfl := Option.some.inj h
        exact Tri.of (x := X26) mixed facts26 [.call ⟨true, []⟩ (.bool x7) [], .d false, .d false, .d false, .d false, .d true] [⟨(nT c2)⟩, ⟨(nF c1)⟩, ⟨(nF c1)⟩, ⟨(nF c1)⟩, ⟨(nF c1)⟩, ⟨(ok_ref09_Right k x1 x2 x3 x4 _ e0)⟩] (by kernel_rfl)
    · rw [if_neg c1] at h
      replace c1 := eqf c1
      obtain rfl := Option.some.inj h
      exact Tri.of (x := X26) mixed facts26 [.call ⟨true, []⟩ (.bool x7) [], .d true, .d true, .d true, .d true, .d true] [⟨(rfl : true = true)⟩, ⟨(nT c1)⟩, ⟨(nT c1)⟩, ⟨(nT c1)⟩, ⟨(nT c1)⟩, ⟨(ok_ref09_Right k x1 x2 x3 x4 _ e0)⟩] (by kernel_rfl)
end Go.Ws

namespace Go.Ws
open Go.Proofs
set_option linter.unusedSimpArgs false
set_option linter.unusedVariables false
set_option maxRecDepth 1000000
set_option maxHeartbeats 4000000
noncomputable def X10 : Ctx := ⟨Try.f10, [], true⟩
theorem ok_law09_does (k : Nat) (x1 : Int) (x2 : List (Int × Int)) (x3 : Bool) (x4 : Int) (x5 : Int) (x6 : List (Int × Int)) (x7 : Bool) (x8 : Int) (x9 : Int) (x10 : Int) (x11 : Int) (x12 : Bool) (x13 : Int) (r : Int × (List (Int × Int)) × Bool × Int × Int × (List (Int × Int)) × Bool × Int × (List (Int × Int)) × Bool) (h : law09_does k x1 x2 x3 x4 x5 x6 x7 x8 x9 x10 x11 x12 x13 = some r) : Tri Try.prog 10 [(.agg [(.int .i64 x1), (.sl 2 (List.map e_u8_i64 x2)), (.bool x3), (.int .i64 x4)]), (.agg [(.int .i64 x5), (.sl 2 (List.map e_u8_i64 x6)), (.bool x7), (.int .i64 x8)]), (.agg [(.int .u8 x9), (.int .u8 x10), (.int .i64 x11), (.bool x12), (.int .i64 x13)])] [] (.tup [(.agg [(.int .i64 r.1), (.sl 2 (List.map e_u8_i64 r.2.1)), (.bool r.2.2.1), (.int .i64 r.2.2.2.1)]), (.agg [(.int .i64 r.2.2.2.2.1), (.sl 2 (List.map e_u8_i64 r.2.2.2.2.2.1)), (.bool r.2.2.2.2.2.2.1), (.int .i64 r.2.2.2.2.2.2.2.1)]), (.sl 2 (List.map e_u8_i64 r.2.2.2.2.2.2.2.2.1)), (.bool r.2.2.2.2.2.2.2.2.2)]) [] := by
    unfold law09_does at h
    by_cases c0 : eqI (irem .u8 x9 6) 2 = true
    · rw [if_pos c0] at h
      by_cases c1 : x12 = true
      · rw [if_pos c1] at h
        obtain ⟨x14, e2, h⟩ := Option.bind_eq_some_iff.1 h
        obtain ⟨x15, e3, h⟩ := Option.bind_eq_some_iff.1 h
        obtain rfl := Option.some.inj h
        exact Tri.of (x := X10) mixed facts10 [.d false, .d true, .d true, .d true, .d true, .d true, .d true, .d true, .call ⟨true, []⟩ (.tup [(.agg [(.int .i64 x14.1), (.sl 2 (List.map e_u8_i64 x14.2.1)), (.bool x14.2.2.1), (.int .i64 x14.2.2.2.1)]), (.int .i64 x14.2.2.2.2)]) [], .call ⟨true, []⟩ (.tup [(.agg [(.int .i64 x15.1), (.sl 2 (List.map e_u8_i64 x15.2.1)), (.bool x15.2.2.1), (.int .i64 x15.2.2.2.1)]), (.int .i64 x15.2.2.2.2)]) [], .norm 0 ⟨[(6, []), (7, []), (8, [(0, 2)]), (9, [])], [⟨.tmp 6, [], none⟩, ⟨.tmp 7, [], none⟩], false, [], []⟩] [⟨(ok_ref09_Vote k x5 x6 x7 x8 true _ e3)⟩, ⟨(ok_part_Vote k x1 x2 x3 x4 true _ e2)⟩, ⟨c1⟩, ⟨c1⟩, ⟨c1⟩, ⟨c1⟩, ⟨c1⟩, ⟨c0⟩, ⟨c0⟩, ⟨(rfl : eqI 6 0 = false)⟩] (by kernel_rfl)
      · rw [if_neg c1] at h
        replace c1 := eqf c1
        obtain ⟨x14, e2, h⟩ := Option.bind_eq_some_iff.1 h
        obtain ⟨x15, e3, h⟩ := Option.bind_eq_some_iff.1 h
        obtain rfl := Option.some.inj h
        exact Tri.of (x := X10) mixed facts10 [.d false, .d true, .d true, .d false, .d false, .d false, .d false, .d false, .d false, .call ⟨true, []⟩ (.tup [(.agg [(.int .i64 x14.1), (.sl 2 (List.map e_u8_i64 x14.2.1)), (.bool x14.2.2.1), (.int .i64 x14.2.2.2.1)]), (.int .i64 x14.2.2.2.2)]) [], .call ⟨true, []⟩ (.tup [(.agg [(.int .i64 x15.1), (.sl 2 (List.map e_u8_i64 x15.2.1)), (.bool x15.2.2.1), (.int .i64 x15.2.2.2.1)]), (.int .i64 x15.2.2.2.2)]) [], .norm 0 ⟨[(6, []), (7, []), (8, [(0, 2)]), (9, [])], [⟨.tmp 6, [], none⟩, ⟨.tmp 7, [], none⟩], false, [], []⟩] [⟨(ok_ref09_Vote k x5 x6 x7 x8 (eqI (irem .u8 x9 6) 5) _ e3)⟩, ⟨(ok_part_Vote k x1 x2 x3 x4 (eqI (irem .u8 x9 6) 5) _ e2)⟩, ⟨c1⟩, ⟨c1⟩, ⟨(rfl : eqI 6 0 = false)⟩, ⟨c1⟩, ⟨c1⟩, ⟨c1⟩, ⟨c0⟩, ⟨c0⟩, ⟨(rfl : eqI 6 0 = false)⟩] (by kernel_rfl)
    · rw [if_neg c0] at h
      replace c0 := eqf c0
      by_cases c1 : eqI (irem .u8 x9 6) 5 = true
      · rw [if_pos c1] at h
        by_cases c2 : x12 = true
        · rw [if_pos c2] at h
          obtain ⟨x14, e3, h⟩ := Option.bind_eq_some_iff.1 h
          obtain ⟨x15, e4, h⟩ := Option.bind_eq_some_iff.1 h
          obtain rfl := Option.some.inj h
          exact Tri.of (x := X10) mixed facts10 [.d false, .d false, .d true, .d true, .d true, .d true, .d true, .d true, .call ⟨true, []⟩ (.tup [(.agg [(.int .i64 x14.1), (.sl 2 (List.map e_u8_i64 x14.2.1)), (.bool x14.2.2.1), (.int .i64 x14.2.2.2.1)]), (.int .i64 x14.2.2.2.2)]) [], .call ⟨true, []⟩ (.tup [(.agg [(.int .i64 x15.1), (.sl 2 (List.map e_u8_i64 x15.2.1)), (.bool x15.2.2.1), (.int .i64 x15.2.2.2.1)]), (.int .i64 x15.2.2.2.2)]) [], .norm 0 ⟨[(6, []), (7, []), (8, [(0, 2)]), (9, [])], [⟨.tmp 6, [], none⟩, ⟨.tmp 7, [], none⟩], false, [], []⟩] [⟨(ok_ref09_Vote k x5 x6 x7 x8 true _ e4)⟩, ⟨(ok_part_Vote k x1 x2 x3 x4 true _ e3)⟩, ⟨c2⟩, ⟨c2⟩, ⟨c2⟩, ⟨c2⟩, ⟨c2⟩, ⟨c1⟩, ⟨c0⟩, ⟨(rfl : eqI 6 0 = false)⟩] (by kernel_rfl)
        · rw [if_neg c2] at h
          replace c2 := eqf c2
          obtain ⟨x14, e3, h⟩ := Option.bind_eq_some_iff.1 h
          obtain ⟨x15, e4, h⟩ := Option.bind_eq_some_iff.1 h
          obtain rfl := Option.some.inj h
          exact Tri.of (x := X10) mixed facts10 [.d false, .d false, .d true, .d false, .d false, .d false, .d false, .d false, .d false, .call ⟨true, []⟩ (.tup [(.agg [(.int .i64 x14.1), (.sl 2 (List.map e_u8_i64 x14.2.1)), (.bool x14.2.2.1), (.int .i64 x14.2.2.2.1)]), (.int .i64 x14.2.2.2.2)]) [], .call ⟨true, []⟩ (.tup [(.agg [(.int .i64 x15.1), (.sl 2 (List.map e_u8_i64 x15.2.1)), (.bool x15.2.2.1), (.int .i64 x15.2.2.2.1)]), (.int .i64 x15.2.2.2.2)]) [], .norm 0 ⟨[(6, []), (7, []), (8, [(0, 2)]), (9, [])], [⟨.tmp 6, [], none⟩, ⟨.tmp 7, [], none⟩], false, [], []⟩] [⟨(ok_ref09_Vote k x5 x6 x7 x8 (eqI (irem .u8 x9 6) 5) _ e4)⟩, ⟨(ok_part_Vote k x1 x2 x3 x4 (eqI (irem .u8 x9 6) 5) _ e3)⟩, ⟨c2⟩, ⟨c2⟩, ⟨(rfl : eqI 6 0 = false)⟩, ⟨c2⟩, ⟨c2⟩, ⟨c2⟩, ⟨c1⟩, ⟨c0⟩, ⟨(rfl : eqI 6 0 = false)⟩] (by kernel_rfl)
      · rw [if_neg c1] at h
        replace c1 := eqf c1
        by_cases c2 : eqI (irem .u8 x9 6) 3 = true
        · rw [if_pos c2] at h
          obtain ⟨x14, e3, h⟩ := Option.bind_eq_some_iff.1 h
          obtain ⟨x15, e4, h⟩ := Option.bind_eq_some_iff.1 h
          by_cases c5 : eqI x14.2.2.2.2.2 x15.2.2.2.2.2 = true
          · rw [if_pos c5] at h
            obtain ⟨x16, e6, h⟩ := Option.bind_eq_some_iff.1 h
            obtain rfl := Option.some.inj h
            exact Tri.of (x := X10) mixed facts10 [.d false, .d false, .d false, .d true, .call ⟨true, []⟩ (.tup [(.agg [(.int .i64 x14.1), (.sl 2 (List.map e_u8_i64 x14.2.1)), (.bool x14.2.2.1), (.int .i64 x14.2.2.2.1)]), (.sl 2 (List.map e_u8_i64 x14.2.2.2.2.1)), (.int .i64 x14.2.2.2.2.2)]) [], .call ⟨true, []⟩ (.tup [(.agg [(.int .i64 x15.1), (.sl 2 (List.map e_u8_i64 x15.2.1)), (.bool x15.2.2.1), (.int .i64 x15.2.2.2.1)]), (.sl 2 (List.map e_u8_i64 x15.2.2.2.2.1)), (.int .i64 x15.2.2.2.2.2)]) [], .d true, .d true, .d true, .call ⟨true, []⟩ (.bool x16) [], .d true] [⟨c5⟩, ⟨(ok_ref09_Deltas k x14.2.2.2.2.1 x15.2.2.2.2.1 _ e6)⟩, ⟨c5⟩, ⟨c5⟩, ⟨c5⟩, ⟨(ok_ref09_Local k x5 x6 x7 x8 _ e4)⟩, ⟨(ok_part_Local k x1 x2 x3 x4 _ e3)⟩, ⟨c2⟩, ⟨c1⟩, ⟨c0⟩, ⟨(rfl : eqI 6 0 = false)⟩] (by kernel_rfl)
          · rw [if_neg c5] at h
            replace c5 := eqf c5
            obtain rfl := Option.some.inj h
            exact Tri.of (x := X10) mixed facts10 [.d false, .d false, .d false, .d true, .call ⟨true, []⟩ (.tup [(.agg [(.int .i64 x14.1), (.sl 2 (List.map e_u8_i64 x14.2.1)), (.bool x14.2.2.1), (.int .i64 x14.2.2.2.1)]), (.sl 2 (List.map e_u8_i64 x14.2.2.2.2.1)), (.int .i64 x14.2.2.2.2.2)]) [], .call ⟨true, []⟩ (.tup [(.agg [(.int .i64 x15.1), (.sl 2 (List.map e_u8_i64 x15.2.1)), (.bool x15.2.2.1), (.int .i64 x15.2.2.2.1)]), (.sl 2 (List.map e_u8_i64 x15.2.2.2.2.1)), (.int .i64 x15.2.2.2.2.2)]) [], .d false, .d false, .d false, .d false] [⟨c5⟩, ⟨c5⟩, ⟨c5⟩, ⟨c5⟩, ⟨(ok_ref09_Local k x5 x6 x7 x8 _ e4)⟩, ⟨(ok_part_Local k x1 x2 x3 x4 _ e3)⟩, ⟨c2⟩, ⟨c1⟩, ⟨c0⟩, ⟨(rfl : eqI 6 0 = false)⟩] (by kernel_rfl)
        · rw [if_neg c2] at h
          replace c2 := eqf c2
          by_cases c3 : eqI (irem .u8 x9 6) 4 = true
          · rw [if_pos c3] at h
            obtain ⟨x14, e4, h⟩ := Option.bind_eq_some_iff.1 h
            obtain ⟨x15, e5, h⟩ := Option.bind_eq_some_iff.1 h
            by_cases c6 : eqI x14.2.2.2.2.2 x15.2.2.2.2.2 = true
            · rw [if_pos c6] at h
              obtain ⟨x16, e7, h⟩ := Option.bind_eq_some_iff.1 h
              obtain rfl := Option.some.inj h
              exact Tri.of (x := X10) mixed facts10 [.d false, .d false, .d false, .d false, .d true, .call ⟨true, []⟩ (.tup [(.agg [(.int .i64 x14.1), (.sl 2 (List.map e_u8_i64 x14.2.1)), (.bool x14.2.2.1), (.int .i64 x14.2.2.2.1)]), (.sl 2 (List.map e_u8_i64 x14.2.2.2.2.1)), (.int .i64 x14.2.2.2.2.2)]) [], .call ⟨true, []⟩ (.tup [(.agg [(.int .i64 x15.1), (.sl 2 (List.map e_u8_i64 x15.2.1)), (.bool x15.2.2.1), (.int .i64 x15.2.2.2.1)]), (.sl 2 (List.map e_u8_i64 x15.2.2.2.2.1)), (.int .i64 x15.2.2.2.2.2)]) [], .d true, .d true, .d true, .call ⟨true, []⟩ (.bool x16) [], .d true] [⟨c6⟩, ⟨(ok_ref09_Deltas k x14.2.2.2.2.1 x15.2.2.2.2.1 _ e7)⟩, ⟨c6⟩, ⟨c6⟩, ⟨c6⟩, ⟨(ok_ref09_Decide k x5 x6 x7 x8 x13 _ e5)⟩, ⟨(ok_part_Decide k x1 x2 x3 x4 x13 _ e4)⟩, ⟨c3⟩, ⟨c2⟩, ⟨c1⟩, ⟨c0⟩, ⟨(rfl : eqI 6 0 = false)⟩] (by kernel_rfl)
            · rw [if_neg c6] at h
              replace c6 := eqf c6
              obtain rfl := Option.some.inj h
              exact Tri.of (x := X10) mixed facts10 [.d false, .d false, .d false, .d false, .d true, .call ⟨true, []⟩ (.tup [(.agg [(.int .i64 x14.1), (.sl 2 (List.map e_u8_i64 x14.2.1)), (.bool x14.2.2.1), (.int .i64 x14.2.2.2.1)]), (.sl 2 (List.map e_u8_i64 x14.2.2.2.2.1)), (.int .i64 x14.2.2.2.2.2)]) [], .call ⟨true, []⟩ (.tup [(.agg [(.int .i64 x15.1), (.sl 2 (List.map e_u8_i64 x15.2.1)), (.bool x15.2.2.1), (.int .i64 x15.2.2.2.1)]), (.sl 2 (List.map e_u8_i64 x15.2.2.2.2.1)), (.int .i64 x15.2.2.2.2.2)]) [], .d false, .d false, .d false, .d false] [⟨c6⟩, ⟨c6⟩, ⟨c6⟩, ⟨c6⟩, ⟨(ok_ref09_Decide k x5 x6 x7 x8 x13 _ e5)⟩, ⟨(ok_part_Decide k x1 x2 x3 x4 x13 _ e4)⟩, ⟨c3⟩, ⟨c2⟩, ⟨c1⟩, ⟨c0⟩, ⟨(rfl : eqI 6 0 = false)⟩] (by kernel_rfl)
          · rw [if_neg c3] at h
            replace c3 := eqf c3
            obtain ⟨x14, e4, h⟩ := Option.bind_eq_some_iff.1 h
            obtain ⟨x15, e5, h⟩ := Option.bind_eq_some_iff.1 h
            obtain rfl := Option.some.inj h
            exact Tri.of (x := X10) mixed facts10 [.d false, .d false, .d false, .d false, .d false, .call ⟨true, []⟩ (.tup [(.agg [(.int .i64 x14.1), (.sl 2 (List.map e_u8_i64 x14.2.1)), (.bool x14.2.2.1), (.int .i64 x14.2.2.2.1)]), (.int .i64 x14.2.2.2.2)]) [], .call ⟨true, []⟩ (.tup [(.agg [(.int .i64 x15.1), (.sl 2 (List.map e_u8_i64 x15.2.1)), (.bool x15.2.2.1), (.int .i64 x15.2.2.2.1)]), (.int .i64 x15.2.2.2.2)]) [], .norm 0 ⟨[(6, []), (7, []), (8, [(0, 2)]), (9, [])], [⟨.tmp 6, [], none⟩, ⟨.tmp 7, [], none⟩], false, [], []⟩] [⟨(ok_ref09_Add k x5 x6 x7 x8 x10 x11 _ e5)⟩, ⟨(ok_part_Add k x1 x2 x3 x4 x10 x11 _ e4)⟩, ⟨c3⟩, ⟨c2⟩, ⟨c1⟩, ⟨c0⟩, ⟨(rfl : eqI 6 0 = false)⟩] (by kernel_rfl)
end Go.Ws

namespace Go.Ws
open Go.Proofs
set_option linter.unusedSimpArgs false
set_option linter.unusedVariables false
set_option maxRecDepth 1000000
set_option maxHeartbeats 4000000
noncomputable def X9 : Ctx := ⟨Try.f9, [], true⟩
theorem ok_law09_alive (k : Nat) (r : Bool) (h : law09_alive k = some r) : Tri Try.prog 9 [] [] (.bool r) [] := by
    unfold law09_alive at h
    obtain ⟨x1, e0, h⟩ := Option.bind_eq_some_iff.1 h
    obtain ⟨x2, e1, h⟩ := Option.bind_eq_some_iff.1 h
    obtain ⟨x3, e2, h⟩ := Option.bind_eq_some_iff.1 h
    obtain ⟨x4, e3, h⟩ := Option.bind_eq_some_iff.1 h
    obtain ⟨x5, e4, h⟩ := Option.bind_eq_some_iff.1 h
    obtain ⟨x6, e5, h⟩ := Option.bind_eq_some_iff.1 h
    by_cases c6 : eqI x1.2.2.2.2 0 = true
    · rw [if_pos c6] at h
      by_cases c7 : eqI x2.2.2.2.2 0 = true
      · rw [if_pos c7] at h
        by_cases c8 : eqI x3.2.2.2.2.2 0 = true
        · rw [if_pos c8] at h
          by_cases c9 : eqI (nI x3.2.2.2.2.1.length) 1 = true
          · rw [if_pos c9] at h
            by_cases c10 : inI 0 x3.2.2.2.2.1.length = true
            · rw [if_pos c10] at h
              obtain ⟨x7, e11, h⟩ := Option.bind_eq_some_iff.1 h
              by_cases c12 : eqI x7.1 3 = true
              · rw [if_pos c12] at h
                by_cases c13 : eqI x7.2 5 = true
                · rw [if_pos c13] at h
                  by_cases c14 : eqI x4.2.2.2.2.2 0 = true
                  · rw [if_pos c14] at h
                    by_cases c15 : eqI (nI x4.2.2.2.2.1.length) 1 = true
                    · rw [if_pos c15] at h
                      by_cases c16 : inI 0 x4.2.2.2.2.1.length = true
                      · rw [if_pos c16] at h
                        obtain ⟨x8, e17, h⟩ := Option.bind_eq_some_iff.1 h
                        by_cases c18 : eqI x8.2 (-5) = true
                        · rw [if_pos c18] at h
                          by_cases c19 : eqI x5.2.2.2.2.2 0 = true
                          · rw [if_pos c19] at h
                            by_cases c20 : eqI (nI x5.2.2.2.2.1.length) 0 = true
                            · rw [if_pos c20] at h
                              by_cases c21 : eqI x6.2.2.2.2.2 13 = true
                              · rw [if_pos c21] at h
                                obtain ⟨x9, e22, h⟩ := Option.bind_eq_some_iff.1 h
                                by_cases c23 : x9 = true
                                · rw [if_pos c23] at h
                                  obtain ⟨x10, e24, h⟩ := Option.bind_eq_some_iff.1 h
                                  obtain rfl := Option.some.inj h
                                  exact Tri.of (x := X9) mixed facts9 [.call ⟨true, [[(1, 2)]]⟩ (.tup [(.agg [(.int .i64 x1.1), (.sl 2 (List.map e_u8_i64 x1.2.1)), (.bool x1.2.2.1), (.int .i64 x1.2.2.2.1)]), (.int .i64 x1.2.2.2.2)]) [], .call ⟨true, []⟩ (.tup [(.agg [(.int .i64 x2.1), (.sl 2 (List.map e_u8_i64 x2.2.1)), (.bool x2.2.2.1), (.int .i64 x2.2.2.2.1)]), (.int .i64 x2.2.2.2.2)]) [], .call ⟨true, []⟩ (.tup [(.agg [(.int .i64 x3.1), (.sl 2 (List.map e_u8_i64 x3.2.1)), (.bool x3.2.2.1), (.int .i64 x3.2.2.2.1)]), (.sl 2 (List.map e_u8_i64 x3.2.2.2.2.1)), (.int .i64 x3.2.2.2.2.2)]) [], .call ⟨true, []⟩ (.tup [(.agg [(.int .i64 x4.1), (.sl 2 (List.map e_u8_i64 x4.2.1)), (.bool x4.2.2.1), (.int .i64 x4.2.2.2.1)]), (.sl 2 (List.map e_u8_i64 x4.2.2.2.2.1)), (.int .i64 x4.2.2.2.2.2)]) [], .call ⟨true, []⟩ (.tup [(.agg [(.int .i64 x5.1), (.sl 2 (List.map e_u8_i64 x5.2.1)), (.bool x5.2.2.1), (.int .i64 x5.2.2.2.1)]), (.sl 2 (List.map e_u8_i64 x5.2.2.2.2.1)), (.int .i64 x5.2.2.2.2.2)]) [], .call ⟨true, []⟩ (.tup [(.agg [(.int .i64 x6.1), (.sl 2 (List.map e_u8_i64 x6.2.1)), (.bool x6.2.2.1), (.int .i64 x6.2.2.2.1)]), (.sl 2 (List.map e_u8_i64 x6.2.2.2.2.1)), (.int .i64 x6.2.2.2.2.2)]) [], .d true, .d true, .d true, .d true, .d true, .d true, .d true, .d true, .n x3.2.2.2.2.1.length, .d true, .d true, .d true, .d true, .n x3.2.2.2.2.1.length, .d true, .row [(.int .u8 x7.1), (.int .i64 x7.2)], .d true, .d true, .d true, .d true, .d true, .d true, .d true, .d true, .n x4.2.2.2.2.1.length, .d true, .d true, .d true, .d true, .n x4.2.2.2.2.1.length, .d true, .d true, .row [(.int .i64 x8.2)], .d true, .d true, .d true, .d true, .d true, .d true, .d true, .n x5.2.2.2.2.1.length, .d true, .d true, .d true, .d true, .d true, .d true, .d true, .call ⟨true, []⟩ (.bool x9) [], .d true, .d true, .d true, .call ⟨true, []⟩ (.sl 2 (List.map e_u8_i64 x10)) [], .d true, .n x10.length, .d true, .d true] [⟨c23⟩, ⟨c23⟩, ⟨(len_map e_u8_i64 x10)⟩, ⟨c23⟩, ⟨(ok_part_Effect k x4.1 x4.2.1 x4.2.2.1 x4.2.2.2.1 _ e24)⟩, ⟨c23⟩, ⟨c23⟩, ⟨c21⟩, ⟨(ok_part_Right k x4.1 x4.2.1 x4.2.2.1 x4.2.2.2.1 _ e22)⟩, ⟨c21⟩, ⟨c21⟩, ⟨c20⟩, ⟨c20⟩, ⟨c20⟩, ⟨c19⟩, ⟨c19⟩, ⟨(len_map e_u8_i64 x5.2.2.2.2.1)⟩, ⟨c19⟩, ⟨c19⟩, ⟨c18⟩, ⟨c18⟩, ⟨c18⟩, ⟨c15⟩, ⟨c15⟩, ⟨(cells_map (e := e_u8_i64) e17 2 1 1 (by decide))⟩, ⟨c15⟩, ⟨c15⟩, ⟨c16⟩, ⟨(len_map e_u8_i64 x4.2.2.2.2.1)⟩, ⟨c15⟩, ⟨c15⟩, ⟨c14⟩, ⟨c14⟩, ⟨(len_map e_u8_i64 x4.2.2.2.2.1)⟩, ⟨c14⟩, ⟨c14⟩, ⟨(aT c12 c13)⟩, ⟨(aT c12 c13)⟩, ⟨(aT c12 c13)⟩, ⟨c9⟩, ⟨c9⟩, ⟨c9⟩, ⟨(cells_map (e := e_u8_i64) e11 2 0 2 (by decide))⟩, ⟨c9⟩, ⟨c10⟩, ⟨(len_map e_u8_i64 x3.2.2.2.2.1)⟩, ⟨c9⟩, ⟨c9⟩, ⟨c8⟩, ⟨c8⟩, ⟨(len_map e_u8_i64 x3.2.2.2.2.1)⟩, ⟨c8⟩, ⟨c8⟩, ⟨c7⟩, ⟨c7⟩, ⟨c7⟩, ⟨c6⟩, ⟨c6⟩, ⟨c6⟩, ⟨(ok_part_Decide k x4.1 x4.2.1 x4.2.2.1 x4.2.2.2.1 1 _ e5)⟩, ⟨(ok_part_Decide k x4.1 x4.2.1 x4.2.2.1 x4.2.2.2.1 2 _ e4)⟩, ⟨(ok_part_Decide k x3.1 x3.2.1 x3.2.2.1 x3.2.2.2.1 2 _ e3)⟩, ⟨(ok_part_Local k x2.1 x2.2.1 x2.2.2.1 x2.2.2.2.1 _ e2)⟩, ⟨(ok_part_Vote k x1.1 x1.2.1 x1.2.2.1 x1.2.2.2.1 true _ e1)⟩, ⟨(ok_part_Add k 0 [] false 0 3 5 _ e0)⟩] (by kernel_rfl)
                                · rw [if_neg c23] at h
                                  replace c23 := eqf c23
                                  obtain rfl := Option.some.inj h
                                  exact Tri.of (x := X9) mixed facts9 [.call ⟨true, [[(1, 2)]]⟩ (.tup [(.agg [(.int .i64 x1.1), (.sl 2 (List.map e_u8_i64 x1.2.1)), (.bool x1.2.2.1), (.int .i64 x1.2.2.2.1)]), (.int .i64 x1.2.2.2.2)]) [], .call ⟨true, []⟩ (.tup [(.agg [(.int .i64 x2.1), (.sl 2 (List.map e_u8_i64 x2.2.1)), (.bool x2.2.2.1), (.int .i64 x2.2.2.2.1)]), (.int .i64 x2.2.2.2.2)]) [], .call ⟨true, []⟩ (.tup [(.agg [(.int .i64 x3.1), (.sl 2 (List.map e_u8_i64 x3.2.1)), (.bool x3.2.2.1), (.int .i64 x3.2.2.2.1)]), (.sl 2 (List.map e_u8_i64 x3.2.2.2.2.1)), (.int .i64 x3.2.2.2.2.2)]) [], .call ⟨true, []⟩ (.tup [(.agg [(.int .i64 x4.1), (.sl 2 (List.map e_u8_i64 x4.2.1)), (.bool x4.2.2.1), (.int .i64 x4.2.2.2.1)]), (.sl 2 (List.map e_u8_i64 x4.2.2.2.2.1)), (.int .i64 x4.2.2.2.2.2)]) [], .call ⟨true, []⟩ (.tup [(.agg [(.int .i64 x5.1), (.sl 2 (List.map e_u8_i64 x5.2.1)), (.bool x5.2.2.1), (.int .i64 x5.2.2.2.1)]), (.sl 2 (List.map e_u8_i64 x5.2.2.2.2.1)), (.int .i64 x5.2.2.2.2.2)]) [], .call ⟨true, []⟩ (.tup [(.agg [(.int .i64 x6.1), (.sl 2 (List.map e_u8_i64 x6.2.1)), (.bool x6.2.2.1), (.int .i64 x6.2.2.2.1)]), (.sl 2 (List.map e_u8_i64 x6.2.2.2.2.1)), (.int .i64 x6.2.2.2.2.2)]) [], .d true, .d true, .d true, .d true, .d true, .d true, .d true, .d true, .n x3.2.2.2.2.1.length, .d true, .d true, .d true, .d true, .n x3.2.2.2.2.1.length, .d true, .row [(.int .u8 x7.1), (.int .i64 x7.2)], .d true, .d true, .d true, .d true, .d true, .d true, .d true, .d true, .n x4.2.2.2.2.1.length, .d true, .d true, .d true, .d true, .n x4.2.2.2.2.1.length, .d true, .d true, .row [(.int .i64 x8.2)], .d true, .d true, .d true, .d true, .d true, .d true, .d true, .n x5.2.2.2.2.1.length, .d true, .d true, .d true, .d true, .d true, .d true, .d true, .call ⟨true, []⟩ (.bool x9) [], .d true, .d false, .d false, .d false, .d false, .d false] [⟨c23⟩, ⟨c23⟩, ⟨c23⟩, ⟨c23⟩, ⟨c23⟩, ⟨c21⟩, ⟨(ok_part_Right k x4.1 x4.2.1 x4.2.2.1 x4.2.2.2.1 _ e22)⟩, ⟨c21⟩, ⟨c21⟩, ⟨c20⟩, ⟨c20⟩, ⟨c20⟩, ⟨c19⟩, ⟨c19⟩, ⟨(len_map e_u8_i64 x5.2.2.2.2.1)⟩, ⟨c19⟩, ⟨c19⟩, ⟨c18⟩, ⟨c18⟩, ⟨c18⟩, ⟨c15⟩, ⟨c15⟩, ⟨(cells_map (e := e_u8_i64) e17 2 1 1 (by decide))⟩, ⟨c15⟩, ⟨c15⟩, ⟨c16⟩, ⟨(len_map e_u8_i64 x4.2.2.2.2.1)⟩, ⟨c15⟩, ⟨c15⟩, ⟨c14⟩, ⟨c14⟩, ⟨(len_map e_u8_i64 x4.2.2.2.2.1)⟩, ⟨c14⟩, ⟨c14⟩, ⟨(aT c12 c13)⟩, ⟨(aT c12 c13)⟩, ⟨(aT c12 c13)⟩, ⟨c9⟩, ⟨c9⟩, ⟨c9⟩, ⟨(cells_map (e := e_u8_i64) e11 2 0 2 (by decide))⟩, ⟨c9⟩, ⟨c10⟩, ⟨(len_map e_u8_i64 x3.2.2.2.2.1)⟩, ⟨c9⟩, ⟨c9⟩, ⟨c8⟩, ⟨c8⟩, ⟨(len_map e_u8_i64 x3.2.2.2.2.1)⟩, ⟨c8⟩, ⟨c8⟩, ⟨c7⟩, ⟨c7⟩, ⟨c7⟩, ⟨c6⟩, ⟨c6⟩, ⟨c6⟩, ⟨(ok_part_Decide k x4.1 x4.2.1 x4.2.2.1 x4.2.2.2.1 1 _ e5)⟩, ⟨(ok_part_Decide k x4.1 x4.2.1 x4.2.2.1 x4.2.2.2.1 2 _ e4)⟩, ⟨(ok_part_Decide k x3.1 x3.2.1 x3.2.2.1 x3.2.2.2.1 2 _ e3)⟩, ⟨(ok_part_Local k x2.1 x2.2.1 x2.2.2.1 x2.2.2.2.1 _ e2)⟩, ⟨(ok_part_Vote k x1.1 x1.2.1 x1.2.2.1 x1.2.2.2.1 true _ e1)⟩, ⟨(ok_part_Add k 0 [] false 0 3 5 _ e0)⟩] (by kernel_rfl)
                              · rw [if_neg c21] at h
                                replace c21 := eqf c21
                                obtain rfl := Option.some.inj h
                                exact Tri.of (x := X9) mixed facts9 [.call ⟨true, [[(1, 2)]]⟩ (.tup [(.agg [(.int .i64 x1.1), (.sl 2 (List.map e_u8_i64 x1.2.1)), (.bool x1.2.2.1), (.int .i64 x1.2.2.2.1)]), (.int .i64 x1.2.2.2.2)]) [], .call ⟨true, []⟩ (.tup [(.agg [(.int .i64 x2.1), (.sl 2 (List.map e_u8_i64 x2.2.1)), (.bool x2.2.2.1), (.int .i64 x2.2.2.2.1)]), (.int .i64 x2.2.2.2.2)]) [], .call ⟨true, []⟩ (.tup [(.agg [(.int .i64 x3.1), (.sl 2 (List.map e_u8_i64 x3.2.1)), (.bool x3.2.2.1), (.int .i64 x3.2.2.2.1)]), (.sl 2 (List.map e_u8_i64 x3.2.2.2.2.1)), (.int .i64 x3.2.2.2.2.2)]) [], .call ⟨true, []⟩ (.tup [(.agg [(.int .i64 x4.1), (.sl 2 (List.map e_u8_i64 x4.2.1)), (.bool x4.2.2.1), (.int .i64 x4.2.2.2.1)]), (.sl 2 (List.map e_u8_i64 x4.2.2.2.2.1)), (.int .i64 x4.2.2.2.2.2)]) [], .call ⟨true, []⟩ (.tup [(.agg [(.int .i64 x5.1), (.sl 2 (List.map e_u8_i64 x5.2.1)), (.bool x5.2.2.1), (.int .i64 x5.2.2.2.1)]), (.sl 2 (List.map e_u8_i64 x5.2.2.2.2.1)), (.int .i64 x5.2.2.2.2.2)]) [], .call ⟨true, []⟩ (.tup [(.agg [(.int .i64 x6.1), (.sl 2 (List.map e_u8_i64 x6.2.1)), (.bool x6.2.2.1), (.int .i64 x6.2.2.2.1)]), (.sl 2 (List.map e_u8_i64 x6.2.2.2.2.1)), (.int .i64 x6.2.2.2.2.2)]) [], .d true, .d true, .d true, .d true, .d true, .d true, .d true, .d true, .n x3.2.2.2.2.1.length, .d true, .d true, .d true, .d true, .n x3.2.2.2.2.1.length, .d true, .row [(.int .u8 x7.1), (.int .i64 x7.2)], .d true, .d true, .d true, .d true, .d true, .d true, .d true, .d true, .n x4.2.2.2.2.1.length, .d true, .d true, .d true, .d true, .n x4.2.2.2.2.1.length, .d true, .d true, .row [(.int .i64 x8.2)], .d true, .d true, .d true, .d true, .d true, .d true, .d true, .n x5.2.2.2.2.1.length, .d true, .d true, .d true, .d true, .d true, .d false, .d false, .d false, .d false, .d false, .d false, .d false, .d false] [⟨(rfl : false = false)⟩, ⟨(rfl : false = false)⟩, ⟨(rfl : false = false)⟩, ⟨(rfl : false = false)⟩, ⟨(rfl : false = false)⟩, ⟨c21⟩, ⟨c21⟩, ⟨c21⟩, ⟨c20⟩, ⟨c20⟩, ⟨c20⟩, ⟨c19⟩, ⟨c19⟩, ⟨(len_map e_u8_i64 x5.2.2.2.2.1)⟩, ⟨c19⟩, ⟨c19⟩, ⟨c18⟩, ⟨c18⟩, ⟨c18⟩, ⟨c15⟩, ⟨c15⟩, ⟨(cells_map (e := e_u8_i64) e17 2 1 1 (by decide))⟩, ⟨c15⟩, ⟨c15⟩, ⟨c16⟩, ⟨(len_map e_u8_i64 x4.2.2.2.2.1)⟩, ⟨c15⟩, ⟨c15⟩, ⟨c14⟩, ⟨c14⟩, ⟨(len_map e_u8_i64 x4.2.2.2.2.1)⟩, ⟨c14⟩, ⟨c14⟩, ⟨(aT c12 c13)⟩, ⟨(aT c12 c13)⟩, ⟨(aT c12 c13)⟩, ⟨c9⟩, ⟨c9⟩, ⟨c9⟩, ⟨(cells_map (e := e_u8_i64) e11 2 0 2 (by decide))⟩, ⟨c9⟩, ⟨c10⟩, ⟨(len_map e_u8_i64 x3.2.2.2.2.1)⟩, ⟨c9⟩, ⟨c9⟩, ⟨c8⟩, ⟨c8⟩, ⟨(len_map e_u8_i64 x3.2.2.2.2.1)⟩, ⟨c8⟩, ⟨c8⟩, ⟨c7⟩, ⟨c7⟩, ⟨c7⟩, ⟨c6⟩, ⟨c6⟩, ⟨c6⟩, ⟨(ok_part_Decide k x4.1 x4.2.1 x4.2.2.1 x4.2.2.2.1 1 _ e5)⟩, ⟨(ok_part_Decide k x4.1 x4.2.1 x4.2.2.1 x4.2.2.2.1 2 _ e4)⟩, ⟨(ok_part_Decide k x3.1 x3.2.1 x3.2.2.1 x3.2.2.2.1 2 _ e3)⟩, ⟨(ok_part_Local k x2.1 x2.2.1 x2.2.2.1 x2.2.2.2.1 _ e2)⟩, ⟨(ok_part_Vote k x1.1 x1.2.1 x1.2.2.1 x1.2.2.2.1 true _ e1)⟩, ⟨(ok_part_Add k 0 [] false 0 3 5 _ e0)⟩] (by kernel_rfl)
                            · rw [if_neg c20] at h
                              replace c20 := eqf c20
                              obtain rfl := Option.some.inj h
                              exact Tri.of (x := X9) mixed facts9 [.call ⟨true, [[(1, 2)]]⟩ (.tup [(.agg [(.int .i64 x1.1), (.sl 2 (List.map e_u8_i64 x1.2.1)), (.bool x1.2.2.1), (.int .i64 x1.2.2.2.1)]), (.int .i64 x1.2.2.2.2)]) [], .call ⟨true, []⟩ (.tup [(.agg [(.int .i64 x2.1), (.sl 2 (List.map e_u8_i64 x2.2.1)), (.bool x2.2.2.1), (.int .i64 x2.2.2.2.1)]), (.int .i64 x2.2.2.2.2)]) [], .call ⟨true, []⟩ (.tup [(.agg [(.int .i64 x3.1), (.sl 2 (List.map e_u8_i64 x3.2.1)), (.bool x3.2.2.1), (.int .i64 x3.2.2.2.1)]), (.sl 2 (List.map e_u8_i64 x3.2.2.2.2.1)), (.int .i64 x3.2.2.2.2.2)]) [], .call ⟨true, []⟩ (.tup [(.agg [(.int .i64 x4.1), (.sl 2 (List.map e_u8_i64 x4.2.1)), (.bool x4.2.2.1), (.int .i64 x4.2.2.2.1)]), (.sl 2 (List.map e_u8_i64 x4.2.2.2.2.1)), (.int .i64 x4.2.2.2.2.2)]) [], .call ⟨true, []⟩ (.tup [(.agg [(.int .i64 x5.1), (.sl 2 (List.map e_u8_i64 x5.2.1)), (.bool x5.2.2.1), (.int .i64 x5.2.2.2.1)]), (.sl 2 (List.map e_u8_i64 x5.2.2.2.2.1)), (.int .i64 x5.2.2.2.2.2)]) [], .call ⟨true, []⟩ (.tup [(.agg [(.int .i64 x6.1), (.sl 2 (List.map e_u8_i64 x6.2.1)), (.bool x6.2.2.1), (.int .i64 x6.2.2.2.1)]), (.sl 2 (List.map e_u8_i64 x6.2.2.2.2.1)), (.int .i64 x6.2.2.2.2.2)]) [], .d true, .d true, .d true, .d true, .d true, .d true, .d true, .d true, .n x3.2.2.2.2.1.length, .d true, .d true, .d true, .d true, .n x3.2.2.2.2.1.length, .d true, .row [(.int .u8 x7.1), (.int .i64 x7.2)], .d true, .d true, .d true, .d true, .d true, .d true, .d true, .d true, .n x4.2.2.2.2.1.length, .d true, .d true, .d true, .d true, .n x4.2.2.2.2.1.length, .d true, .d true, .row [(.int .i64 x8.2)], .d true, .d true, .d true, .d true, .d true, .d true, .d true, .n x5.2.2.2.2.1.length, .d true, .d true, .d false, .d false, .d false, .d false, .d false, .d false, .d false, .d false, .d false, .d false, .d false] [⟨(rfl : false = false)⟩, ⟨(rfl : false = false)⟩, ⟨(rfl : false = false)⟩, ⟨(rfl : false = false)⟩, ⟨(rfl : false = false)⟩, ⟨(rfl : false = false)⟩, ⟨(rfl : false = false)⟩, ⟨(rfl : false = false)⟩, ⟨c20⟩, ⟨c20⟩, ⟨c20⟩, ⟨c19⟩, ⟨c19⟩, ⟨(len_map e_u8_i64 x5.2.2.2.2.1)⟩, ⟨c19⟩, ⟨c19⟩, ⟨c18⟩, ⟨c18⟩, ⟨c18⟩, ⟨c15⟩, ⟨c15⟩, ⟨(cells_map (e := e_u8_i64) e17 2 1 1 (by decide))⟩, ⟨c15⟩, ⟨c15⟩, ⟨c16⟩, ⟨(len_map e_u8_i64 x4.2.2.2.2.1)⟩, ⟨c15⟩, ⟨c15⟩, ⟨c14⟩, ⟨c14⟩, ⟨(len_map e_u8_i64 x4.2.2.2.2.1)⟩, ⟨c14⟩, ⟨c14⟩, ⟨(aT c12 c13)⟩, ⟨(aT c12 c13)⟩, ⟨(aT c12 c13)⟩, ⟨c9⟩, ⟨c9⟩, ⟨c9⟩, ⟨(cells_map (e := e_u8_i64) e11 2 0 2 (by decide))⟩, ⟨c9⟩, ⟨c10⟩, ⟨(len_map e_u8_i64 x3.2.2.2.2.1)⟩, ⟨c9⟩, ⟨c9⟩, ⟨c8⟩, ⟨c8⟩, ⟨(len_map e_u8_i64 x3.2.2.2.2.1)⟩, ⟨c8⟩, ⟨c8⟩, ⟨c7⟩, ⟨c7⟩, ⟨c7⟩, ⟨c6⟩, ⟨c6⟩, ⟨c6⟩, ⟨(ok_part_Decide k x4.1 x4.2.1 x4.2.2.1 x4.2.2.2.1 1 _ e5)⟩, ⟨(ok_part_Decide k x4.1 x4.2.1 x4.2.2.1 x4.2.2.2.1 2 _ e4)⟩, ⟨(ok_part_Decide k x3.1 x3.2.1 x3.2.2.1 x3.2.2.2.1 2 _ e3)⟩, ⟨(ok_part_Local k x2.1 x2.2.1 x2.2.2.1 x2.2.2.2.1 _ e2)⟩, ⟨(ok_part_Vote k x1.1 x1.2.1 x1.2.2.1 x1.2.2.2.1 true _ e1)⟩, ⟨(ok_part_Add k 0 [] false 0 3 5 _ e0)⟩] (by kernel_rfl)
                          · rw [if_neg c19] at h
                            replace c19 := eqf c19
                            obtain rfl := Option.some.inj h
                            exact Tri.of (x := X9) mixed facts9 [.call ⟨true, [[(1, 2)]]⟩ (.tup [(.agg [(.int .i64 x1.1), (.sl 2 (List.map e_u8_i64 x1.2.1)), (.bool x1.2.2.1), (.int .i64 x1.2.2.2.1)]), (.int .i64 x1.2.2.2.2)]) [], .call ⟨true, []⟩ (.tup [(.agg [(.int .i64 x2.1), (.sl 2 (List.map e_u8_i64 x2.2.1)), (.bool x2.2.2.1), (.int .i64 x2.2.2.2.1)]), (.int .i64 x2.2.2.2.2)]) [], .call ⟨true, []⟩ (.tup [(.agg [(.int .i64 x3.1), (.sl 2 (List.map e_u8_i64 x3.2.1)), (.bool x3.2.2.1), (.int .i64 x3.2.2.2.1)]), (.sl 2 (List.map e_u8_i64 x3.2.2.2.2.1)), (.int .i64 x3.2.2.2.2.2)]) [], .call ⟨true, []⟩ (.tup [(.agg [(.int .i64 x4.1), (.sl 2 (List.map e_u8_i64 x4.2.1)), (.bool x4.2.2.1), (.int .i64 x4.2.2.2.1)]), (.sl 2 (List.map e_u8_i64 x4.2.2.2.2.1)), (.int .i64 x4.2.2.2.2.2)]) [], .call ⟨true, []⟩ (.tup [(.agg [(.int .i64 x5.1), (.sl 2 (List.map e_u8_i64 x5.2.1)), (.bool x5.2.2.1), (.int .i64 x5.2.2.2.1)]), (.sl 2 (List.map e_u8_i64 x5.2.2.2.2.1)), (.int .i64 x5.2.2.2.2.2)]) [], .call ⟨true, []⟩ (.tup [(.agg [(.int .i64 x6.1), (.sl 2 (List.map e_u8_i64 x6.2.1)), (.bool x6.2.2.1), (.int .i64 x6.2.2.2.1)]), (.sl 2 (List.map e_u8_i64 x6.2.2.2.2.1)), (.int .i64 x6.2.2.2.2.2)]) [], .d true, .d true, .d true, .d true, .d true, .d true, .d true, .d true, .n x3.2.2.2.2.1.length, .d true, .d true, .d true, .d true, .n x3.2.2.2.2.1.length, .d true, .row [(.int .u8 x7.1), (.int .i64 x7.2)], .d true, .d true, .d true, .d true, .d true, .d true, .d true, .d true, .n x4.2.2.2.2.1.length, .d true, .d true, .d true, .d true, .n x4.2.2.2.2.1.length, .d true, .d true, .row [(.int .i64 x8.2)], .d true, .d true, .d true, .d true, .d true, .d false, .d false, .d false, .d false, .d false, .d false, .d false, .d false, .d false, .d false, .d false, .d false, .d false, .d false, .d false] [⟨(rfl : false = false)⟩, ⟨(rfl : false = false)⟩, ⟨(rfl : false = false)⟩, ⟨(rfl : false = false)⟩, ⟨(rfl : false = false)⟩, ⟨(rfl : false = false)⟩, ⟨(rfl : false = false)⟩, ⟨(rfl : false = false)⟩, ⟨(rfl : false = false)⟩, ⟨(rfl : false = false)⟩, ⟨(rfl : false = false)⟩, ⟨c19⟩, ⟨c19⟩, ⟨c19⟩, ⟨c19⟩, ⟨c18⟩, ⟨c18⟩, ⟨c18⟩, ⟨c15⟩, ⟨c15⟩, ⟨(cells_map (e := e_u8_i64) e17 2 1 1 (by decide))⟩, ⟨c15⟩, ⟨c15⟩, ⟨c16⟩, ⟨(len_map e_u8_i64 x4.2.2.2.2.1)⟩, ⟨c15⟩, ⟨c15⟩, ⟨c14⟩, ⟨c14⟩, ⟨(len_map e_u8_i64 x4.2.2.2.2.1)⟩, ⟨c14⟩, ⟨c14⟩, ⟨(aT c12 c13)⟩, ⟨(aT c12 c13)⟩, ⟨(aT c12 c13)⟩, ⟨c9⟩, ⟨c9⟩, ⟨c9⟩, ⟨(cells_map (e := e_u8_i64) e11 2 0 2 (by decide))⟩, ⟨c9⟩, ⟨c10⟩, ⟨(len_map e_u8_i64 x3.2.2.2.2.1)⟩, ⟨c9⟩, ⟨c9⟩, ⟨c8⟩, ⟨c8⟩, ⟨(len_map e_u8_i64 x3.2.2.2.2.1)⟩, ⟨c8⟩, ⟨c8⟩, ⟨c7⟩, ⟨c7⟩, ⟨c7⟩, ⟨c6⟩, ⟨c6⟩, ⟨c6⟩, ⟨(ok_part_Decide k x4.1 x4.2.1 x4.2.2.1 x4.2.2.2.1 1 _ e5)⟩, ⟨(ok_part_Decide k x4.1 x4.2.1 x4.2.2.1 x4.2.2.2.1 2 _ e4)⟩, ⟨(ok_part_Decide k x3.1 x3.2.1 x3.2.2.1 x3.2.2.2.1 2 _ e3)⟩, ⟨(ok_part_Local k x2.1 x2.2.1 x2.2.2.1 x2.2.2.2.1 _ e2)⟩, ⟨(ok_part_Vote k x1.1 x1.2.1 x1.2.2.1 x1.2.2.2.1 true _ e1)⟩, ⟨(ok_part_Add k 0 [] false 0 3 5 _ e0)⟩] (by kernel_rfl)
                        · rw [if_neg c18] at h
                          replace c18 := eqf c18
                          obtain rfl := Option.some.inj h
                          exact Tri.of (x := X9) mixed facts9 [.call ⟨true, [[(1, 2)]]⟩ (.tup [(.agg [(.int .i64 x1.1), (.sl 2 (List.map e_u8_i64 x1.2.1)), (.bool x1.2.2.1), (.int .i64 x1.2.2.2.1)]), (.int .i64 x1.2.2.2.2)]) [], .call ⟨true, []⟩ (.tup [(.agg [(.int .i64 x2.1), (.sl 2 (List.map e_u8_i64 x2.2.1)), (.bool x2.2.2.1), (.int .i64 x2.2.2.2.1)]), (.int .i64 x2.2.2.2.2)]) [], .call ⟨true, []⟩ (.tup [(.agg [(.int .i64 x3.1), (.sl 2 (List.map e_u8_i64 x3.2.1)), (.bool x3.2.2.1), (.int .i64 x3.2.2.2.1)]), (.sl 2 (List.map e_u8_i64 x3.2.2.2.2.1)), (.int .i64 x3.2.2.2.2.2)]) [], .call ⟨true, []⟩ (.tup [(.agg [(.int .i64 x4.1), (.sl 2 (List.map e_u8_i64 x4.2.1)), (.bool x4.2.2.1), (.int .i64 x4.2.2.2.1)]), (.sl 2 (List.map e_u8_i64 x4.2.2.2.2.1)), (.int .i64 x4.2.2.2.2.2)]) [], .call ⟨true, []⟩ (.tup [(.agg [(.int .i64 x5.1), (.sl 2 (List.map e_u8_i64 x5.2.1)), (.bool x5.2.2.1), (.int .i64 x5.2.2.2.1)]), (.sl 2 (List.map e_u8_i64 x5.2.2.2.2.1)), (.int .i64 x5.2.2.2.2.2)]) [], .call ⟨true, []⟩ (.tup [(.agg [(.int .i64 x6.1), (.sl 2 (List.map e_u8_i64 x6.2.1)), (.bool x6.2.2.1), (.int .i64 x6.2.2.2.1)]), (.sl 2 (List.map e_u8_i64 x6.2.2.2.2.1)), (.int .i64 x6.2.2.2.2.2)]) [], .d true, .d true, .d true, .d true, .d true, .d true, .d true, .d true, .n x3.2.2.2.2.1.length, .d true, .d true, .d true, .d true, .n x3.2.2.2.2.1.length, .d true, .row [(.int .u8 x7.1), (.int .i64 x7.2)], .d true, .d true, .d true, .d true, .d true, .d true, .d true, .d true, .n x4.2.2.2.2.1.length, .d true, .d true, .d true, .d true, .n x4.2.2.2.2.1.length, .d true, .d true, .row [(.int .i64 x8.2)], .d true, .d true, .d false, .d false, .d false, .d false, .d false, .d false, .d false, .d false, .d false, .d false, .d false, .d false, .d false, .d false, .d false, .d false, .d false, .d false] [⟨(rfl : false = false)⟩, ⟨(rfl : false = false)⟩, ⟨(rfl : false = false)⟩, ⟨(rfl : false = false)⟩, ⟨(rfl : false = false)⟩, ⟨(rfl : false = false)⟩, ⟨(rfl : false = false)⟩, ⟨(rfl : false = false)⟩, ⟨(rfl : false = false)⟩, ⟨(rfl : false = false)⟩, ⟨(rfl : false = false)⟩, ⟨(rfl : false = false)⟩, ⟨(rfl : false = false)⟩, ⟨(rfl : false = false)⟩, ⟨(rfl : false = false)⟩, ⟨c18⟩, ⟨c18⟩, ⟨c18⟩, ⟨c15⟩, ⟨c15⟩, ⟨(cells_map (e := e_u8_i64) e17 2 1 1 (by decide))⟩, ⟨c15⟩, ⟨c15⟩, ⟨c16⟩, ⟨(len_map e_u8_i64 x4.2.2.2.2.1)⟩, ⟨c15⟩, ⟨c15⟩, ⟨c14⟩, ⟨c14⟩, ⟨(len_map e_u8_i64 x4.2.2.2.2.1)⟩, ⟨c14⟩, ⟨c14⟩, ⟨(aT c12 c13)⟩, ⟨(aT c12 c13)⟩, ⟨(aT c12 c13)⟩, ⟨c9⟩, ⟨c9⟩, ⟨c9⟩, ⟨(cells_map (e := e_u8_i64) e11 2 0 2 (by decide))⟩, ⟨c9⟩, ⟨c10⟩, ⟨(len_map e_u8_i64 x3.2.2.2.2.1)⟩, ⟨c9⟩, ⟨c9⟩, ⟨c8⟩, ⟨c8⟩, ⟨(len_map e_u8_i64 x3.2.2.2.2.1)⟩, ⟨c8⟩, ⟨c8⟩, ⟨c7⟩, ⟨c7⟩, ⟨c7⟩, ⟨c6⟩, ⟨c6⟩, ⟨c6⟩, ⟨(ok_part_Decide k x4.1 x4.2.1 x4.2.2.1 x4.2.2.2.1 1 _ e5)⟩, ⟨(ok_part_Decide k x4.1 x4.2.1 x4.2.2.1 x4.2.2.2.1 2 _ e4)⟩, ⟨(ok_part_Decide k x3.1 x3.2.1 x3.2.2.1 x3.2.2.2.1 2 _ e3)⟩, ⟨(ok_part_Local k x2.1 x2.2.1 x2.2.2.1 x2.2.2.2.1 _ e2)⟩, ⟨(ok_part_Vote k x1.1 x1.2.1 x1.2.2.1 x1.2.2.2.1 true _ e1)⟩, ⟨(ok_part_Add k 0 [] false 0 3 5 _ e0)⟩] (by kernel_rfl)
                      · rw [if_neg c16] at h
                        replace c16 := eqf c16
                        cases h
                    · rw [if_neg c15] at h
                      replace c15 := eqf c15
                      obtain rfl := Option.some.inj h
                      exact Tri.of (x := X9) mixed facts9 [.call ⟨true, [[(1, 2)]]⟩ (.tup [(.agg [(.int .i64 x1.1), (.sl 2 (List.map e_u8_i64 x1.2.1)), (.bool x1.2.2.1), (.int .i64 x1.2.2.2.1)]), (.int .i64 x1.2.2.2.2)]) [], .call ⟨true, []⟩ (.tup [(.agg [(.int .i64 x2.1), (.sl 2 (List.map e_u8_i64 x2.2.1)), (.bool x2.2.2.1), (.int .i64 x2.2.2.2.1)]), (.int .i64 x2.2.2.2.2)]) [], .call ⟨true, []⟩ (.tup [(.agg [(.int .i64 x3.1), (.sl 2 (List.map e_u8_i64 x3.2.1)), (.bool x3.2.2.1), (.int .i64 x3.2.2.2.1)]), (.sl 2 (List.map e_u8_i64 x3.2.2.2.2.1)), (.int .i64 x3.2.2.2.2.2)]) [], .call ⟨true, []⟩ (.tup [(.agg [(.int .i64 x4.1), (.sl 2 (List.map e_u8_i64 x4.2.1)), (.bool x4.2.2.1), (.int .i64 x4.2.2.2.1)]), (.sl 2 (List.map e_u8_i64 x4.2.2.2.2.1)), (.int .i64 x4.2.2.2.2.2)]) [], .call ⟨true, []⟩ (.tup [(.agg [(.int .i64 x5.1), (.sl 2 (List.map e_u8_i64 x5.2.1)), (.bool x5.2.2.1), (.int .i64 x5.2.2.2.1)]), (.sl 2 (List.map e_u8_i64 x5.2.2.2.2.1)), (.int .i64 x5.2.2.2.2.2)]) [], .call ⟨true, []⟩ (.tup [(.agg [(.int .i64 x6.1), (.sl 2 (List.map e_u8_i64 x6.2.1)), (.bool x6.2.2.1), (.int .i64 x6.2.2.2.1)]), (.sl 2 (List.map e_u8_i64 x6.2.2.2.2.1)), (.int .i64 x6.2.2.2.2.2)]) [], .d true, .d true, .d true, .d true, .d true, .d true, .d true, .d true, .n x3.2.2.2.2.1.length, .d true, .d true, .d true, .d true, .n x3.2.2.2.2.1.length, .d true, .row [(.int .u8 x7.1), (.int .i64 x7.2)], .d true, .d true, .d true, .d true, .d true, .d true, .d true, .d true, .n x4.2.2.2.2.1.length, .d true, .d true, .d false, .d false, .d false, .d false, .d false, .d false, .d false, .d false, .d false, .d false, .d false, .d false, .d false, .d false, .d false, .d false, .d false, .d false, .d false, .d false, .d false, .d false, .d false, .d false] [⟨(rfl : false = false)⟩, ⟨(rfl : false = false)⟩, ⟨(rfl : false = false)⟩, ⟨(rfl : false = false)⟩, ⟨(rfl : false = false)⟩, ⟨(rfl : false = false)⟩, ⟨(rfl : false = false)⟩, ⟨(rfl : false = false)⟩, ⟨(rfl : false = false)⟩, ⟨(rfl : false = false)⟩, ⟨(rfl : false = false)⟩, ⟨(rfl : false = false)⟩, ⟨(rfl : false = false)⟩, ⟨(rfl : false = false)⟩, ⟨(rfl : false = false)⟩, ⟨(rfl : false = false)⟩, ⟨(rfl : false = false)⟩, ⟨(rfl : false = false)⟩, ⟨c15⟩, ⟨c15⟩, ⟨c15⟩, ⟨c15⟩, ⟨c15⟩, ⟨c15⟩, ⟨c14⟩, ⟨c14⟩, ⟨(len_map e_u8_i64 x4.2.2.2.2.1)⟩, ⟨c14⟩, ⟨c14⟩, ⟨(aT c12 c13)⟩, ⟨(aT c12 c13)⟩, ⟨(aT c12 c13)⟩, ⟨c9⟩, ⟨c9⟩, ⟨c9⟩, ⟨(cells_map (e := e_u8_i64) e11 2 0 2 (by decide))⟩, ⟨c9⟩, ⟨c10⟩, ⟨(len_map e_u8_i64 x3.2.2.2.2.1)⟩, ⟨c9⟩, ⟨c9⟩, ⟨c8⟩, ⟨c8⟩, ⟨(len_map e_u8_i64 x3.2.2.2.2.1)⟩, ⟨c8⟩, ⟨c8⟩, ⟨c7⟩, ⟨c7⟩, ⟨c7⟩, ⟨c6⟩, ⟨c6⟩, ⟨c6⟩, ⟨(ok_part_Decide k x4.1 x4.2.1 x4.2.2.1 x4.2.2.2.1 1 _ e5)⟩, ⟨(ok_part_Decide k x4.1 x4.2.1 x4.2.2.1 x4.2.2.2.1 2 _ e4)⟩, ⟨(ok_part_Decide k x3.1 x3.2.1 x3.2.2.1 x3.2.2.2.1 2 _ e3)⟩, ⟨(ok_part_Local k x2.1 x2.2.1 x2.2.2.1 x2.2.2.2.1 _ e2)⟩, ⟨(ok_part_Vote k x1.1 x1.2.1 x1.2.2.1 x1.2.2.2.1 true _ e1)⟩, ⟨(ok_part_Add k 0 [] false 0 3 5 _ e0)⟩] (by kernel_rfl)
                  · rw [if_neg c14] at h
                    replace c14 := eqf c14
                    obtain rfl := Option.some.inj h
                    exact Tri.of (x := X9) mixed facts9 [.call ⟨true, [[(1, 2)]]⟩ (.tup [(.agg [(.int .i64 x1.1), (.sl 2 (List.map e_u8_i64 x1.2.1)), (.bool x1.2.2.1), (.int .i64 x1.2.2.2.1)]), (.int .i64 x1.2.2.2.2)]) [], .call ⟨true, []⟩ (.tup [(.agg [(.int .i64 x2.1), (.sl 2 (List.map e_u8_i64 x2.2.1)), (.bool x2.2.2.1), (.int .i64 x2.2.2.2.1)]), (.int .i64 x2.2.2.2.2)]) [], .call ⟨true, []⟩ (.tup [(.agg [(.int .i64 x3.1), (.sl 2 (List.map e_u8_i64 x3.2.1)), (.bool x3.2.2.1), (.int .i64 x3.2.2.2.1)]), (.sl 2 (List.map e_u8_i64 x3.2.2.2.2.1)), (.int .i64 x3.2.2.2.2.2)]) [], .call ⟨true, []⟩ (.tup [(.agg [(.int .i64 x4.1), (.sl 2 (List.map e_u8_i64 x4.2.1)), (.bool x4.2.2.1), (.int .i64 x4.2.2.2.1)]), (.sl 2 (List.map e_u8_i64 x4.2.2.2.2.1)), (.int .i64 x4.2.2.2.2.2)]) [], .call ⟨true, []⟩ (.tup [(.agg [(.int .i64 x5.1), (.sl 2 (List.map e_u8_i64 x5.2.1)), (.bool x5.2.2.1), (.int .i64 x5.2.2.2.1)]), (.sl 2 (List.map e_u8_i64 x5.2.2.2.2.1)), (.int .i64 x5.2.2.2.2.2)]) [], .call ⟨true, []⟩ (.tup [(.agg [(.int .i64 x6.1), (.sl 2 (List.map e_u8_i64 x6.2.1)), (.bool x6.2.2.1), (.int .i64 x6.2.2.2.1)]), (.sl 2 (List.map e_u8_i64 x6.2.2.2.2.1)), (.int .i64 x6.2.2.2.2.2)]) [], .d true, .d true, .d true, .d true, .d true, .d true, .d true, .d true, .n x3.2.2.2.2.1.length, .d true, .d true, .d true, .d true, .n x3.2.2.2.2.1.length, .d true, .row [(.int .u8 x7.1), (.int .i64 x7.2)], .d true, .d true, .d true, .d true, .d true, .d true, .d false, .d false, .d false, .d false, .d false, .d false, .d false, .d false, .d false, .d false, .d false, .d false, .d false, .d false, .d false, .d false, .d false, .d false, .d false, .d false, .d false, .d false, .d false, .d false, .d false, .d false, .d false, .d false] [⟨(rfl : false = false)⟩, ⟨(rfl : false = false)⟩, ⟨(rfl : false = false)⟩, ⟨(rfl : false = false)⟩, ⟨(rfl : false = false)⟩, ⟨(rfl : false = false)⟩, ⟨(rfl : false = false)⟩, ⟨(rfl : false = false)⟩, ⟨(rfl : false = false)⟩, ⟨(rfl : false = false)⟩, ⟨(rfl : false = false)⟩, ⟨(rfl : false = false)⟩, ⟨(rfl : false = false)⟩, ⟨(rfl : false = false)⟩, ⟨(rfl : false = false)⟩, ⟨(rfl : false = false)⟩, ⟨(rfl : false = false)⟩, ⟨(rfl : false = false)⟩, ⟨(rfl : false = false)⟩, ⟨(rfl : false = false)⟩, ⟨(rfl : false = false)⟩, ⟨(rfl : false = false)⟩, ⟨(rfl : false = false)⟩, ⟨(rfl : false = false)⟩, ⟨c14⟩, ⟨c14⟩, ⟨c14⟩, ⟨c14⟩, ⟨(aT c12 c13)⟩, ⟨(aT c12 c13)⟩, ⟨(aT c12 c13)⟩, ⟨c9⟩, ⟨c9⟩, ⟨c9⟩, ⟨(cells_map (e := e_u8_i64) e11 2 0 2 (by decide))⟩, ⟨c9⟩, ⟨c10⟩, ⟨(len_map e_u8_i64 x3.2.2.2.2.1)⟩, ⟨c9⟩, ⟨c9⟩, ⟨c8⟩, ⟨c8⟩, ⟨(len_map e_u8_i64 x3.2.2.2.2.1)⟩, ⟨c8⟩, ⟨c8⟩, ⟨c7⟩, ⟨c7⟩, ⟨c7⟩, ⟨c6⟩, ⟨c6⟩, ⟨c6⟩, ⟨(ok_part_Decide k x4.1 x4.2.1 x4.2.2.1 x4.2.2.2.1 1 _ e5)⟩, ⟨(ok_part_Decide k x4.1 x4.2.1 x4.2.2.1 x4.2.2.2.1 2 _ e4)⟩, ⟨(ok_part_Decide k x3.1 x3.2.1 x3.2.2.1 x3.2.2.2.1 2 _ e3)⟩, ⟨(ok_part_Local k x2.1 x2.2.1 x2.2.2.1 x2.2.2.2.1 _ e2)⟩, ⟨(ok_part_Vote k x1.1 x1.2.1 x1.2.2.1 x1.2.2.2.1 true _ e1)⟩, ⟨(ok_part_Add k 0 [] false 0 3 5 _ e0)⟩] (by kernel_rfl)
                · rw [if_neg c13] at h
                  replace c13 := eqf c13
                  obtain rfl := Option.some.inj h
                  exact Tri.of (x := X9) mixed facts9 [.call ⟨true, [[(1, 2)]]⟩ (.tup [(.agg [(.int .i64 x1.1), (.sl 2 (List.map e_u8_i64 x1.2.1)), (.bool x1.2.2.1), (.int .i64 x1.2.2.2.1)]), (.int .i64 x1.2.2.2.2)]) [], .call ⟨true, []⟩ (.tup [(.agg [(.int .i64 x2.1), (.sl 2 (List.map e_u8_i64 x2.2.1)), (.bool x2.2.2.1), (.int .i64 x2.2.2.2.1)]), (.int .i64 x2.2.2.2.2)]) [], .call ⟨true, []⟩ (.tup [(.agg [(.int .i64 x3.1), (.sl 2 (List.map e_u8_i64 x3.2.1)), (.bool x3.2.2.1), (.int .i64 x3.2.2.2.1)]), (.sl 2 (List.map e_u8_i64 x3.2.2.2.2.1)), (.int .i64 x3.2.2.2.2.2)]) [], .call ⟨true, []⟩ (.tup [(.agg [(.int .i64 x4.1), (.sl 2 (List.map e_u8_i64 x4.2.1)), (.bool x4.2.2.1), (.int .i64 x4.2.2.2.1)]), (.sl 2 (List.map e_u8_i64 x4.2.2.2.2.1)), (.int .i64 x4.2.2.2.2.2)]) [], .call ⟨true, []⟩ (.tup [(.agg [(.int .i64 x5.1), (.sl 2 (List.map e_u8_i64 x5.2.1)), (.bool x5.2.2.1), (.int .i64 x5.2.2.2.1)]), (.sl 2 (List.map e_u8_i64 x5.2.2.2.2.1)), (.int .i64 x5.2.2.2.2.2)]) [], .call ⟨true, []⟩ (.tup [(.agg [(.int .i64 x6.1), (.sl 2 (List.map e_u8_i64 x6.2.1)), (.bool x6.2.2.1), (.int .i64 x6.2.2.2.1)]), (.sl 2 (List.map e_u8_i64 x6.2.2.2.2.1)), (.int .i64 x6.2.2.2.2.2)]) [], .d true, .d true, .d true, .d true, .d true, .d true, .d true, .d true, .n x3.2.2.2.2.1.length, .d true, .d true, .d true, .d true, .n x3.2.2.2.2.1.length, .d true, .row [(.int .u8 x7.1), (.int .i64 x7.2)], .d true, .d true, .d true, .d false, .d false, .d false, .d false, .d false, .d false, .d false, .d false, .d false, .d false, .d false, .d false, .d false, .d false, .d false, .d false, .d false, .d false, .d false, .d false, .d false, .d false, .d false, .d false, .d false, .d false, .d false, .d false, .d false, .d false, .d false] [⟨(rfl : false = false)⟩, ⟨(rfl : false = false)⟩, ⟨(rfl : false = false)⟩, ⟨(rfl : false = false)⟩, ⟨(rfl : false = false)⟩, ⟨(rfl : false = false)⟩, ⟨(rfl : false = false)⟩, ⟨(rfl : false = false)⟩, ⟨(rfl : false = false)⟩, ⟨(rfl : false = false)⟩, ⟨(rfl : false = false)⟩, ⟨(rfl : false = false)⟩, ⟨(rfl : false = false)⟩, ⟨(rfl : false = false)⟩, ⟨(rfl : false = false)⟩, ⟨(rfl : false = false)⟩, ⟨(rfl : false = false)⟩, ⟨(rfl : false = false)⟩, ⟨(rfl : false = false)⟩, ⟨(rfl : false = false)⟩, ⟨(rfl : false = false)⟩, ⟨(rfl : false = false)⟩, ⟨(rfl : false = false)⟩, ⟨(rfl : false = false)⟩, ⟨(rfl : false = false)⟩, ⟨(rfl : false = false)⟩, ⟨(rfl : false = false)⟩, ⟨(rfl : false = false)⟩, ⟨(aF2 c12 c13)⟩, ⟨(aF2 c12 c13)⟩, ⟨(aF2 c12 c13)⟩, ⟨c9⟩, ⟨c9⟩, ⟨c9⟩, ⟨(cells_map (e := e_u8_i64) e11 2 0 2 (by decide))⟩, ⟨c9⟩, ⟨c10⟩, ⟨(len_map e_u8_i64 x3.2.2.2.2.1)⟩, ⟨c9⟩, ⟨c9⟩, ⟨c8⟩, ⟨c8⟩, ⟨(len_map e_u8_i64 x3.2.2.2.2.1)⟩, ⟨c8⟩, ⟨c8⟩, ⟨c7⟩, ⟨c7⟩, ⟨c7⟩, ⟨c6⟩, ⟨c6⟩, ⟨c6⟩, ⟨(ok_part_Decide k x4.1 x4.2.1 x4.2.2.1 x4.2.2.2.1 1 _ e5)⟩, ⟨(ok_part_Decide k x4.1 x4.2.1 x4.2.2.1 x4.2.2.2.1 2 _ e4)⟩, ⟨(ok_part_Decide k x3.1 x3.2.1 x3.2.2.1 x3.2.2.2.1 2 _ e3)⟩, ⟨(ok_part_Local k x2.1 x2.2.1 x2.2.2.1 x2.2.2.2.1 _ e2)⟩, ⟨(ok_part_Vote k x1.1 x1.2.1 x1.2.2.1 x1.2.2.2.1 true _ e1)⟩, ⟨(ok_part_Add k 0 [] false 0 3 5 _ e0)⟩] (by kernel_rfl)
              · rw [if_neg c12] at h
                replace c12 := eqf c12
                obtain rfl := Option.some.inj h
                exact Tri.of (x := X9) mixed facts9 [.call ⟨true, [[(1, 2)]]⟩ (.tup [(.agg [(.int .i64 x1.1), (.sl 2 (List.map e_u8_i64 x1.2.1)), (.bool x1.2.2.1), (.int .i64 x1.2.2.2.1)]), (.int .i64 x1.2.2.2.2)]) [], .call ⟨true, []⟩ (.tup [(.agg [(.int .i64 x2.1), (.sl 2 (List.map e_u8_i64 x2.2.1)), (.bool x2.2.2.1), (.int .i64 x2.2.2.2.1)]), (.int .i64 x2.2.2.2.2)]) [], .call ⟨true, []⟩ (.tup [(.agg [(.int .i64 x3.1), (.sl 2 (List.map e_u8_i64 x3.2.1)), (.bool x3.2.2.1), (.int .i64 x3.2.2.2.1)]), (.sl 2 (List.map e_u8_i64 x3.2.2.2.2.1)), (.int .i64 x3.2.2.2.2.2)]) [], .call ⟨true, []⟩ (.tup [(.agg [(.int .i64 x4.1), (.sl 2 (List.map e_u8_i64 x4.2.1)), (.bool x4.2.2.1), (.int .i64 x4.2.2.2.1)]), (.sl 2 (List.map e_u8_i64 x4.2.2.2.2.1)), (.int .i64 x4.2.2.2.2.2)]) [], .call ⟨true, []⟩ (.tup [(.agg [(.int .i64 x5.1), (.sl 2 (List.map e_u8_i64 x5.2.1)), (.bool x5.2.2.1), (.int .i64 x5.2.2.2.1)]), (.sl 2 (List.map e_u8_i64 x5.2.2.2.2.1)), (.int .i64 x5.2.2.2.2.2)]) [], .call ⟨true, []⟩ (.tup [(.agg [(.int .i64 x6.1), (.sl 2 (List.map e_u8_i64 x6.2.1)), (.bool x6.2.2.1), (.int .i64 x6.2.2.2.1)]), (.sl 2 (List.map e_u8_i64 x6.2.2.2.2.1)), (.int .i64 x6.2.2.2.2.2)]) [], .d true, .d true, .d true, .d true, .d true, .d true, .d true, .d true, .n x3.2.2.2.2.1.length, .d true, .d true, .d true, .d true, .n x3.2.2.2.2.1.length, .d true, .row [(.int .u8 x7.1), (.int .i64 x7.2)], .d true, .d true, .d true, .d false, .d false, .d false, .d false, .d false, .d false, .d false, .d false, .d false, .d false, .d false, .d false, .d false, .d false, .d false, .d false, .d false, .d false, .d false, .d false, .d false, .d false, .d false, .d false, .d false, .d false, .d false, .d false, .d false, .d false, .d false] [⟨(rfl : false = false)⟩, ⟨(rfl : false = false)⟩, ⟨(rfl : false = false)⟩, ⟨(rfl : false = false)⟩, ⟨(rfl : false = false)⟩, ⟨(rfl : false = false)⟩, ⟨(rfl : false = false)⟩, ⟨(rfl : false = false)⟩, ⟨(rfl : false = false)⟩, ⟨(rfl : false = false)⟩, ⟨(rfl : false = false)⟩, ⟨(rfl : false = false)⟩, ⟨(rfl : false = false)⟩, ⟨(rfl : false = false)⟩, ⟨(rfl : false = false)⟩, ⟨(rfl : false = false)⟩, ⟨(rfl : false = false)⟩, ⟨(rfl : false = false)⟩, ⟨(rfl : false = false)⟩, ⟨(rfl : false = false)⟩, ⟨(rfl : false = false)⟩, ⟨(rfl : false = false)⟩, ⟨(rfl : false = false)⟩, ⟨(rfl : false = false)⟩, ⟨(rfl : false = false)⟩, ⟨(rfl : false = false)⟩, ⟨(rfl : false = false)⟩, ⟨(rfl : false = false)⟩, ⟨(aF1 (b := eqI x7.2 5) c12)⟩, ⟨(aF1 (b := eqI x7.2 5) c12)⟩, ⟨(aF1 (b := eqI x7.2 5) c12)⟩, ⟨c9⟩, ⟨c9⟩, ⟨c9⟩, ⟨(cells_map (e := e_u8_i64) e11 2 0 2 (by decide))⟩, ⟨c9⟩, ⟨c10⟩, ⟨(len_map e_u8_i64 x3.2.2.2.2.1)⟩, ⟨c9⟩, ⟨c9⟩, ⟨c8⟩, ⟨c8⟩, ⟨(len_map e_u8_i64 x3.2.2.2.2.1)⟩, ⟨c8⟩, ⟨c8⟩, ⟨c7⟩, ⟨c7⟩, ⟨c7⟩, ⟨c6⟩, ⟨c6⟩, ⟨c6⟩, ⟨(ok_part_Decide k x4.1 x4.2.1 x4.2.2.1 x4.2.2.2.1 1 _ e5)⟩, ⟨(ok_part_Decide k x4.1 x4.2.1 x4.2.2.1 x4.2.2.2.1 2 _ e4)⟩, ⟨(ok_part_Decide k x3.1 x3.2.1 x3.2.2.1 x3.2.2.2.1 2 _ e3)⟩, ⟨(ok_part_Local k x2.1 x2.2.1 x2.2.2.1 x2.2.2.2.1 _ e2)⟩, ⟨(ok_part_Vote k x1.1 x1.2.1 x1.2.2.1 x1.2.2.2.1 true _ e1)⟩, ⟨(ok_part_Add k 0 [] false 0 3 5 _ e0)⟩] (by kernel_rfl)
            · rw [if_neg c10] at h
              replace c10 := eqf c10
              cases h
          · rw [if_neg c9] at h
            replace c9 := eqf c9
            obtain rfl := Option.some.inj h
            exact Tri.of (x := X9) mixed facts9 [.call ⟨true, [[(1, 2)]]⟩ (.tup [(.agg [(.int .i64 x1.1), (.sl 2 (List.map e_u8_i64 x1.2.1)), (.bool x1.2.2.1), (.int .i64 x1.2.2.2.1)]), (.int .i64 x1.2.2.2.2)]) [], .call ⟨true, []⟩ (.tup [(.agg [(.int .i64 x2.1), (.sl 2 (List.map e_u8_i64 x2.2.1)), (.bool x2.2.2.1), (.int .i64 x2.2.2.2.1)]), (.int .i64 x2.2.2.2.2)]) [], .call ⟨true, []⟩ (.tup [(.agg [(.int .i64 x3.1), (.sl 2 (List.map e_u8_i64 x3.2.1)), (.bool x3.2.2.1), (.int .i64 x3.2.2.2.1)]), (.sl 2 (List.map e_u8_i64 x3.2.2.2.2.1)), (.int .i64 x3.2.2.2.2.2)]) [], .call ⟨true, []⟩ (.tup [(.agg [(.int .i64 x4.1), (.sl 2 (List.map e_u8_i64 x4.2.1)), (.bool x4.2.2.1), (.int .i64 x4.2.2.2.1)]), (.sl 2 (List.map e_u8_i64 x4.2.2.2.2.1)), (.int .i64 x4.2.2.2.2.2)]) [], .call ⟨true, []⟩ (.tup [(.agg [(.int .i64 x5.1), (.sl 2 (List.map e_u8_i64 x5.2.1)), (.bool x5.2.2.1), (.int .i64 x5.2.2.2.1)]), (.sl 2 (List.map e_u8_i64 x5.2.2.2.2.1)), (.int .i64 x5.2.2.2.2.2)]) [], .call ⟨true, []⟩ (.tup [(.agg [(.int .i64 x6.1), (.sl 2 (List.map e_u8_i64 x6.2.1)), (.bool x6.2.2.1), (.int .i64 x6.2.2.2.1)]), (.sl 2 (List.map e_u8_i64 x6.2.2.2.2.1)), (.int .i64 x6.2.2.2.2.2)]) [], .d true, .d true, .d true, .d true, .d true, .d true, .d true, .d true, .n x3.2.2.2.2.1.length, .d true, .d true, .d false, .d false, .d false, .d false, .d false, .d false, .d false, .d false, .d false, .d false, .d false, .d false, .d false, .d false, .d false, .d false, .d false, .d false, .d false, .d false, .d false, .d false, .d false, .d false, .d false, .d false, .d false, .d false, .d false, .d false, .d false, .d false, .d false, .d false, .d false, .d false, .d false] [⟨(rfl : false = false)⟩, ⟨(rfl : false = false)⟩, ⟨(rfl : false = false)⟩, ⟨(rfl : false = false)⟩, ⟨(rfl : false = false)⟩, ⟨(rfl : false = false)⟩, ⟨(rfl : false = false)⟩, ⟨(rfl : false = false)⟩, ⟨(rfl : false = false)⟩, ⟨(rfl : false = false)⟩, ⟨(rfl : false = false)⟩, ⟨(rfl : false = false)⟩, ⟨(rfl : false = false)⟩, ⟨(rfl : false = false)⟩, ⟨(rfl : false = false)⟩, ⟨(rfl : false = false)⟩, ⟨(rfl : false = false)⟩, ⟨(rfl : false = false)⟩, ⟨(rfl : false = false)⟩, ⟨(rfl : false = false)⟩, ⟨(rfl : false = false)⟩, ⟨(rfl : false = false)⟩, ⟨(rfl : false = false)⟩, ⟨(rfl : false = false)⟩, ⟨(rfl : false = false)⟩, ⟨(rfl : false = false)⟩, ⟨(rfl : false = false)⟩, ⟨(rfl : false = false)⟩, ⟨(rfl : false = false)⟩, ⟨(rfl : false = false)⟩, ⟨(rfl : false = false)⟩, ⟨c9⟩, ⟨c9⟩, ⟨c9⟩, ⟨c9⟩, ⟨c9⟩, ⟨c9⟩, ⟨c8⟩, ⟨c8⟩, ⟨(len_map e_u8_i64 x3.2.2.2.2.1)⟩, ⟨c8⟩, ⟨c8⟩, ⟨c7⟩, ⟨c7⟩, ⟨c7⟩, ⟨c6⟩, ⟨c6⟩, ⟨c6⟩, ⟨(ok_part_Decide k x4.1 x4.2.1 x4.2.2.1 x4.2.2.2.1 1 _ e5)⟩, ⟨(ok_part_Decide k x4.1 x4.2.1 x4.2.2.1 x4.2.2.2.1 2 _ e4)⟩, ⟨(ok_part_Decide k x3.1 x3.2.1 x3.2.2.1 x3.2.2.2.1 2 _ e3)⟩, ⟨(ok_part_Local k x2.1 x2.2.1 x2.2.2.1 x2.2.2.2.1 _ e2)⟩, ⟨(ok_part_Vote k x1.1 x1.2.1 x1.2.2.1 x1.2.2.2.1 true _ e1)⟩, ⟨(ok_part_Add k 0 [] false 0 3 5 _ e0)⟩] (by kernel_rfl)
        · rw [if_neg c8] at h
          replace c8 := eqf c8
          obtain rfl := Option.some.inj h
          exact Tri.of (x := X9) mixed facts9 [.call ⟨true, [[(1, 2)]]⟩ (.tup [(.agg [(.int .i64 x1.1), (.sl 2 (List.map e_u8_i64 x1.2.1)), (.bool x1.2.2.1), (.int .i64 x1.2.2.2.1)]), (.int .i64 x1.2.2.2.2)]) [], .call ⟨true, []⟩ (.tup [(.agg [(.int .i64 x2.1), (.sl 2 (List.map e_u8_i64 x2.2.1)), (.bool x2.2.2.1), (.int .i64 x2.2.2.2.1)]), (.int .i64 x2.2.2.2.2)]) [], .call ⟨true, []⟩ (.tup [(.agg [(.int .i64 x3.1), (.sl 2 (List.map e_u8_i64 x3.2.1)), (.bool x3.2.2.1), (.int .i64 x3.2.2.2.1)]), (.sl 2 (List.map e_u8_i64 x3.2.2.2.2.1)), (.int .i64 x3.2.2.2.2.2)]) [], .call ⟨true, []⟩ (.tup [(.agg [(.int .i64 x4.1), (.sl 2 (List.map e_u8_i64 x4.2.1)), (.bool x4.2.2.1), (.int .i64 x4.2.2.2.1)]), (.sl 2 (List.map e_u8_i64 x4.2.2.2.2.1)), (.int .i64 x4.2.2.2.2.2)]) [], .call ⟨true, []⟩ (.tup [(.agg [(.int .i64 x5.1), (.sl 2 (List.map e_u8_i64 x5.2.1)), (.bool x5.2.2.1), (.int .i64 x5.2.2.2.1)]), (.sl 2 (List.map e_u8_i64 x5.2.2.2.2.1)), (.int .i64 x5.2.2.2.2.2)]) [], .call ⟨true, []⟩ (.tup [(.agg [(.int .i64 x6.1), (.sl 2 (List.map e_u8_i64 x6.2.1)), (.bool x6.2.2.1), (.int .i64 x6.2.2.2.1)]), (.sl 2 (List.map e_u8_i64 x6.2.2.2.2.1)), (.int .i64 x6.2.2.2.2.2)]) [], .d true, .d true, .d true, .d true, .d true, .d true, .d false, .d false, .d false, .d false, .d false, .d false, .d false, .d false, .d false, .d false, .d false, .d false, .d false, .d false, .d false, .d false, .d false, .d false, .d false, .d false, .d false, .d false, .d false, .d false, .d false, .d false, .d false, .d false, .d false, .d false, .d false, .d false, .d false, .d false, .d false, .d false, .d false, .d false, .d false, .d false, .d false] [⟨(rfl : false = false)⟩, ⟨(rfl : false = false)⟩, ⟨(rfl : false = false)⟩, ⟨(rfl : false = false)⟩, ⟨(rfl : false = false)⟩, ⟨(rfl : false = false)⟩, ⟨(rfl : false = false)⟩, ⟨(rfl : false = false)⟩, ⟨(rfl : false = false)⟩, ⟨(rfl : false = false)⟩, ⟨(rfl : false = false)⟩, ⟨(rfl : false = false)⟩, ⟨(rfl : false = false)⟩, ⟨(rfl : false = false)⟩, ⟨(rfl : false = false)⟩, ⟨(rfl : false = false)⟩, ⟨(rfl : false = false)⟩, ⟨(rfl : false = false)⟩, ⟨(rfl : false = false)⟩, ⟨(rfl : false = false)⟩, ⟨(rfl : false = false)⟩, ⟨(rfl : false = false)⟩, ⟨(rfl : false = false)⟩, ⟨(rfl : false = false)⟩, ⟨(rfl : false = false)⟩, ⟨(rfl : false = false)⟩, ⟨(rfl : false = false)⟩, ⟨(rfl : false = false)⟩, ⟨(rfl : false = false)⟩, ⟨(rfl : false = false)⟩, ⟨(rfl : false = false)⟩, ⟨(rfl : false = false)⟩, ⟨(rfl : false = false)⟩, ⟨(rfl : false = false)⟩, ⟨(rfl : false = false)⟩, ⟨(rfl : false = false)⟩, ⟨(rfl : false = false)⟩, ⟨c8⟩, ⟨c8⟩, ⟨c8⟩, ⟨c8⟩, ⟨c7⟩, ⟨c7⟩, ⟨c7⟩, ⟨c6⟩, ⟨c6⟩, ⟨c6⟩, ⟨(ok_part_Decide k x4.1 x4.2.1 x4.2.2.1 x4.2.2.2.1 1 _ e5)⟩, ⟨(ok_part_Decide k x4.1 x4.2.1 x4.2.2.1 x4.2.2.2.1 2 _ e4)⟩, ⟨(ok_part_Decide k x3.1 x3.2.1 x3.2.2.1 x3.2.2.2.1 2 _ e3)⟩, ⟨(ok_part_Local k x2.1 x2.2.1 x2.2.2.1 x2.2.2.2.1 _ e2)⟩, ⟨(ok_part_Vote k x1.1 x1.2.1 x1.2.2.1 x1.2.2.2.1 true _ e1)⟩, ⟨(ok_part_Add k 0 [] false 0 3 5 _ e0)⟩] (by kernel_rfl)
      · rw [if_neg c7] at h
        replace c7 := eqf c7
        obtain rfl := Option.some.inj h
        exact Tri.of (x := X9) mixed facts9 [.call ⟨true, [[(1, 2)]]⟩ (.tup [(.agg [(.int .i64 x1.1), (.sl 2 (List.map e_u8_i64 x1.2.1)), (.bool x1.2.2.1), (.int .i64 x1.2.2.2.1)]), (.int .i64 x1.2.2.2.2)]) [], .call ⟨true, []⟩ (.tup [(.agg [(.int .i64 x2.1), (.sl 2 (List.map e_u8_i64 x2.2.1)), (.bool x2.2.2.1), (.int .i64 x2.2.2.2.1)]), (.int .i64 x2.2.2.2.2)]) [], .call ⟨true, []⟩ (.tup [(.agg [(.int .i64 x3.1), (.sl 2 (List.map e_u8_i64 x3.2.1)), (.bool x3.2.2.1), (.int .i64 x3.2.2.2.1)]), (.sl 2 (List.map e_u8_i64 x3.2.2.2.2.1)), (.int .i64 x3.2.2.2.2.2)]) [], .call ⟨true, []⟩ (.tup [(.agg [(.int .i64 x4.1), (.sl 2 (List.map e_u8_i64 x4.2.1)), (.bool x4.2.2.1), (.int .i64 x4.2.2.2.1)]), (.sl 2 (List.map e_u8_i64 x4.2.2.2.2.1)), (.int .i64 x4.2.2.2.2.2)]) [], .call ⟨true, []⟩ (.tup [(.agg [(.int .i64 x5.1), (.sl 2 (List.map e_u8_i64 x5.2.1)), (.bool x5.2.2.1), (.int .i64 x5.2.2.2.1)]), (.sl 2 (List.map e_u8_i64 x5.2.2.2.2.1)), (.int .i64 x5.2.2.2.2.2)]) [], .call ⟨true, []⟩ (.tup [(.agg [(.int .i64 x6.1), (.sl 2 (List.map e_u8_i64 x6.2.1)), (.bool x6.2.2.1), (.int .i64 x6.2.2.2.1)]), (.sl 2 (List.map e_u8_i64 x6.2.2.2.2.1)), (.int .i64 x6.2.2.2.2.2)]) [], .d true, .d true, .d true, .d false, .d false, .d false, .d false, .d false, .d false, .d false, .d false, .d false, .d false, .d false, .d false, .d false, .d false, .d false, .d false, .d false, .d false, .d false, .d false, .d false, .d false, .d false, .d false, .d false, .d false, .d false, .d false, .d false, .d false, .d false, .d false, .d false, .d false, .d false, .d false, .d false, .d false, .d false, .d false, .d false, .d false, .d false, .d false] [⟨(rfl : false = false)⟩, ⟨(rfl : false = false)⟩, ⟨(rfl : false = false)⟩, ⟨(rfl : false = false)⟩, ⟨(rfl : false = false)⟩, ⟨(rfl : false = false)⟩, ⟨(rfl : false = false)⟩, ⟨(rfl : false = false)⟩, ⟨(rfl : false = false)⟩, ⟨(rfl : false = false)⟩, ⟨(rfl : false = false)⟩, ⟨(rfl : false = false)⟩, ⟨(rfl : false = false)⟩, ⟨(rfl : false = false)⟩, ⟨(rfl : false = false)⟩, ⟨(rfl : false = false)⟩, ⟨(rfl : false = false)⟩, ⟨(rfl : false = false)⟩, ⟨(rfl : false = false)⟩, ⟨(rfl : false = false)⟩, ⟨(rfl : false = false)⟩, ⟨(rfl : false = false)⟩, ⟨(rfl : false = false)⟩, ⟨(rfl : false = false)⟩, ⟨(rfl : false = false)⟩, ⟨(rfl : false = false)⟩, ⟨(rfl : false = false)⟩, ⟨(rfl : false = false)⟩, ⟨(rfl : false = false)⟩, ⟨(rfl : false = false)⟩, ⟨(rfl : false = false)⟩, ⟨(rfl : false = false)⟩, ⟨(rfl : false = false)⟩, ⟨(rfl : false = false)⟩, ⟨(rfl : false = false)⟩, ⟨(rfl : false = false)⟩, ⟨(rfl : false = false)⟩, ⟨(rfl : false = false)⟩, ⟨(rfl : false = false)⟩, ⟨(rfl : false = false)⟩, ⟨(rfl : false = false)⟩, ⟨c7⟩, ⟨c7⟩, ⟨c7⟩, ⟨c6⟩, ⟨c6⟩, ⟨c6⟩, ⟨(ok_part_Decide k x4.1 x4.2.1 x4.2.2.1 x4.2.2.2.1 1 _ e5)⟩, ⟨(ok_part_Decide k x4.1 x4.2.1 x4.2.2.1 x4.2.2.2.1 2 _ e4)⟩, ⟨(ok_part_Decide k x3.1 x3.2.1 x3.2.2.1 x3.2.2.2.1 2 _ e3)⟩, ⟨(ok_part_Local k x2.1 x2.2.1 x2.2.2.1 x2.2.2.2.1 _ e2)⟩, ⟨(ok_part_Vote k x1.1 x1.2.1 x1.2.2.1 x1.2.2.2.1 true _ e1)⟩, ⟨(ok_part_Add k 0 [] false 0 3 5 _ e0)⟩] (by kernel_rfl)
    · rw [if_neg c6] at h
      replace c6 := eqf c6
      obtain rfl := Option.some.inj h
      exact Tri.of (x := X9) mixed facts9 [.call ⟨true, [[(1, 2)]]⟩ (.tup [(.agg [(.int .i64 x1.1), (.sl 2 (List.map e_u8_i64 x1.2.1)), (.bool x1.2.2.1), (.int .i64 x1.2.2.2.1)]), (.int .i64 x1.2.2.2.2)]) [], .call ⟨true, []⟩ (.tup [(.agg [(.int .i64 x2.1), (.sl 2 (List.map e_u8_i64 x2.2.1)), (.bool x2.2.2.1), (.int .i64 x2.2.2.2.1)]), (.int .i64 x2.2.2.2.2)]) [], .call ⟨true, []⟩ (.tup [(.agg [(.int .i64 x3.1), (.sl 2 (List.map e_u8_i64 x3.2.1)), (.bool x3.2.2.1), (.int .i64 x3.2.2.2.1)]), (.sl 2 (List.map e_u8_i64 x3.2.2.2.2.1)), (.int .i64 x3.2.2.2.2.2)]) [], .call ⟨true, []⟩ (.tup [(.agg [(.int .i64 x4.1), (.sl 2 (List.map e_u8_i64 x4.2.1)), (.bool x4.2.2.1), (.int .i64 x4.2.2.2.1)]), (.sl 2 (List.map e_u8_i64 x4.2.2.2.2.1)), (.int .i64 x4.2.2.2.2.2)]) [], .call ⟨true, []⟩ (.tup [(.agg [(.int .i64 x5.1), (.sl 2 (List.map e_u8_i64 x5.2.1)), (.bool x5.2.2.1), (.int .i64 x5.2.2.2.1)]), (.sl 2 (List.map e_u8_i64 x5.2.2.2.2.1)), (.int .i64 x5.2.2.2.2.2)]) [], .call ⟨true, []⟩ (.tup [(.agg [(.int .i64 x6.1), (.sl 2 (List.map e_u8_i64 x6.2.1)), (.bool x6.2.2.1), (.int .i64 x6.2.2.2.1)]), (.sl 2 (List.map e_u8_i64 x6.2.2.2.2.1)), (.int .i64 x6.2.2.2.2.2)]) [], .d false, .d false, .d false, .d false, .d false, .d false, .d false, .d false, .d false, .d false, .d false, .d false, .d false, .d false, .d false, .d false, .d false, .d false, .d false, .d false, .d false, .d false, .d false, .d false, .d false, .d false, .d false, .d false, .d false, .d false, .d false, .d false, .d false, .d false, .d false, .d false, .d false, .d false, .d false, .d false, .d false, .d false, .d false, .d false, .d false, .d false, .d false] [⟨(rfl : false = false)⟩, ⟨(rfl : false = false)⟩, ⟨(rfl : false = false)⟩, ⟨(rfl : false = false)⟩, ⟨(rfl : false = false)⟩, ⟨(rfl : false = false)⟩, ⟨(rfl : false = false)⟩, ⟨(rfl : false = false)⟩, ⟨(rfl : false = false)⟩, ⟨(rfl : false = false)⟩, ⟨(rfl : false = false)⟩, ⟨(rfl : false = false)⟩, ⟨(rfl : false = false)⟩, ⟨(rfl : false = false)⟩, ⟨(rfl : false = false)⟩, ⟨(rfl : false = false)⟩, ⟨(rfl : false = false)⟩, ⟨(rfl : false = false)⟩, ⟨(rfl : false = false)⟩, ⟨(rfl : false = false)⟩, ⟨(rfl : false = false)⟩, ⟨(rfl : false = false)⟩, ⟨(rfl : false = false)⟩, ⟨(rfl : false = false)⟩, ⟨(rfl : false = false)⟩, ⟨(rfl : false = false)⟩, ⟨(rfl : false = false)⟩, ⟨(rfl : false = false)⟩, ⟨(rfl : false = false)⟩, ⟨(rfl : false = false)⟩, ⟨(rfl : false = false)⟩, ⟨(rfl : false = false)⟩, ⟨(rfl : false = false)⟩, ⟨(rfl : false = false)⟩, ⟨(rfl : false = false)⟩, ⟨(rfl : false = false)⟩, ⟨(rfl : false = false)⟩, ⟨(rfl : false = false)⟩, ⟨(rfl : false = false)⟩, ⟨(rfl : false = false)⟩, ⟨(rfl : false = false)⟩, ⟨(rfl : false = false)⟩, ⟨(rfl : false = false)⟩, ⟨(rfl : false = false)⟩, ⟨c6⟩, ⟨c6⟩, ⟨c6⟩, ⟨(ok_part_Decide k x4.1 x4.2.1 x4.2.2.1 x4.2.2.2.1 1 _ e5)⟩, ⟨(ok_part_Decide k x4.1 x4.2.1 x4.2.2.1 x4.2.2.2.1 2 _ e4)⟩, ⟨(ok_part_Decide k x3.1 x3.2.1 x3.2.2.1 x3.2.2.2.1 2 _ e3)⟩, ⟨(ok_part_Local k x2.1 x2.2.1 x2.2.2.1 x2.2.2.2.1 _ e2)⟩, ⟨(ok_part_Vote k x1.1 x1.2.1 x1.2.2.1 x1.2.2.2.1 true _ e1)⟩, ⟨(ok_part_Add k 0 [] false 0 3 5 _ e0)⟩] (by kernel_rfl)
end Go.Ws

namespace Go.Ws
open Go.Proofs
set_option linter.unusedSimpArgs false
set_option linter.unusedVariables false
set_option maxRecDepth 1000000
set_option maxHeartbeats 4000000
noncomputable def X33 : Ctx := ⟨Try.f33, [], true⟩
noncomputable def L33_0 : Code := at_ Try.f33 [1, 1, 0, 1, 4, 5]
def S33_0 (x1 : List (Int × Int)) (x2 : Int) (v33001_1 : Int) (v33001_2 : Int) : St := ⟨mkT 28 [(0, (.sl 2 (List.map e_u8_i64 x1))), (1, (.int .u8 x2)), (5, (.int .i64 v33001_1)), (6, (.int .i64 v33001_2))], []⟩
def E33_0_0 (v33002_1 : Int) : St := ⟨mkT 28 [(5, (.int .i64 v33002_1))], []⟩
def O33_0 (x1 : List (Int × Int)) (x2 : Int) (y : (Int)) : GX := .st (.exit 0) (E33_0_0 y)
theorem ok_ref08_sum_l0 (x1 : List (Int × Int)) (x2 : Int) (y : (Int)) : ∀ (k : Nat) (v33001_1 : Int) (v33001_2 : Int), ref08_sum_l0 k x1 x2 v33001_1 v33001_2 = some y → LT Try.prog X33 L33_0 (S33_0 x1 x2 v33001_1 v33001_2) (O33_0 x1 x2 y)
  | 0, v33001_1, v33001_2, h => by cases h
  | k + 1, v33001_1, v33001_2, h => by
    rw [ref08_sum_l0] at h
    by_cases cL0 : ltI v33001_2 (nI x1.length) = true
    · rw [if_pos cL0] at h
      by_cases cL1 : inI v33001_2 x1.length = true
      · rw [if_pos cL1] at h
        obtain ⟨v33000_1, eL2, h⟩ := Option.bind_eq_some_iff.1 h
        by_cases cL3 : eqI v33000_1.1 x2 = true
        · rw [if_pos cL3] at h
          exact LT.next mixed (hs := ⟨[(0, []), (1, []), (5, []), (6, [])], [], false, [], []⟩) (es := none) [.n x1.length, .d true, .n x1.length, .row [(.int .u8 v33000_1.1)], .d true, .n x1.length, .row [(.int .i64 v33000_1.2)]] [⟨(cells_map (e := e_u8_i64) eL2 2 1 1 (by decide))⟩, ⟨cL1⟩, ⟨(len_map e_u8_i64 x1)⟩, ⟨cL3⟩, ⟨(cells_map (e := e_u8_i64) eL2 2 0 1 (by decide))⟩, ⟨cL1⟩, ⟨(len_map e_u8_i64 x1)⟩, ⟨cL0⟩, ⟨(len_map e_u8_i64 x1)⟩] (by kernel_rfl) (ok_ref08_sum_l0 x1 x2 y k (iadd .i64 v33001_1 v33000_1.2) (iadd .i64 v33001_2 1) h)
        · rw [if_neg cL3] at h
          replace cL3 := eqf cL3
          exact LT.next mixed (hs := ⟨[(0, []), (1, []), (5, []), (6, [])], [], false, [], []⟩) (es := none) [.n x1.length, .d true, .n x1.length, .row [(.int .u8 v33000_1.1)], .d false] [⟨cL3⟩, ⟨(cells_map (e := e_u8_i64) eL2 2 0 1 (by decide))⟩, ⟨cL1⟩, ⟨(len_map e_u8_i64 x1)⟩, ⟨cL0⟩, ⟨(len_map e_u8_i64 x1)⟩] (by kernel_rfl) (ok_ref08_sum_l0 x1 x2 y k v33001_1 (iadd .i64 v33001_2 1) h)
      · rw [if_neg cL1] at h
        replace cL1 := eqf cL1
        cases h
    · rw [if_neg cL0] at h
      replace cL0 := eqf cL0
      obtain rfl := Option.some.inj h
      show LT _ _ _ _ (.st (.exit 0) (E33_0_0 v33001_1))
      exact LT.done mixed (hs := ⟨[], [], false, [], []⟩) (es := (some ⟨[(5, [])], [], false, [], []⟩)) [.n x1.length, .d false] [⟨cL0⟩, ⟨(len_map e_u8_i64 x1)⟩] (by kernel_rfl) (fun s h => by cases h)
theorem ok_ref08_sum (k : Nat) (x1 : List (Int × Int)) (x2 : Int) (r : Int) (h : ref08_sum k x1 x2 = some r) : Tri Try.prog 33 [(.sl 2 (List.map e_u8_i64 x1)), (.int .u8 x2)] [] (.int .i64 r) [] := by
    unfold ref08_sum at h
    obtain ⟨x4, e0, h⟩ := Option.bind_eq_some_iff.1 h
    obtain rfl := Option.some.inj h
    exact Tri.of (x := X33) mixed facts33 [.norm 2 ⟨[(0, []), (1, []), (5, []), (6, [])], [], false, [], []⟩, .out (.st .normal (E33_0_0 x4))] [⟨(LT.block (ok_ref08_sum_l0 x1 x2 _ k 0 0 e0))⟩] (by kernel_rfl)
end Go.Ws

namespace Go.Ws
open Go.Proofs
set_option linter.unusedSimpArgs false
set_option linter.unusedVariables false
set_option maxRecDepth 1000000
set_option maxHeartbeats 4000000
noncomputable def X17_1 : Ctx := ⟨Try.f17, [], false⟩
noncomputable def L17_1_0 : Code := at_ Try.f17 [1, 1, 0, 1, 4, 5]
def S17_1_0 (x1 : List (Int × Int)) (v117001_1 : Int) (v117001_2 : List (Int × Int)) : St := ⟨mkT 24 [(0, (.sl 2 (List.map e_u8_i64 x1))), (3, (.ref 2 0 0 0 v117001_2.length .virt)), (4, (.int .i64 v117001_1))], [(.arr 2 (List.map e_u8_i64 v117001_2) 0 0 false)]⟩
def E17_1_0_0 (v117002_1 : List (Int × Int)) : St := ⟨mkT 24 [(3, (.ref 2 0 0 0 v117002_1.length .virt))], [(.arr 2 (List.map e_u8_i64 v117002_1) 0 0 false)]⟩
def O17_1_0 (x1 : List (Int × Int)) (y : ((List (Int × Int)))) : GX := .st (.exit 0) (E17_1_0_0 y)
theorem ok_ref08_Of_1_l0 (x1 : List (Int × Int)) (y : ((List (Int × Int)))) : ∀ (k : Nat) (v117001_1 : Int) (v117001_2 : List (Int × Int)), ref08_Of_1_l0 k x1 v117001_1 v117001_2 = some y → LT Try.prog X17_1 L17_1_0 (S17_1_0 x1 v117001_1 v117001_2) (O17_1_0 x1 y)
  | 0, v117001_1, v117001_2, h => by cases h
  | k + 1, v117001_1, v117001_2, h => by
    rw [ref08_Of_1_l0] at h
    by_cases cL0 : ltI v117001_1 64 = true
    · rw [if_pos cL0] at h
      obtain ⟨v117000_1, eL1, h⟩ := Option.bind_eq_some_iff.1 h
      by_cases cL2 : eqI v117000_1 0 = true
      · rw [if_pos cL2] at h
        exact LT.next mixed (hs := ⟨[(0, []), (3, []), (4, [])], [⟨.tmp 3, [], some 2⟩], false, [], []⟩) (es := none) [.d true, .call ⟨true, []⟩ (.int .i64 v117000_1) [], .d false, .n v117001_2.length, .rows (List.map e_u8_i64 v117001_2)] [⟨(take_all e_u8_i64 (l := v117001_2) (n := v117001_2.length) rfl)⟩, ⟨(rfl : v117001_2.length = v117001_2.length)⟩, ⟨(zle v117001_2.length)⟩, ⟨(nF cL2)⟩, ⟨(ok_ref08_sum k x1 (conv .u8 v117001_1) _ eL1)⟩, ⟨cL0⟩] (by kernel_rfl) (ok_ref08_Of_1_l0 x1 y k (iadd .i64 v117001_1 1) v117001_2 h)
      · rw [if_neg cL2] at h
        replace cL2 := eqf cL2
        by_cases cL3 : roomI (((v117001_2 ++ [(conv .u8 v117001_1, v117000_1)]).length) * 16) = true
        · rw [if_pos cL3] at h
          exact LT.next mixed (hs := ⟨[(0, []), (3, []), (4, [])], [⟨.tmp 3, [], some 2⟩], false, [], []⟩) (es := none) [.d true, .call ⟨true, []⟩ (.int .i64 v117000_1) [], .d true, .rows (List.map e_u8_i64 [(conv .u8 v117001_1, v117000_1)]), .n ((v117001_2 ++ [(conv .u8 v117001_1, v117000_1)]).length), .n v117001_2.length, .d true, .rows (List.map e_u8_i64 (v117001_2 ++ [(conv .u8 v117001_1, v117000_1)])), .n ((v117001_2 ++ [(conv .u8 v117001_1, v117000_1)]).length), .rows (List.map e_u8_i64 (v117001_2 ++ [(conv .u8 v117001_1, v117000_1)]))] [⟨(take_all e_u8_i64 (l := (v117001_2 ++ [(conv .u8 v117001_1, v117000_1)])) (n := ((v117001_2 ++ [(conv .u8 v117001_1, v117000_1)]).length)) rfl)⟩, ⟨(rfl : (v117001_2 ++ [(conv .u8 v117001_1, v117000_1)]).length = (v117001_2 ++ [(conv .u8 v117001_1, v117000_1)]).length)⟩, ⟨(zle ((v117001_2 ++ [(conv .u8 v117001_1, v117000_1)]).length))⟩, ⟨(app_map e_u8_i64 v117001_2 [(conv .u8 v117001_1, v117000_1)])⟩, ⟨(eqN_self v117001_2.length)⟩, ⟨(len_map e_u8_i64 v117001_2)⟩, ⟨cL3⟩, ⟨(by simp only [List.length_append, List.length_cons, List.length_nil, List.length_take, List.length_drop, List.length_set, List.length_replicate, List.length_map, List.map_nil, List.map_cons] <;> omega : v117001_2.length + (List.map e_u8_i64 [(conv .u8 v117001_1, v117000_1)]).length = (v117001_2 ++ [(conv .u8 v117001_1, v117000_1)]).length)⟩, ⟨(part_all e_u8_i64 (l := [(conv .u8 v117001_1, v117000_1)]) (n := 1) rfl)⟩, ⟨(le_map e_u8_i64 (Nat.le_refl 1) : 0 + 1 ≤ (List.map e_u8_i64 [(conv .u8 v117001_1, v117000_1)]).length)⟩, ⟨(nT cL2)⟩, ⟨(ok_ref08_sum k x1 (conv .u8 v117001_1) _ eL1)⟩, ⟨cL0⟩] (by kernel_rfl) (ok_ref08_Of_1_l0 x1 y k (iadd .i64 v117001_1 1) (v117001_2 ++ [(conv .u8 v117001_1, v117000_1)]) h)
        · rw [if_neg cL3] at h
          replace cL3 := eqf cL3
          cases h
    · rw [if_neg cL0] at h
      replace cL0 := eqf cL0
      obtain rfl := Option.some.inj h
      show LT _ _ _ _ (.st (.exit 0) (E17_1_0_0 v117001_2))
      exact LT.done mixed (hs := ⟨[], [], false, [], []⟩) (es := (some ⟨[(3, [])], [⟨.tmp 3, [], none⟩], false, [], []⟩)) [.d false] [⟨cL0⟩] (by kernel_rfl) (fun s h => by cases h)
theorem ok_ref08_Of_1 (k : Nat) (x1 : List (Int × Int)) (r : (List (Int × Int))) (h : ref08_Of_1 k x1 = some r) : Tri Try.prog 17 [(.sl 2 (List.map e_u8_i64 x1))] [] (.ref 2 0 0 0 r.length .virt) [(.arr 2 (List.map e_u8_i64 r) 0 0 false)] := by
    unfold ref08_Of_1 at h
    obtain ⟨x3, e0, h⟩ := Option.bind_eq_some_iff.1 h
    obtain rfl := Option.some.inj h
    exact Tri.of (x := X17_1) mixed facts17 [.norm 2 ⟨[(0, []), (3, []), (4, [])], [⟨.tmp 3, [], some 2⟩], false, [], []⟩, .n 0, .rows (List.map e_u8_i64 []), .out (.st .normal (E17_1_0_0 x3)), .norm 0 ⟨[(2, [])], [⟨.tmp 2, [], none⟩], false, [], []⟩] [⟨(LT.block (ok_ref08_Of_1_l0 x1 _ k 0 [] e0))⟩, ⟨(take_all e_u8_i64 (l := []) (n := 0) rfl)⟩, ⟨(rfl : 0 = 0)⟩, ⟨(zle 0)⟩] (by kernel_rfl)
end Go.Ws

namespace Go.Ws
open Go.Proofs
set_option linter.unusedSimpArgs false
set_option linter.unusedVariables false
set_option maxRecDepth 1000000
set_option maxHeartbeats 4000000
noncomputable def X17_2 (x1 : List (Int × Int)) : Ctx := ⟨Try.f17, [(.arr 2 (List.map e_u8_i64 x1) 1 0 false)], false⟩
noncomputable def L17_2_0 : Code := at_ Try.f17 [1, 1, 0, 1, 4, 5]
def S17_2_0 (x1 : List (Int × Int)) (v217001_1 : Int) (v217001_2 : List (Int × Int)) : St := ⟨mkT 24 [(0, (.ref 2 0 1 0 x1.length .virt)), (3, (.ref 2 1 0 0 v217001_2.length .virt)), (4, (.int .i64 v217001_1))], [(.arr 2 (List.map e_u8_i64 x1) 1 0 false), (.arr 2 (List.map e_u8_i64 v217001_2) 0 0 false)]⟩
def E17_2_0_0 (x1 : List (Int × Int)) (v217002_1 : List (Int × Int)) : St := ⟨mkT 24 [(3, (.ref 2 1 0 0 v217002_1.length .virt))], [(.arr 2 (List.map e_u8_i64 x1) 1 0 false), (.arr 2 (List.map e_u8_i64 v217002_1) 0 0 false)]⟩
def O17_2_0 (x1 : List (Int × Int)) (y : ((List (Int × Int)))) : GX := .st (.exit 0) (E17_2_0_0 x1 y)
theorem ok_ref08_Of_2_l0 (x1 : List (Int × Int)) (y : ((List (Int × Int)))) : ∀ (k : Nat) (v217001_1 : Int) (v217001_2 : List (Int × Int)), ref08_Of_2_l0 k x1 v217001_1 v217001_2 = some y → LT Try.prog (X17_2 x1) L17_2_0 (S17_2_0 x1 v217001_1 v217001_2) (O17_2_0 x1 y)
  | 0, v217001_1, v217001_2, h => by cases h
  | k + 1, v217001_1, v217001_2, h => by
    rw [ref08_Of_2_l0] at h
    by_cases cL0 : ltI v217001_1 64 = true
    · rw [if_pos cL0] at h
      obtain ⟨v217000_1, eL1, h⟩ := Option.bind_eq_some_iff.1 h
      by_cases cL2 : eqI v217000_1 0 = true
      · rw [if_pos cL2] at h
        exact LT.next mixed (hs := ⟨[(0, []), (3, []), (4, [])], [⟨.tmp 3, [], some 2⟩], false, [], []⟩) (es := none) [.d true, .call ⟨true, []⟩ (.int .i64 v217000_1) [], .rows (List.map e_u8_i64 x1), .d false, .n v217001_2.length, .rows (List.map e_u8_i64 v217001_2)] [⟨(take_all e_u8_i64 (l := v217001_2) (n := v217001_2.length) rfl)⟩, ⟨(rfl : v217001_2.length = v217001_2.length)⟩, ⟨(zle v217001_2.length)⟩, ⟨(nF cL2)⟩, ⟨(ok_ref08_sum k x1 (conv .u8 v217001_1) _ eL1)⟩, ⟨(part_all e_u8_i64 (l := x1) (n := x1.length) rfl)⟩, ⟨(le_map e_u8_i64 (Nat.le_refl x1.length) : 0 + x1.length ≤ (List.map e_u8_i64 x1).length)⟩, ⟨cL0⟩] (by kernel_rfl) (ok_ref08_Of_2_l0 x1 y k (iadd .i64 v217001_1 1) v217001_2 h)
      · rw [if_neg cL2] at h
        replace cL2 := eqf cL2
        by_cases cL3 : roomI (((v217001_2 ++ [(conv .u8 v217001_1, v217000_1)]).length) * 16) = true
        · rw [if_pos cL3] at h
          exact LT.next mixed (hs := ⟨[(0, []), (3, []), (4, [])], [⟨.tmp 3, [], some 2⟩], false, [], []⟩) (es := none) [.d true, .call ⟨true, []⟩ (.int .i64 v217000_1) [], .rows (List.map e_u8_i64 x1), .d true, .rows (List.map e_u8_i64 [(conv .u8 v217001_1, v217000_1)]), .n ((v217001_2 ++ [(conv .u8 v217001_1, v217000_1)]).length), .n v217001_2.length, .d true, .rows (List.map e_u8_i64 (v217001_2 ++ [(conv .u8 v217001_1, v217000_1)])), .n ((v217001_2 ++ [(conv .u8 v217001_1, v217000_1)]).length), .rows (List.map e_u8_i64 (v217001_2 ++ [(conv .u8 v217001_1, v217000_1)]))] [⟨(take_all e_u8_i64 (l := (v217001_2 ++ [(conv .u8 v217001_1, v217000_1)])) (n := ((v217001_2 ++ [(conv .u8 v217001_1, v217000_1)]).length)) rfl)⟩, ⟨(rfl : (v217001_2 ++ [(conv .u8 v217001_1, v217000_1)]).length = (v217001_2 ++ [(conv .u8 v217001_1, v217000_1)]).length)⟩, ⟨(zle ((v217001_2 ++ [(conv .u8 v217001_1, v217000_1)]).length))⟩, ⟨(app_map e_u8_i64 v217001_2 [(conv .u8 v217001_1, v217000_1)])⟩, ⟨(eqN_self v217001_2.length)⟩, ⟨(len_map e_u8_i64 v217001_2)⟩, ⟨cL3⟩, ⟨(by simp only [List.length_append, List.length_cons, List.length_nil, List.length_take, List.length_drop, List.length_set, List.length_replicate, List.length_map, List.map_nil, List.map_cons] <;> omega : v217001_2.length + (List.map e_u8_i64 [(conv .u8 v217001_1, v217000_1)]).length = (v217001_2 ++ [(conv .u8 v217001_1, v217000_1)]).length)⟩, ⟨(part_all e_u8_i64 (l := [(conv .u8 v217001_1, v217000_1)]) (n := 1) rfl)⟩, ⟨(le_map e_u8_i64 (Nat.le_refl 1) : 0 + 1 ≤ (List.map e_u8_i64 [(conv .u8 v217001_1, v217000_1)]).length)⟩, ⟨(nT cL2)⟩, ⟨(ok_ref08_sum k x1 (conv .u8 v217001_1) _ eL1)⟩, ⟨(part_all e_u8_i64 (l := x1) (n := x1.length) rfl)⟩, ⟨(le_map e_u8_i64 (Nat.le_refl x1.length) : 0 + x1.length ≤ (List.map e_u8_i64 x1).length)⟩, ⟨cL0⟩] (by kernel_rfl) (ok_ref08_Of_2_l0 x1 y k (iadd .i64 v217001_1 1) (v217001_2 ++ [(conv .u8 v217001_1, v217000_1)]) h)
        · rw [if_neg cL3] at h
          replace cL3 := eqf cL3
          cases h
    · rw [if_neg cL0] at h
      replace cL0 := eqf cL0
      obtain rfl := Option.some.inj h
      show LT _ _ _ _ (.st (.exit 0) (E17_2_0_0 x1 v217001_2))
      exact LT.done mixed (hs := ⟨[], [], false, [], []⟩) (es := (some ⟨[(3, [])], [⟨.tmp 3, [], none⟩], false, [], []⟩)) [.d false] [⟨cL0⟩] (by kernel_rfl) (fun s h => by cases h)
theorem ok_ref08_Of_2 (k : Nat) (x1 : List (Int × Int)) (r : (List (Int × Int))) (h : ref08_Of_2 k x1 = some r) : Tri Try.prog 17 [(.ref 2 0 1 0 x1.length .virt)] [(.arr 2 (List.map e_u8_i64 x1) 1 0 false)] (.ref 2 1 0 0 r.length .virt) [(.arr 2 (List.map e_u8_i64 x1) 1 0 false), (.arr 2 (List.map e_u8_i64 r) 0 0 false)] := by
    unfold ref08_Of_2 at h
    obtain ⟨x3, e0, h⟩ := Option.bind_eq_some_iff.1 h
    obtain rfl := Option.some.inj h
    exact Tri.of (x := (X17_2 x1)) mixed facts17 [.norm 2 ⟨[(0, []), (3, []), (4, [])], [⟨.tmp 3, [], some 2⟩], false, [], []⟩, .n 0, .rows (List.map e_u8_i64 []), .out (.st .normal (E17_2_0_0 x1 x3)), .norm 0 ⟨[(2, [])], [⟨.tmp 2, [], none⟩], false, [], []⟩] [⟨(LT.block (ok_ref08_Of_2_l0 x1 _ k 0 [] e0))⟩, ⟨(take_all e_u8_i64 (l := []) (n := 0) rfl)⟩, ⟨(rfl : 0 = 0)⟩, ⟨(zle 0)⟩] (by kernel_rfl)
end Go.Ws
